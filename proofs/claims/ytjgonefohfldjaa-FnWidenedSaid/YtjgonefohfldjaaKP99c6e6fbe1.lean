/- Walks of Go functions: each is shown to answer as the Lean function beside it tells, under the conditions that its theorem names. -/
import Derived.Test.YtjgonefohfldjaaProg
import Derived.KernelRfl
import Derived.Below
import Derived.Deep.Draws
import Derived.Deep.AppendLies
import Derived.Maps.AppendAt
import Derived.OwnWalk
import Derived.Laws.BytesArg
import Derived.Laws.MakeOwn
import Derived.Laws.OwnMore
import Derived.Deep.OwnRows
import Derived.Tactics
import Derived.Lib.ConvBytes
import Derived.Laws.Slices
import Derived.WalkKit
import Derived.RowKit3
import Derived.Deep.LoopGhost
import Derived.Deep.QuietTactic
import Derived.BigQuiet
import Derived.WideLaws
import Derived.Deep.DeepCutAuto
import Derived.Deep.CutBlock
import Derived.Deep.RegionHeld3
import Derived.Laws.Rows
import Derived.Lib.AppendStr
import Derived.ArgAppend
import Derived.Laws.IdiomCopy
import Derived.OrdersHeld
import Derived.Laws.BitsLemmas
import Derived.RowKit
import Derived.Laws.StructEq
import Derived.Lib.SliceRun
import Derived.WalkSpells
import Derived.ChangeArms
import Derived.ChangeSlices
import Derived.Deep.Slices
import Derived.Attr
import Derived.Laws.Append
import Derived.Laws.AppendOwn
import Derived.Laws.Entries
import Derived.Calls
import Derived.Laws.Sem
import Derived.Test.YtjgonefohfldjaaKPcb026b7149
namespace Go.Proofs.Ytjgonefohfldjaa.PA
open Go Go.Abs Go.RowKit Go.Proofs Go.Proofs.YtjgonefohfldjaaW.PrintWords Go.Proofs.YtjgonefohfldjaaW.PrintLast Go.Proofs.YtjgonefohfldjaaW.PrintMore
set_option maxRecDepth 100000
set_option maxHeartbeats 4000000
set_option linter.unusedVariables false
set_option linter.unusedSimpArgs false
theorem spec_l1Terms.evb {k : Nat} {S0 : Sto} {l0_0 : List Int} {a0_1 : Int} {i0 : Abs.Id} {q0 : PV} (hq0 : Sl (cInt .u8) l0_0 q0) (hb0 : Box (.ptr i0 0) [q0, .lit (.int .i64 a0_1)] S0) {a1 : Int} {a2 : Int} {a3 : Int} {r : Int × (List ITerm)} (H : spec_l1Terms.f k l0_0 a0_1 a1 a2 a3 = some r) : RetS Try.prog 119 [.ptr i0 0, .lit (.int .i64 a1), .lit (.int .i64 a2), .lit (.int .i64 a3)] S0 fun v S => Vec cITerm r.2 v S ∧ New S0 v ∧ Box (.ptr i0 0) [q0, .lit (.int .i64 r.1)] S ∧ Same S0 S [i0] := by
 have hs0 : Same S0 S0 [i0] := .refl _ _
 unfold spec_l1Terms.f at H
 refine RetS.intro Try.func119 rfl (Nat.le_of_ble_eq_true rfl) rfl ?_
 rw [tm4]
 refine Evr.sr rfl (Opl.p1 (n := Opl.nil (Evr.sr rfl (Opl.lits (M := cITerm) (ys := []) [] K44 T95 rfl rfl rfl trivial rfl (by decide) rfl rfl rfl ?_))))
 rintro pv1 S h1 u1 w1
 have ap1 := w1.sameP hs0
 have h2 := u1.sameP hs0 ap1
 have ap2 := w1.box hb0
 have h3 := u1.box hb0 ap2
 refine Opl.p1 (n := Opl.nil (Evr.sr rfl (Opl.lits (M := (cInt .i64)) (ys := []) [] K29 T3 rfl rfl rfl trivial rfl (by decide) rfl rfl rfl ?_)))
 rintro pv2 S h4 u2 w2
 have ap3 := w2.sameP h2
 have h5 := u2.sameP h2 ap3
 have ap4 := w2.box h3
 have h6 := u2.box h3 ap4
 have ap5 := w2.vec h1
 have h7 := u2.vec h1 ap5
 refine Opl.p1 (n := Opl.nil (Evr.seq (Evr.sr rfl (Opl.p1 (n := Opl.p1 (n := ?_))))))
 obtain ⟨r1, h_r1, H⟩ := Option.bind_eq_some_iff.1 H
 refine Opl.calls (spec_l40Rd_pick.evb hq0 h6 h_r1) rfl rfl rfl rfl rfl ?_
 rintro _ S ⟨rfl, h8, u3⟩
 have h9 := u3.sameP h5 OutT.box
 have h10 := u3.vec h7 (ap2.symm).pt
 have h11 := u3.vec h4 (ap4.symm).pt
 refine Opl.add (k := .i64) (a := 2) (b := r1.2) K3 rfl rfl rfl rfl (Opl.one (v := .lit (.int .i64 (wrap64 (2 + r1.2)))) rfl rfl rfl (Opl.nil (Evr.block ?_)))
 refine Evr.loop (Evr.rounds (n := k) (Inv := fun n tm S => n ≤ k ∧ ∃ (x0b1q22_1 : Int) (x9q3_1 : List ITerm) (x10q3_1 : List Int) (x11_1 : Int) (pv3 : PV) (pv4 : PV), spec_l1Terms.l1 n x0b1q22_1 x9q3_1 x10q3_1 x11_1 l0_0 a1 a2 = some r ∧ Has tm [(0, .ptr i0 0), (1, .lit (.int .i64 a1)), (2, .lit (.int .i64 a2)), (9, pv3), (10, pv4), (11, .lit (.int .i64 x11_1))] ∧ Box (.ptr i0 0) [q0, .lit (.int .i64 x0b1q22_1)] S ∧ Vec cITerm x9q3_1 pv3 S ∧ Vec (cInt .i64) x10q3_1 pv4 S ∧ Same S0 S [i0] ∧ OutT S0 [i0] (PV.id? pv3).toList ∧ OutT S0 [i0] (PV.id? pv4).toList ∧ Ap (.ptr i0 0) pv3 ∧ Ap (.ptr i0 0) pv4 ∧ Ap pv3 pv4) ?_ ?_ ?_)
 · exact ⟨Nat.le_refl _, _, _, _, _, _, _, H, ⟨rfl, rfl, rfl, rfl, rfl, rfl, trivial⟩, h8, h10, h11, h9, ap1, ap3, ap2, ap4, ap5⟩
 ·
  rintro tm S ⟨_, _, _, _, _, _, _, H, -⟩
  simp [spec_l1Terms.l1] at H
 ·
  rintro n1 ih1 tm S ⟨hle, x0b1q22_1, x9q3_1, x10q3_1, x11_1, pv3, pv4, H, hh, h12, h13, h14, h15, o1, o2, ap6, ap7, ap8⟩
  simp only [spec_l1Terms.l1] at H
  rw [hh.eq]
  refine Evr.seq (Evr.sr rfl (Opl.p1 (n := Opl.p1 (n := Opl.nil ?_))))
  by_cases c1 : x11_1 > 0
  case neg =>
   rw [if_neg c1] at H
   have e32 : (decide (x11_1 > 0)) = false := by simpa using c1
   try rw [e32]
   refine Evr.condF rfl (Evr.exit rfl (Evr.seq (Evr.sr rfl (Opl.p1 (n := Opl.lenv (xs := x9q3_1) (by exact h13) K44 rfl rfl rfl rfl (Opl.p1 (n := Opl.nil ?_)))))))
   by_cases c34 : (x9q3_1.length : Int) = 0
   case neg =>
    rw [if_neg c34] at H
    have e46 : ((x9q3_1.length : Int) == 0) = false := by simpa using c34
    try rw [e46]
    refine Evr.condF rfl (Evr.skip (Evr.sr rfl (Opl.p1 (n := Opl.lenv (xs := x9q3_1) (by exact h13) K44 rfl rfl rfl rfl (Opl.subi (k := .i64) (a := (x9q3_1.length : Int)) (b := 1) K3 rfl rfl rfl rfl (Opl.one (v := .lit (.int .i64 (wrap64 ((x9q3_1.length : Int) - 1)))) rfl rfl rfl (Opl.nil (Evr.seq (Evr.sr rfl (Opl.one (v := .lit (.int .i64 a2)) rfl rfl rfl (Opl.p1 (n := Opl.one (v := .lit (.bool (a2 == 2))) rfl rfl rfl ?_))))))))))))
    obtain _ | k28 := n1
    · simp [spec_l1Terms.j10] at H
    simp only [spec_l1Terms.j10] at H
    by_cases c52 : a2 = 2
    case neg =>
     rw [if_neg c52] at H
     have e54 : (a2 == 2) = false := by simpa using c52
     try rw [e54]
     refine Opl.skp rfl (Opl.skp rfl (Opl.skp rfl (Opl.skp rfl (Opl.skp rfl (Opl.skp rfl (Opl.p1 (n := Opl.nil (Evr.condF rfl (Evr.sr rfl (Opl.one (v := .lit (.int .i64 a2)) rfl rfl rfl (Opl.p1 (n := Opl.one (v := .lit (.bool (a2 == 1))) rfl rfl rfl ?_))))))))))))
     by_cases c62 : a2 = 1
     case neg =>
      rw [if_neg c62] at H
      have e58 : (a2 == 1) = false := by simpa using c62
      try rw [e58]
      refine Opl.skp rfl (Opl.skp rfl (Opl.skp rfl (Opl.skp rfl (Opl.skp rfl (Opl.skp rfl (Opl.p1 (n := Opl.nil (Evr.condF rfl (Evr.skip (Evr.sr rfl (Opl.one (v := pv3) rfl rfl rfl (Opl.one (v := pv3) rfl rfl rfl (Opl.nil ?_)))))))))))))
      obtain rfl := Option.some.inj H
      refine Evr.ret1 Try.func119 rfl ?_
      exact ⟨h13, (OutT.new (i := i0) o1 ap6.symm), h12, h15⟩
     rw [if_pos c62] at H
     have e55 : (a2 == 1) = true := by simpa using c62
     try rw [e55]
     refine Opl.one (v := pv4) rfl rfl rfl (Opl.one (v := .lit (.int .i64 (wrap64 ((x9q3_1.length : Int) - 1)))) rfl rfl rfl ?_)
     obtain ⟨c63, H⟩ := peel H
     obtain ⟨c64, H⟩ := peel H
     refine Opl.idv (M := (cInt .i64)) (xs := x10q3_1) (j := (wrap64 ((x9q3_1.length : Int) - 1))) (v := pv4) h14 rfl rfl (by omega) (by omega) K29 Z3 rfl rfl ?_
     rintro d6 z6 q11 h559 h560
     refine Opl.ldv (M := (cInt .i64)) (xs := x10q3_1) (j := (wrap64 ((x9q3_1.length : Int) - 1))) (0 : Int) h559 h560 (by omega) (by omega) rfl T3 rfl rfl rfl ?_
     rintro p6 q12 h561
     obtain rfl : p6 = [.lit (.int .i64 (rd x10q3_1 (wrap64 ((x9q3_1.length : Int) - 1))))] := h561
     refine ⟨.lit (.int .i64 (rd x10q3_1 (wrap64 ((x9q3_1.length : Int) - 1)))), rfl, ?_⟩
     refine Opl.one (v := .lit (.int .i64 a2)) rfl rfl rfl (Opl.neq (a := (rd x10q3_1 (wrap64 ((x9q3_1.length : Int) - 1)))) (b := a2) K3 rfl rfl rfl rfl (Opl.p1 (n := Opl.nil ?_)))
     by_cases c65 : (rd x10q3_1 (wrap64 ((x9q3_1.length : Int) - 1))) ≠ a2
     case neg =>
      rw [if_neg c65] at H
      have e57 : ((rd x10q3_1 (wrap64 ((x9q3_1.length : Int) - 1))) != a2) = false := by simpa using c65
      try rw [e57]
      refine Evr.condF rfl (Evr.skip (Evr.sr rfl (Opl.one (v := pv3) rfl rfl rfl (Opl.one (v := pv3) rfl rfl rfl (Opl.nil ?_)))))
      obtain rfl := Option.some.inj H
      refine Evr.ret1 Try.func119 rfl ?_
      exact ⟨h13, (OutT.new (i := i0) o1 ap6.symm), h12, h15⟩
     rw [if_pos c65] at H
     have e56 : ((rd x10q3_1 (wrap64 ((x9q3_1.length : Int) - 1))) != a2) = true := by simpa using c65
     try rw [e56]
     refine Evr.condT rfl (Evr.sr rfl (Opl.one (v := .ptr i0 0) rfl rfl rfl (Opl.one (v := pv4) rfl rfl rfl ?_)))
     obtain ⟨r16, h_r16, H⟩ := Option.bind_eq_some_iff.1 H
     refine Opl.calls (spec_l1Pick.evv hq0 h12 h14 ap7.symm h_r16) rfl rfl rfl rfl rfl ?_
     rintro _ S ⟨rfl, h562, u85⟩
     have h563 := u85.vec h13 (ap6.symm).pt
     have h564 := u85.vec h14 (ap7.symm).pt
     have h565 := u85.sameP h15 OutT.box
     refine Opl.one (v := .lit (.int .i64 r16.2)) rfl rfl rfl (Opl.nil (Evr.regionN rfl (Opl.one (v := pv3) rfl rfl rfl (Opl.one (v := .ptr i0 0) rfl rfl rfl (Opl.litf (M := (cInt .i64)) (ys := [2, 3]) [.const (.int .i64 2), .const (.int .i64 3)] K29 T3 rfl rfl rfl (by exact ⟨rfl, rfl, trivial⟩) rfl (by decide) rfl rfl rfl ?_)))))
     rintro pv96 pv97 S h566 u86 w64
     have ap319 := w64.box h562
     have h567 := u86.box h562 ap319
     have ap320 := w64.vec h563
     have h568 := u86.vec h563 ap320
     have ap321 := w64.vec h564
     have h569 := u86.vec h564 ap321
     have ap322 := w64.sameP h565
     have h570 := u86.sameP h565 ap322
     obtain ⟨r17, h_r17, H⟩ := Option.bind_eq_some_iff.1 H
     refine Opl.calls (spec_l40Rd_num.evb hq0 h567 h566 h_r17) rfl rfl rfl rfl rfl ?_
     rintro _ S ⟨rfl, h571, u87⟩
     have h572 := u87.vec h568 (ap6.symm).pt
     have h573 := u87.vec h569 (ap7.symm).pt
     have h574 := u87.sameP h570 OutT.box
     refine Opl.one (v := .lit (.int .i64 r16.2)) rfl rfl rfl (Opl.one (v := .ptr i0 0) rfl rfl rfl (Opl.one (v := pv4) rfl rfl rfl ?_))
     obtain ⟨r18, h_r18, H⟩ := Option.bind_eq_some_iff.1 H
     refine Opl.calls (spec_l1Pick.evv hq0 h571 h573 ap7.symm h_r18) rfl rfl rfl rfl rfl ?_
     rintro _ S ⟨rfl, h575, u88⟩
     have h576 := u88.vec h572 (ap6.symm).pt
     have h577 := u88.vec h573 (ap7.symm).pt
     have h578 := u88.sameP h574 OutT.box
     refine Opl.p1 (v := .agg [.lit (.int .i64 r17.2), .lit (.int .i64 0), .lit (.int .i64 r16.2), .lit (.int .i64 r18.2)]) (n := Opl.lits (M := cITerm) (ys := [(⟨r17.2, 0, r16.2, r18.2⟩ : ITerm)]) [.tmp 139] K44 T95 rfl rfl rfl (by exact ⟨cITerm_mk, trivial⟩) rfl (by decide) rfl rfl rfl ?_)
     rintro pv98 S h579 u89 w65
     have ap323 := w65.box h575
     have h580 := u89.box h575 ap323
     have ap324 := w65.vec h576
     have h581 := u89.vec h576 ap324
     have ap325 := w65.vec h577
     have h582 := u89.vec h577 ap325
     have ap326 := w65.sameP h578
     have h583 := u89.sameP h578 ap326
     obtain ⟨c66, H⟩ := peel H
     refine Opl.app (M := cITerm) (xs := x9q3_1) (ys := [(⟨r17.2, 0, r16.2, r18.2⟩ : ITerm)]) (v := pv3) h581 (.vec h579) oITerm rfl rfl K44 T95 rfl rfl (by (try simp only [List.length_cons, List.length_nil]); omega) (by show (_ + _) * 32 ≤ 140737488355328; (try simp only [List.length_cons, List.length_nil]); omega) rfl rfl rfl rfl rfl ?_
     rintro pv99 S h584 u90 w66
     have ap327 := w66.box h580
     have h585 := u90.box h580 ap6
     have ap328 := w66.vec h582
     have h586 := u90.vec h582 ap8.symm
     have ap329 := w66.sameP h583
     have h587 := u90.sameP h583 o1
     have ap330 := w66.vec h579
     have h588 := u90.vec h579 ap324.symm
     refine Opl.one (v := pv99) rfl rfl rfl (Opl.nil (Evr.sr rfl (Opl.one (v := pv99) rfl rfl rfl (Opl.one (v := pv99) rfl rfl rfl (Opl.nil ?_)))))
     obtain rfl := Option.some.inj H
     refine Evr.ret1 Try.func119 rfl ?_
     exact ⟨h584, (OutT.new (i := i0) ap329 ap327.symm), h585, h587⟩
    rw [if_pos c52] at H
    have e47 : (a2 == 2) = true := by simpa using c52
    try rw [e47]
    refine Opl.one (v := pv4) rfl rfl rfl (Opl.one (v := .lit (.int .i64 (wrap64 ((x9q3_1.length : Int) - 1)))) rfl rfl rfl ?_)
    obtain ⟨c53, H⟩ := peel H
    obtain ⟨c54, H⟩ := peel H
    refine Opl.idv (M := (cInt .i64)) (xs := x10q3_1) (j := (wrap64 ((x9q3_1.length : Int) - 1))) (v := pv4) h14 rfl rfl (by omega) (by omega) K29 Z3 rfl rfl ?_
    rintro d4 z4 q7 h503 h504
    refine Opl.ldv (M := (cInt .i64)) (xs := x10q3_1) (j := (wrap64 ((x9q3_1.length : Int) - 1))) (0 : Int) h503 h504 (by omega) (by omega) rfl T3 rfl rfl rfl ?_
    rintro p4 q8 h505
    obtain rfl : p4 = [.lit (.int .i64 (rd x10q3_1 (wrap64 ((x9q3_1.length : Int) - 1))))] := h505
    refine ⟨.lit (.int .i64 (rd x10q3_1 (wrap64 ((x9q3_1.length : Int) - 1)))), rfl, ?_⟩
    refine Opl.one (v := .lit (.int .i64 a2)) rfl rfl rfl (Opl.neq (a := (rd x10q3_1 (wrap64 ((x9q3_1.length : Int) - 1)))) (b := a2) K3 rfl rfl rfl rfl (Opl.p1 (n := Opl.nil ?_)))
    by_cases c55 : (rd x10q3_1 (wrap64 ((x9q3_1.length : Int) - 1))) ≠ a2
    case pos =>
     rw [if_pos c55] at H
     have e48 : ((rd x10q3_1 (wrap64 ((x9q3_1.length : Int) - 1))) != a2) = true := by simpa using c55
     try rw [e48]
     refine Evr.condT rfl (Evr.regionN rfl (Opl.one (v := pv3) rfl rfl rfl (Opl.one (v := .ptr i0 0) rfl rfl rfl (Opl.litf (M := (cInt .i64)) (ys := [5, 6]) [.const (.int .i64 5), .const (.int .i64 6)] K29 T3 rfl rfl rfl (by exact ⟨rfl, rfl, trivial⟩) rfl (by decide) rfl rfl rfl ?_))))
     rintro pv86 pv87 S h506 u74 w58
     have ap295 := w58.box h12
     have h507 := u74.box h12 ap295
     have ap296 := w58.vec h13
     have h508 := u74.vec h13 ap296
     have ap297 := w58.vec h14
     have h509 := u74.vec h14 ap297
     have ap298 := w58.sameP h15
     have h510 := u74.sameP h15 ap298
     obtain ⟨r11, h_r11, H⟩ := Option.bind_eq_some_iff.1 H
     refine Opl.calls (spec_l40Rd_num.evb hq0 h507 h506 h_r11) rfl rfl rfl rfl rfl ?_
     rintro _ S ⟨rfl, h511, u75⟩
     have h512 := u75.vec h508 (ap6.symm).pt
     have h513 := u75.vec h509 (ap7.symm).pt
     have h514 := u75.sameP h510 OutT.box
     refine Opl.one (v := .lit (.int .i64 (wrap64 ((x9q3_1.length : Int) - 1)))) rfl rfl rfl (Opl.one (v := .ptr i0 0) rfl rfl rfl (Opl.one (v := pv4) rfl rfl rfl ?_))
     obtain ⟨r12, h_r12, H⟩ := Option.bind_eq_some_iff.1 H
     refine Opl.calls (spec_l1Pick.evv hq0 h511 h513 ap7.symm h_r12) rfl rfl rfl rfl rfl ?_
     rintro _ S ⟨rfl, h515, u76⟩
     have h516 := u76.vec h512 (ap6.symm).pt
     have h517 := u76.vec h513 (ap7.symm).pt
     have h518 := u76.sameP h514 OutT.box
     refine Opl.p1 (v := .agg [.lit (.int .i64 r11.2), .lit (.int .i64 0), .lit (.int .i64 (wrap64 ((x9q3_1.length : Int) - 1))), .lit (.int .i64 r12.2)]) (n := Opl.lits (M := cITerm) (ys := [(⟨r11.2, 0, (wrap64 ((x9q3_1.length : Int) - 1)), r12.2⟩ : ITerm)]) [.tmp 115] K44 T95 rfl rfl rfl (by exact ⟨cITerm_mk, trivial⟩) rfl (by decide) rfl rfl rfl ?_)
     rintro pv88 S h519 u77 w59
     have ap299 := w59.box h515
     have h520 := u77.box h515 ap299
     have ap300 := w59.vec h516
     have h521 := u77.vec h516 ap300
     have ap301 := w59.vec h517
     have h522 := u77.vec h517 ap301
     have ap302 := w59.sameP h518
     have h523 := u77.sameP h518 ap302
     obtain ⟨c56, H⟩ := peel H
     refine Opl.app (M := cITerm) (xs := x9q3_1) (ys := [(⟨r11.2, 0, (wrap64 ((x9q3_1.length : Int) - 1)), r12.2⟩ : ITerm)]) (v := pv3) h521 (.vec h519) oITerm rfl rfl K44 T95 rfl rfl (by (try simp only [List.length_cons, List.length_nil]); omega) (by show (_ + _) * 32 ≤ 140737488355328; (try simp only [List.length_cons, List.length_nil]); omega) rfl rfl rfl rfl rfl ?_
     rintro pv89 S h524 u78 w60
     have ap303 := w60.box h520
     have h525 := u78.box h520 ap6
     have ap304 := w60.vec h522
     have h526 := u78.vec h522 ap8.symm
     have ap305 := w60.sameP h523
     have h527 := u78.sameP h523 o1
     have ap306 := w60.vec h519
     have h528 := u78.vec h519 ap300.symm
     refine Opl.one (v := pv89) rfl rfl rfl (Opl.nil (Evr.sr rfl (Opl.one (v := pv89) rfl rfl rfl (Opl.one (v := pv89) rfl rfl rfl (Opl.nil ?_)))))
     obtain rfl := Option.some.inj H
     refine Evr.ret1 Try.func119 rfl ?_
     exact ⟨h524, (OutT.new (i := i0) ap305 ap303.symm), h525, h527⟩
    rw [if_neg c55] at H
    have e49 : ((rd x10q3_1 (wrap64 ((x9q3_1.length : Int) - 1))) != a2) = false := by simpa using c55
    try rw [e49]
    refine Evr.condF rfl (Evr.sr rfl (Opl.one (v := .lit (.int .i64 a2)) rfl rfl rfl (Opl.p1 (n := Opl.one (v := .lit (.bool (a2 == 1))) rfl rfl rfl ?_))))
    by_cases c57 : a2 = 1
    case neg =>
     rw [if_neg c57] at H
     have e53 : (a2 == 1) = false := by simpa using c57
     try rw [e53]
     refine Opl.skp rfl (Opl.skp rfl (Opl.skp rfl (Opl.skp rfl (Opl.skp rfl (Opl.skp rfl (Opl.p1 (n := Opl.nil (Evr.condF rfl (Evr.skip (Evr.sr rfl (Opl.one (v := pv3) rfl rfl rfl (Opl.one (v := pv3) rfl rfl rfl (Opl.nil ?_)))))))))))))
     obtain rfl := Option.some.inj H
     refine Evr.ret1 Try.func119 rfl ?_
     exact ⟨h13, (OutT.new (i := i0) o1 ap6.symm), h12, h15⟩
    rw [if_pos c57] at H
    have e50 : (a2 == 1) = true := by simpa using c57
    try rw [e50]
    refine Opl.one (v := pv4) rfl rfl rfl (Opl.one (v := .lit (.int .i64 (wrap64 ((x9q3_1.length : Int) - 1)))) rfl rfl rfl ?_)
    obtain ⟨c58, H⟩ := peel H
    obtain ⟨c59, H⟩ := peel H
    refine Opl.idv (M := (cInt .i64)) (xs := x10q3_1) (j := (wrap64 ((x9q3_1.length : Int) - 1))) (v := pv4) h14 rfl rfl (by omega) (by omega) K29 Z3 rfl rfl ?_
    rintro d5 z5 q9 h529 h530
    refine Opl.ldv (M := (cInt .i64)) (xs := x10q3_1) (j := (wrap64 ((x9q3_1.length : Int) - 1))) (0 : Int) h529 h530 (by omega) (by omega) rfl T3 rfl rfl rfl ?_
    rintro p5 q10 h531
    obtain rfl : p5 = [.lit (.int .i64 (rd x10q3_1 (wrap64 ((x9q3_1.length : Int) - 1))))] := h531
    refine ⟨.lit (.int .i64 (rd x10q3_1 (wrap64 ((x9q3_1.length : Int) - 1)))), rfl, ?_⟩
    refine Opl.one (v := .lit (.int .i64 a2)) rfl rfl rfl (Opl.neq (a := (rd x10q3_1 (wrap64 ((x9q3_1.length : Int) - 1)))) (b := a2) K3 rfl rfl rfl rfl (Opl.p1 (n := Opl.nil ?_)))
    by_cases c60 : (rd x10q3_1 (wrap64 ((x9q3_1.length : Int) - 1))) ≠ a2
    case neg =>
     rw [if_neg c60] at H
     have e52 : ((rd x10q3_1 (wrap64 ((x9q3_1.length : Int) - 1))) != a2) = false := by simpa using c60
     try rw [e52]
     refine Evr.condF rfl (Evr.skip (Evr.sr rfl (Opl.one (v := pv3) rfl rfl rfl (Opl.one (v := pv3) rfl rfl rfl (Opl.nil ?_)))))
     obtain rfl := Option.some.inj H
     refine Evr.ret1 Try.func119 rfl ?_
     exact ⟨h13, (OutT.new (i := i0) o1 ap6.symm), h12, h15⟩
    rw [if_pos c60] at H
    have e51 : ((rd x10q3_1 (wrap64 ((x9q3_1.length : Int) - 1))) != a2) = true := by simpa using c60
    try rw [e51]
    refine Evr.condT rfl (Evr.sr rfl (Opl.one (v := .ptr i0 0) rfl rfl rfl (Opl.one (v := pv4) rfl rfl rfl ?_)))
    obtain ⟨r13, h_r13, H⟩ := Option.bind_eq_some_iff.1 H
    refine Opl.calls (spec_l1Pick.evv hq0 h12 h14 ap7.symm h_r13) rfl rfl rfl rfl rfl ?_
    rintro _ S ⟨rfl, h532, u79⟩
    have h533 := u79.vec h13 (ap6.symm).pt
    have h534 := u79.vec h14 (ap7.symm).pt
    have h535 := u79.sameP h15 OutT.box
    refine Opl.one (v := .lit (.int .i64 r13.2)) rfl rfl rfl (Opl.nil (Evr.regionN rfl (Opl.one (v := pv3) rfl rfl rfl (Opl.one (v := .ptr i0 0) rfl rfl rfl (Opl.litf (M := (cInt .i64)) (ys := [2, 3]) [.const (.int .i64 2), .const (.int .i64 3)] K29 T3 rfl rfl rfl (by exact ⟨rfl, rfl, trivial⟩) rfl (by decide) rfl rfl rfl ?_)))))
    rintro pv91 pv92 S h536 u80 w61
    have ap307 := w61.box h532
    have h537 := u80.box h532 ap307
    have ap308 := w61.vec h533
    have h538 := u80.vec h533 ap308
    have ap309 := w61.vec h534
    have h539 := u80.vec h534 ap309
    have ap310 := w61.sameP h535
    have h540 := u80.sameP h535 ap310
    obtain ⟨r14, h_r14, H⟩ := Option.bind_eq_some_iff.1 H
    refine Opl.calls (spec_l40Rd_num.evb hq0 h537 h536 h_r14) rfl rfl rfl rfl rfl ?_
    rintro _ S ⟨rfl, h541, u81⟩
    have h542 := u81.vec h538 (ap6.symm).pt
    have h543 := u81.vec h539 (ap7.symm).pt
    have h544 := u81.sameP h540 OutT.box
    refine Opl.one (v := .lit (.int .i64 r13.2)) rfl rfl rfl (Opl.one (v := .ptr i0 0) rfl rfl rfl (Opl.one (v := pv4) rfl rfl rfl ?_))
    obtain ⟨r15, h_r15, H⟩ := Option.bind_eq_some_iff.1 H
    refine Opl.calls (spec_l1Pick.evv hq0 h541 h543 ap7.symm h_r15) rfl rfl rfl rfl rfl ?_
    rintro _ S ⟨rfl, h545, u82⟩
    have h546 := u82.vec h542 (ap6.symm).pt
    have h547 := u82.vec h543 (ap7.symm).pt
    have h548 := u82.sameP h544 OutT.box
    refine Opl.p1 (v := .agg [.lit (.int .i64 r14.2), .lit (.int .i64 0), .lit (.int .i64 r13.2), .lit (.int .i64 r15.2)]) (n := Opl.lits (M := cITerm) (ys := [(⟨r14.2, 0, r13.2, r15.2⟩ : ITerm)]) [.tmp 139] K44 T95 rfl rfl rfl (by exact ⟨cITerm_mk, trivial⟩) rfl (by decide) rfl rfl rfl ?_)
    rintro pv93 S h549 u83 w62
    have ap311 := w62.box h545
    have h550 := u83.box h545 ap311
    have ap312 := w62.vec h546
    have h551 := u83.vec h546 ap312
    have ap313 := w62.vec h547
    have h552 := u83.vec h547 ap313
    have ap314 := w62.sameP h548
    have h553 := u83.sameP h548 ap314
    obtain ⟨c61, H⟩ := peel H
    refine Opl.app (M := cITerm) (xs := x9q3_1) (ys := [(⟨r14.2, 0, r13.2, r15.2⟩ : ITerm)]) (v := pv3) h551 (.vec h549) oITerm rfl rfl K44 T95 rfl rfl (by (try simp only [List.length_cons, List.length_nil]); omega) (by show (_ + _) * 32 ≤ 140737488355328; (try simp only [List.length_cons, List.length_nil]); omega) rfl rfl rfl rfl rfl ?_
    rintro pv94 S h554 u84 w63
    have ap315 := w63.box h550
    have h555 := u84.box h550 ap6
    have ap316 := w63.vec h552
    have h556 := u84.vec h552 ap8.symm
    have ap317 := w63.sameP h553
    have h557 := u84.sameP h553 o1
    have ap318 := w63.vec h549
    have h558 := u84.vec h549 ap312.symm
    refine Opl.one (v := pv94) rfl rfl rfl (Opl.nil (Evr.sr rfl (Opl.one (v := pv94) rfl rfl rfl (Opl.one (v := pv94) rfl rfl rfl (Opl.nil ?_)))))
    obtain rfl := Option.some.inj H
    refine Evr.ret1 Try.func119 rfl ?_
    exact ⟨h554, (OutT.new (i := i0) ap317 ap315.symm), h555, h557⟩
   rw [if_pos c34] at H
   have e33 : ((x9q3_1.length : Int) == 0) = true := by simpa using c34
   try rw [e33]
   refine Evr.condT rfl (Evr.sr rfl (Opl.p1 (n := Opl.p1 (v := .agg [.lit (.int .i64 0), .lit (.int .i64 1), .lit (.int .i64 0), .lit (.int .i64 0)]) (n := Opl.lits (M := cITerm) (ys := [(⟨0, 1, 0, 0⟩ : ITerm)]) [.tmp 88] K44 T95 rfl rfl rfl (by exact ⟨cITerm_mk, trivial⟩) rfl (by decide) rfl rfl rfl ?_))))
   rintro pv66 S h361 u53 w45
   have ap223 := w45.box h12
   have h362 := u53.box h12 ap223
   have ap224 := w45.vec h13
   have h363 := u53.vec h13 ap224
   have ap225 := w45.vec h14
   have h364 := u53.vec h14 ap225
   have ap226 := w45.sameP h15
   have h365 := u53.sameP h15 ap226
   obtain ⟨c35, H⟩ := peel H
   obtain ⟨c36, H⟩ := peel H
   obtain _ | k27 := n1
   · simp [spec_l1Terms.j10] at H
   simp only [spec_l1Terms.j10] at H
   refine Opl.app (M := cITerm) (xs := x9q3_1) (ys := [(⟨0, 1, 0, 0⟩ : ITerm)]) (v := pv3) h363 (.vec h361) oITerm rfl rfl K44 T95 rfl rfl (by (try simp only [List.length_cons, List.length_nil]); omega) (by show (_ + _) * 32 ≤ 140737488355328; (try simp only [List.length_cons, List.length_nil]); omega) rfl rfl rfl rfl rfl ?_
   rintro pv67 S h366 u54 w46
   have ap227 := w46.box h362
   have h367 := u54.box h362 ap6
   have ap228 := w46.vec h364
   have h368 := u54.vec h364 ap8.symm
   have ap229 := w46.sameP h365
   have h369 := u54.sameP h365 o1
   have ap230 := w46.vec h361
   have h370 := u54.vec h361 ap224.symm
   refine Opl.p1 (n := Opl.nil (Evr.regionN rfl (Opl.p1 (n := Opl.lits (M := (cInt .i64)) (ys := [1]) [.const (.int .i64 1)] K29 T3 rfl rfl rfl (by exact ⟨rfl, trivial⟩) rfl (by decide) rfl rfl rfl ?_))))
   rintro pv68 S h371 u55 w47
   have ap231 := w47.box h367
   have h372 := u55.box h367 ap231
   have ap232 := w47.vec h368
   have h373 := u55.vec h368 ap232
   have ap233 := w47.sameP h369
   have h374 := u55.sameP h369 ap233
   have ap234 := w47.vec h370
   have h375 := u55.vec h370 ap234
   have ap235 := w47.vec h366
   have h376 := u55.vec h366 ap235
   refine Opl.app (M := (cInt .i64)) (xs := x10q3_1) (ys := [1]) (v := pv4) h373 (.vec h371) (oInt .i64) rfl rfl K29 T3 rfl rfl (by (try simp only [List.length_cons, List.length_nil]); omega) (by show (_ + _) * 8 ≤ 140737488355328; (try simp only [List.length_cons, List.length_nil]); omega) rfl rfl rfl rfl rfl ?_
   rintro pv69 S h377 u56 w48
   have ap236 := w48.box h372
   have h378 := u56.box h372 ap7
   have ap237 := w48.sameP h374
   have h379 := u56.sameP h374 o2
   have ap238 := w48.vec h375
   have h380 := u56.vec h375 ap225.symm
   have ap239 := w48.vec h376
   have h381 := u56.vec h376 ap228.symm
   have ap240 := w48.vec h371
   have h382 := u56.vec h371 ap232.symm
   refine Opl.p1 (n := Opl.nil (Evr.sr rfl (Opl.p1 (n := Opl.lenv (xs := (x9q3_1 ++ [(⟨0, 1, 0, 0⟩ : ITerm)])) (by exact h381) K44 rfl rfl rfl rfl (Opl.subi (k := .i64) (a := ((x9q3_1 ++ [(⟨0, 1, 0, 0⟩ : ITerm)]).length : Int)) (b := 1) K3 rfl rfl rfl rfl (Opl.one (v := .lit (.int .i64 (wrap64 (((x9q3_1 ++ [(⟨0, 1, 0, 0⟩ : ITerm)]).length : Int) - 1)))) rfl rfl rfl (Opl.nil (Evr.seq (Evr.sr rfl (Opl.one (v := .lit (.int .i64 a2)) rfl rfl rfl (Opl.p1 (n := Opl.one (v := .lit (.bool (a2 == 2))) rfl rfl rfl ?_))))))))))))
   by_cases c37 : a2 = 2
   case neg =>
    rw [if_neg c37] at H
    have e41 : (a2 == 2) = false := by simpa using c37
    try rw [e41]
    refine Opl.skp rfl (Opl.skp rfl (Opl.skp rfl (Opl.skp rfl (Opl.skp rfl (Opl.skp rfl (Opl.p1 (n := Opl.nil (Evr.condF rfl (Evr.sr rfl (Opl.one (v := .lit (.int .i64 a2)) rfl rfl rfl (Opl.p1 (n := Opl.one (v := .lit (.bool (a2 == 1))) rfl rfl rfl ?_))))))))))))
    by_cases c47 : a2 = 1
    case neg =>
     rw [if_neg c47] at H
     have e45 : (a2 == 1) = false := by simpa using c47
     try rw [e45]
     refine Opl.skp rfl (Opl.skp rfl (Opl.skp rfl (Opl.skp rfl (Opl.skp rfl (Opl.skp rfl (Opl.p1 (n := Opl.nil (Evr.condF rfl (Evr.skip (Evr.sr rfl (Opl.one (v := pv67) rfl rfl rfl (Opl.one (v := pv67) rfl rfl rfl (Opl.nil ?_)))))))))))))
     obtain rfl := Option.some.inj H
     refine Evr.ret1 Try.func119 rfl ?_
     exact ⟨h381, (OutT.new (i := i0) ap229 ap227.symm), h378, h379⟩
    rw [if_pos c47] at H
    have e42 : (a2 == 1) = true := by simpa using c47
    try rw [e42]
    refine Opl.one (v := pv69) rfl rfl rfl (Opl.one (v := .lit (.int .i64 (wrap64 (((x9q3_1 ++ [(⟨0, 1, 0, 0⟩ : ITerm)]).length : Int) - 1)))) rfl rfl rfl ?_)
    obtain ⟨c48, H⟩ := peel H
    obtain ⟨c49, H⟩ := peel H
    refine Opl.idv (M := (cInt .i64)) (xs := (x10q3_1 ++ [1])) (j := (wrap64 (((x9q3_1 ++ [(⟨0, 1, 0, 0⟩ : ITerm)]).length : Int) - 1))) (v := pv69) h377 rfl rfl (by omega) (by omega) K29 Z3 rfl rfl ?_
    rintro d3 z3 q5 h461 h462
    refine Opl.ldv (M := (cInt .i64)) (xs := (x10q3_1 ++ [1])) (j := (wrap64 (((x9q3_1 ++ [(⟨0, 1, 0, 0⟩ : ITerm)]).length : Int) - 1))) (0 : Int) h461 h462 (by omega) (by omega) rfl T3 rfl rfl rfl ?_
    rintro p3 q6 h463
    obtain rfl : p3 = [.lit (.int .i64 (rd (x10q3_1 ++ [1]) (wrap64 (((x9q3_1 ++ [(⟨0, 1, 0, 0⟩ : ITerm)]).length : Int) - 1))))] := h463
    refine ⟨.lit (.int .i64 (rd (x10q3_1 ++ [1]) (wrap64 (((x9q3_1 ++ [(⟨0, 1, 0, 0⟩ : ITerm)]).length : Int) - 1)))), rfl, ?_⟩
    refine Opl.one (v := .lit (.int .i64 a2)) rfl rfl rfl (Opl.neq (a := (rd (x10q3_1 ++ [1]) (wrap64 (((x9q3_1 ++ [(⟨0, 1, 0, 0⟩ : ITerm)]).length : Int) - 1)))) (b := a2) K3 rfl rfl rfl rfl (Opl.p1 (n := Opl.nil ?_)))
    by_cases c50 : (rd (x10q3_1 ++ [1]) (wrap64 (((x9q3_1 ++ [(⟨0, 1, 0, 0⟩ : ITerm)]).length : Int) - 1))) ≠ a2
    case neg =>
     rw [if_neg c50] at H
     have e44 : ((rd (x10q3_1 ++ [1]) (wrap64 (((x9q3_1 ++ [(⟨0, 1, 0, 0⟩ : ITerm)]).length : Int) - 1))) != a2) = false := by simpa using c50
     try rw [e44]
     refine Evr.condF rfl (Evr.skip (Evr.sr rfl (Opl.one (v := pv67) rfl rfl rfl (Opl.one (v := pv67) rfl rfl rfl (Opl.nil ?_)))))
     obtain rfl := Option.some.inj H
     refine Evr.ret1 Try.func119 rfl ?_
     exact ⟨h381, (OutT.new (i := i0) ap229 ap227.symm), h378, h379⟩
    rw [if_pos c50] at H
    have e43 : ((rd (x10q3_1 ++ [1]) (wrap64 (((x9q3_1 ++ [(⟨0, 1, 0, 0⟩ : ITerm)]).length : Int) - 1))) != a2) = true := by simpa using c50
    try rw [e43]
    refine Evr.condT rfl (Evr.sr rfl (Opl.one (v := .ptr i0 0) rfl rfl rfl (Opl.one (v := pv69) rfl rfl rfl ?_)))
    obtain ⟨r16, h_r16, H⟩ := Option.bind_eq_some_iff.1 H
    refine Opl.calls (spec_l1Pick.evv hq0 h378 h377 ap236.symm h_r16) rfl rfl rfl rfl rfl ?_
    rintro _ S ⟨rfl, h464, u68⟩
    have h465 := u68.sameP h379 OutT.box
    have h466 := u68.vec h380 (ap223.symm).pt
    have h467 := u68.vec h381 (ap227.symm).pt
    have h468 := u68.vec h382 (ap231.symm).pt
    have h469 := u68.vec h377 (ap236.symm).pt
    refine Opl.one (v := .lit (.int .i64 r16.2)) rfl rfl rfl (Opl.nil (Evr.regionN rfl (Opl.one (v := pv67) rfl rfl rfl (Opl.one (v := .ptr i0 0) rfl rfl rfl (Opl.litf (M := (cInt .i64)) (ys := [2, 3]) [.const (.int .i64 2), .const (.int .i64 3)] K29 T3 rfl rfl rfl (by exact ⟨rfl, rfl, trivial⟩) rfl (by decide) rfl rfl rfl ?_)))))
    rintro pv81 pv82 S h470 u69 w55
    have ap277 := w55.box h464
    have h471 := u69.box h464 ap277
    have ap278 := w55.sameP h465
    have h472 := u69.sameP h465 ap278
    have ap279 := w55.vec h466
    have h473 := u69.vec h466 ap279
    have ap280 := w55.vec h467
    have h474 := u69.vec h467 ap280
    have ap281 := w55.vec h468
    have h475 := u69.vec h468 ap281
    have ap282 := w55.vec h469
    have h476 := u69.vec h469 ap282
    obtain ⟨r17, h_r17, H⟩ := Option.bind_eq_some_iff.1 H
    refine Opl.calls (spec_l40Rd_num.evb hq0 h471 h470 h_r17) rfl rfl rfl rfl rfl ?_
    rintro _ S ⟨rfl, h477, u70⟩
    have h478 := u70.sameP h472 OutT.box
    have h479 := u70.vec h473 (ap223.symm).pt
    have h480 := u70.vec h474 (ap227.symm).pt
    have h481 := u70.vec h475 (ap231.symm).pt
    have h482 := u70.vec h476 (ap236.symm).pt
    refine Opl.one (v := .lit (.int .i64 r16.2)) rfl rfl rfl (Opl.one (v := .ptr i0 0) rfl rfl rfl (Opl.one (v := pv69) rfl rfl rfl ?_))
    obtain ⟨r18, h_r18, H⟩ := Option.bind_eq_some_iff.1 H
    refine Opl.calls (spec_l1Pick.evv hq0 h477 h482 ap236.symm h_r18) rfl rfl rfl rfl rfl ?_
    rintro _ S ⟨rfl, h483, u71⟩
    have h484 := u71.sameP h478 OutT.box
    have h485 := u71.vec h479 (ap223.symm).pt
    have h486 := u71.vec h480 (ap227.symm).pt
    have h487 := u71.vec h481 (ap231.symm).pt
    have h488 := u71.vec h482 (ap236.symm).pt
    refine Opl.p1 (v := .agg [.lit (.int .i64 r17.2), .lit (.int .i64 0), .lit (.int .i64 r16.2), .lit (.int .i64 r18.2)]) (n := Opl.lits (M := cITerm) (ys := [(⟨r17.2, 0, r16.2, r18.2⟩ : ITerm)]) [.tmp 139] K44 T95 rfl rfl rfl (by exact ⟨cITerm_mk, trivial⟩) rfl (by decide) rfl rfl rfl ?_)
    rintro pv83 S h489 u72 w56
    have ap283 := w56.box h483
    have h490 := u72.box h483 ap283
    have ap284 := w56.sameP h484
    have h491 := u72.sameP h484 ap284
    have ap285 := w56.vec h485
    have h492 := u72.vec h485 ap285
    have ap286 := w56.vec h486
    have h493 := u72.vec h486 ap286
    have ap287 := w56.vec h487
    have h494 := u72.vec h487 ap287
    have ap288 := w56.vec h488
    have h495 := u72.vec h488 ap288
    obtain ⟨c51, H⟩ := peel H
    refine Opl.app (M := cITerm) (xs := (x9q3_1 ++ [(⟨0, 1, 0, 0⟩ : ITerm)])) (ys := [(⟨r17.2, 0, r16.2, r18.2⟩ : ITerm)]) (v := pv67) h493 (.vec h489) oITerm rfl rfl K44 T95 rfl rfl (by (try simp only [List.length_cons, List.length_nil]); omega) (by show (_ + _) * 32 ≤ 140737488355328; (try simp only [List.length_cons, List.length_nil]); omega) rfl rfl rfl rfl rfl ?_
    rintro pv84 S h496 u73 w57
    have ap289 := w57.box h490
    have h497 := u73.box h490 ap227
    have ap290 := w57.sameP h491
    have h498 := u73.sameP h491 ap229
    have ap291 := w57.vec h492
    have h499 := u73.vec h492 ap230
    have ap292 := w57.vec h494
    have h500 := u73.vec h494 ap235.symm
    have ap293 := w57.vec h495
    have h501 := u73.vec h495 ap239.symm
    have ap294 := w57.vec h489
    have h502 := u73.vec h489 ap286.symm
    refine Opl.one (v := pv84) rfl rfl rfl (Opl.nil (Evr.sr rfl (Opl.one (v := pv84) rfl rfl rfl (Opl.one (v := pv84) rfl rfl rfl (Opl.nil ?_)))))
    obtain rfl := Option.some.inj H
    refine Evr.ret1 Try.func119 rfl ?_
    exact ⟨h496, (OutT.new (i := i0) ap290 ap289.symm), h497, h498⟩
   rw [if_pos c37] at H
   have e34 : (a2 == 2) = true := by simpa using c37
   try rw [e34]
   refine Opl.one (v := pv69) rfl rfl rfl (Opl.one (v := .lit (.int .i64 (wrap64 (((x9q3_1 ++ [(⟨0, 1, 0, 0⟩ : ITerm)]).length : Int) - 1)))) rfl rfl rfl ?_)
   obtain ⟨c38, H⟩ := peel H
   obtain ⟨c39, H⟩ := peel H
   refine Opl.idv (M := (cInt .i64)) (xs := (x10q3_1 ++ [1])) (j := (wrap64 (((x9q3_1 ++ [(⟨0, 1, 0, 0⟩ : ITerm)]).length : Int) - 1))) (v := pv69) h377 rfl rfl (by omega) (by omega) K29 Z3 rfl rfl ?_
   rintro d1 z1 q1 h383 h384
   refine Opl.ldv (M := (cInt .i64)) (xs := (x10q3_1 ++ [1])) (j := (wrap64 (((x9q3_1 ++ [(⟨0, 1, 0, 0⟩ : ITerm)]).length : Int) - 1))) (0 : Int) h383 h384 (by omega) (by omega) rfl T3 rfl rfl rfl ?_
   rintro p1 q2 h385
   obtain rfl : p1 = [.lit (.int .i64 (rd (x10q3_1 ++ [1]) (wrap64 (((x9q3_1 ++ [(⟨0, 1, 0, 0⟩ : ITerm)]).length : Int) - 1))))] := h385
   refine ⟨.lit (.int .i64 (rd (x10q3_1 ++ [1]) (wrap64 (((x9q3_1 ++ [(⟨0, 1, 0, 0⟩ : ITerm)]).length : Int) - 1)))), rfl, ?_⟩
   refine Opl.one (v := .lit (.int .i64 a2)) rfl rfl rfl (Opl.neq (a := (rd (x10q3_1 ++ [1]) (wrap64 (((x9q3_1 ++ [(⟨0, 1, 0, 0⟩ : ITerm)]).length : Int) - 1)))) (b := a2) K3 rfl rfl rfl rfl (Opl.p1 (n := Opl.nil ?_)))
   by_cases c40 : (rd (x10q3_1 ++ [1]) (wrap64 (((x9q3_1 ++ [(⟨0, 1, 0, 0⟩ : ITerm)]).length : Int) - 1))) ≠ a2
   case pos =>
    rw [if_pos c40] at H
    have e35 : ((rd (x10q3_1 ++ [1]) (wrap64 (((x9q3_1 ++ [(⟨0, 1, 0, 0⟩ : ITerm)]).length : Int) - 1))) != a2) = true := by simpa using c40
    try rw [e35]
    refine Evr.condT rfl (Evr.regionN rfl (Opl.one (v := pv67) rfl rfl rfl (Opl.one (v := .ptr i0 0) rfl rfl rfl (Opl.litf (M := (cInt .i64)) (ys := [5, 6]) [.const (.int .i64 5), .const (.int .i64 6)] K29 T3 rfl rfl rfl (by exact ⟨rfl, rfl, trivial⟩) rfl (by decide) rfl rfl rfl ?_))))
    rintro pv71 pv72 S h386 u57 w49
    have ap241 := w49.box h378
    have h387 := u57.box h378 ap241
    have ap242 := w49.sameP h379
    have h388 := u57.sameP h379 ap242
    have ap243 := w49.vec h380
    have h389 := u57.vec h380 ap243
    have ap244 := w49.vec h381
    have h390 := u57.vec h381 ap244
    have ap245 := w49.vec h382
    have h391 := u57.vec h382 ap245
    have ap246 := w49.vec h377
    have h392 := u57.vec h377 ap246
    obtain ⟨r11, h_r11, H⟩ := Option.bind_eq_some_iff.1 H
    refine Opl.calls (spec_l40Rd_num.evb hq0 h387 h386 h_r11) rfl rfl rfl rfl rfl ?_
    rintro _ S ⟨rfl, h393, u58⟩
    have h394 := u58.sameP h388 OutT.box
    have h395 := u58.vec h389 (ap223.symm).pt
    have h396 := u58.vec h390 (ap227.symm).pt
    have h397 := u58.vec h391 (ap231.symm).pt
    have h398 := u58.vec h392 (ap236.symm).pt
    refine Opl.one (v := .lit (.int .i64 (wrap64 (((x9q3_1 ++ [(⟨0, 1, 0, 0⟩ : ITerm)]).length : Int) - 1)))) rfl rfl rfl (Opl.one (v := .ptr i0 0) rfl rfl rfl (Opl.one (v := pv69) rfl rfl rfl ?_))
    obtain ⟨r12, h_r12, H⟩ := Option.bind_eq_some_iff.1 H
    refine Opl.calls (spec_l1Pick.evv hq0 h393 h398 ap236.symm h_r12) rfl rfl rfl rfl rfl ?_
    rintro _ S ⟨rfl, h399, u59⟩
    have h400 := u59.sameP h394 OutT.box
    have h401 := u59.vec h395 (ap223.symm).pt
    have h402 := u59.vec h396 (ap227.symm).pt
    have h403 := u59.vec h397 (ap231.symm).pt
    have h404 := u59.vec h398 (ap236.symm).pt
    refine Opl.p1 (v := .agg [.lit (.int .i64 r11.2), .lit (.int .i64 0), .lit (.int .i64 (wrap64 (((x9q3_1 ++ [(⟨0, 1, 0, 0⟩ : ITerm)]).length : Int) - 1))), .lit (.int .i64 r12.2)]) (n := Opl.lits (M := cITerm) (ys := [(⟨r11.2, 0, (wrap64 (((x9q3_1 ++ [(⟨0, 1, 0, 0⟩ : ITerm)]).length : Int) - 1)), r12.2⟩ : ITerm)]) [.tmp 115] K44 T95 rfl rfl rfl (by exact ⟨cITerm_mk, trivial⟩) rfl (by decide) rfl rfl rfl ?_)
    rintro pv73 S h405 u60 w50
    have ap247 := w50.box h399
    have h406 := u60.box h399 ap247
    have ap248 := w50.sameP h400
    have h407 := u60.sameP h400 ap248
    have ap249 := w50.vec h401
    have h408 := u60.vec h401 ap249
    have ap250 := w50.vec h402
    have h409 := u60.vec h402 ap250
    have ap251 := w50.vec h403
    have h410 := u60.vec h403 ap251
    have ap252 := w50.vec h404
    have h411 := u60.vec h404 ap252
    obtain ⟨c41, H⟩ := peel H
    refine Opl.app (M := cITerm) (xs := (x9q3_1 ++ [(⟨0, 1, 0, 0⟩ : ITerm)])) (ys := [(⟨r11.2, 0, (wrap64 (((x9q3_1 ++ [(⟨0, 1, 0, 0⟩ : ITerm)]).length : Int) - 1)), r12.2⟩ : ITerm)]) (v := pv67) h409 (.vec h405) oITerm rfl rfl K44 T95 rfl rfl (by (try simp only [List.length_cons, List.length_nil]); omega) (by show (_ + _) * 32 ≤ 140737488355328; (try simp only [List.length_cons, List.length_nil]); omega) rfl rfl rfl rfl rfl ?_
    rintro pv74 S h412 u61 w51
    have ap253 := w51.box h406
    have h413 := u61.box h406 ap227
    have ap254 := w51.sameP h407
    have h414 := u61.sameP h407 ap229
    have ap255 := w51.vec h408
    have h415 := u61.vec h408 ap230
    have ap256 := w51.vec h410
    have h416 := u61.vec h410 ap235.symm
    have ap257 := w51.vec h411
    have h417 := u61.vec h411 ap239.symm
    have ap258 := w51.vec h405
    have h418 := u61.vec h405 ap250.symm
    refine Opl.one (v := pv74) rfl rfl rfl (Opl.nil (Evr.sr rfl (Opl.one (v := pv74) rfl rfl rfl (Opl.one (v := pv74) rfl rfl rfl (Opl.nil ?_)))))
    obtain rfl := Option.some.inj H
    refine Evr.ret1 Try.func119 rfl ?_
    exact ⟨h412, (OutT.new (i := i0) ap254 ap253.symm), h413, h414⟩
   rw [if_neg c40] at H
   have e36 : ((rd (x10q3_1 ++ [1]) (wrap64 (((x9q3_1 ++ [(⟨0, 1, 0, 0⟩ : ITerm)]).length : Int) - 1))) != a2) = false := by simpa using c40
   try rw [e36]
   refine Evr.condF rfl (Evr.sr rfl (Opl.one (v := .lit (.int .i64 a2)) rfl rfl rfl (Opl.p1 (n := Opl.one (v := .lit (.bool (a2 == 1))) rfl rfl rfl ?_))))
   by_cases c42 : a2 = 1
   case neg =>
    rw [if_neg c42] at H
    have e40 : (a2 == 1) = false := by simpa using c42
    try rw [e40]
    refine Opl.skp rfl (Opl.skp rfl (Opl.skp rfl (Opl.skp rfl (Opl.skp rfl (Opl.skp rfl (Opl.p1 (n := Opl.nil (Evr.condF rfl (Evr.skip (Evr.sr rfl (Opl.one (v := pv67) rfl rfl rfl (Opl.one (v := pv67) rfl rfl rfl (Opl.nil ?_)))))))))))))
    obtain rfl := Option.some.inj H
    refine Evr.ret1 Try.func119 rfl ?_
    exact ⟨h381, (OutT.new (i := i0) ap229 ap227.symm), h378, h379⟩
   rw [if_pos c42] at H
   have e37 : (a2 == 1) = true := by simpa using c42
   try rw [e37]
   refine Opl.one (v := pv69) rfl rfl rfl (Opl.one (v := .lit (.int .i64 (wrap64 (((x9q3_1 ++ [(⟨0, 1, 0, 0⟩ : ITerm)]).length : Int) - 1)))) rfl rfl rfl ?_)
   obtain ⟨c43, H⟩ := peel H
   obtain ⟨c44, H⟩ := peel H
   refine Opl.idv (M := (cInt .i64)) (xs := (x10q3_1 ++ [1])) (j := (wrap64 (((x9q3_1 ++ [(⟨0, 1, 0, 0⟩ : ITerm)]).length : Int) - 1))) (v := pv69) h377 rfl rfl (by omega) (by omega) K29 Z3 rfl rfl ?_
   rintro d2 z2 q3 h419 h420
   refine Opl.ldv (M := (cInt .i64)) (xs := (x10q3_1 ++ [1])) (j := (wrap64 (((x9q3_1 ++ [(⟨0, 1, 0, 0⟩ : ITerm)]).length : Int) - 1))) (0 : Int) h419 h420 (by omega) (by omega) rfl T3 rfl rfl rfl ?_
   rintro p2 q4 h421
   obtain rfl : p2 = [.lit (.int .i64 (rd (x10q3_1 ++ [1]) (wrap64 (((x9q3_1 ++ [(⟨0, 1, 0, 0⟩ : ITerm)]).length : Int) - 1))))] := h421
   refine ⟨.lit (.int .i64 (rd (x10q3_1 ++ [1]) (wrap64 (((x9q3_1 ++ [(⟨0, 1, 0, 0⟩ : ITerm)]).length : Int) - 1)))), rfl, ?_⟩
   refine Opl.one (v := .lit (.int .i64 a2)) rfl rfl rfl (Opl.neq (a := (rd (x10q3_1 ++ [1]) (wrap64 (((x9q3_1 ++ [(⟨0, 1, 0, 0⟩ : ITerm)]).length : Int) - 1)))) (b := a2) K3 rfl rfl rfl rfl (Opl.p1 (n := Opl.nil ?_)))
   by_cases c45 : (rd (x10q3_1 ++ [1]) (wrap64 (((x9q3_1 ++ [(⟨0, 1, 0, 0⟩ : ITerm)]).length : Int) - 1))) ≠ a2
   case neg =>
    rw [if_neg c45] at H
    have e39 : ((rd (x10q3_1 ++ [1]) (wrap64 (((x9q3_1 ++ [(⟨0, 1, 0, 0⟩ : ITerm)]).length : Int) - 1))) != a2) = false := by simpa using c45
    try rw [e39]
    refine Evr.condF rfl (Evr.skip (Evr.sr rfl (Opl.one (v := pv67) rfl rfl rfl (Opl.one (v := pv67) rfl rfl rfl (Opl.nil ?_)))))
    obtain rfl := Option.some.inj H
    refine Evr.ret1 Try.func119 rfl ?_
    exact ⟨h381, (OutT.new (i := i0) ap229 ap227.symm), h378, h379⟩
   rw [if_pos c45] at H
   have e38 : ((rd (x10q3_1 ++ [1]) (wrap64 (((x9q3_1 ++ [(⟨0, 1, 0, 0⟩ : ITerm)]).length : Int) - 1))) != a2) = true := by simpa using c45
   try rw [e38]
   refine Evr.condT rfl (Evr.sr rfl (Opl.one (v := .ptr i0 0) rfl rfl rfl (Opl.one (v := pv69) rfl rfl rfl ?_)))
   obtain ⟨r13, h_r13, H⟩ := Option.bind_eq_some_iff.1 H
   refine Opl.calls (spec_l1Pick.evv hq0 h378 h377 ap236.symm h_r13) rfl rfl rfl rfl rfl ?_
   rintro _ S ⟨rfl, h422, u62⟩
   have h423 := u62.sameP h379 OutT.box
   have h424 := u62.vec h380 (ap223.symm).pt
   have h425 := u62.vec h381 (ap227.symm).pt
   have h426 := u62.vec h382 (ap231.symm).pt
   have h427 := u62.vec h377 (ap236.symm).pt
   refine Opl.one (v := .lit (.int .i64 r13.2)) rfl rfl rfl (Opl.nil (Evr.regionN rfl (Opl.one (v := pv67) rfl rfl rfl (Opl.one (v := .ptr i0 0) rfl rfl rfl (Opl.litf (M := (cInt .i64)) (ys := [2, 3]) [.const (.int .i64 2), .const (.int .i64 3)] K29 T3 rfl rfl rfl (by exact ⟨rfl, rfl, trivial⟩) rfl (by decide) rfl rfl rfl ?_)))))
   rintro pv76 pv77 S h428 u63 w52
   have ap259 := w52.box h422
   have h429 := u63.box h422 ap259
   have ap260 := w52.sameP h423
   have h430 := u63.sameP h423 ap260
   have ap261 := w52.vec h424
   have h431 := u63.vec h424 ap261
   have ap262 := w52.vec h425
   have h432 := u63.vec h425 ap262
   have ap263 := w52.vec h426
   have h433 := u63.vec h426 ap263
   have ap264 := w52.vec h427
   have h434 := u63.vec h427 ap264
   obtain ⟨r14, h_r14, H⟩ := Option.bind_eq_some_iff.1 H
   refine Opl.calls (spec_l40Rd_num.evb hq0 h429 h428 h_r14) rfl rfl rfl rfl rfl ?_
   rintro _ S ⟨rfl, h435, u64⟩
   have h436 := u64.sameP h430 OutT.box
   have h437 := u64.vec h431 (ap223.symm).pt
   have h438 := u64.vec h432 (ap227.symm).pt
   have h439 := u64.vec h433 (ap231.symm).pt
   have h440 := u64.vec h434 (ap236.symm).pt
   refine Opl.one (v := .lit (.int .i64 r13.2)) rfl rfl rfl (Opl.one (v := .ptr i0 0) rfl rfl rfl (Opl.one (v := pv69) rfl rfl rfl ?_))
   obtain ⟨r15, h_r15, H⟩ := Option.bind_eq_some_iff.1 H
   refine Opl.calls (spec_l1Pick.evv hq0 h435 h440 ap236.symm h_r15) rfl rfl rfl rfl rfl ?_
   rintro _ S ⟨rfl, h441, u65⟩
   have h442 := u65.sameP h436 OutT.box
   have h443 := u65.vec h437 (ap223.symm).pt
   have h444 := u65.vec h438 (ap227.symm).pt
   have h445 := u65.vec h439 (ap231.symm).pt
   have h446 := u65.vec h440 (ap236.symm).pt
   refine Opl.p1 (v := .agg [.lit (.int .i64 r14.2), .lit (.int .i64 0), .lit (.int .i64 r13.2), .lit (.int .i64 r15.2)]) (n := Opl.lits (M := cITerm) (ys := [(⟨r14.2, 0, r13.2, r15.2⟩ : ITerm)]) [.tmp 139] K44 T95 rfl rfl rfl (by exact ⟨cITerm_mk, trivial⟩) rfl (by decide) rfl rfl rfl ?_)
   rintro pv78 S h447 u66 w53
   have ap265 := w53.box h441
   have h448 := u66.box h441 ap265
   have ap266 := w53.sameP h442
   have h449 := u66.sameP h442 ap266
   have ap267 := w53.vec h443
   have h450 := u66.vec h443 ap267
   have ap268 := w53.vec h444
   have h451 := u66.vec h444 ap268
   have ap269 := w53.vec h445
   have h452 := u66.vec h445 ap269
   have ap270 := w53.vec h446
   have h453 := u66.vec h446 ap270
   obtain ⟨c46, H⟩ := peel H
   refine Opl.app (M := cITerm) (xs := (x9q3_1 ++ [(⟨0, 1, 0, 0⟩ : ITerm)])) (ys := [(⟨r14.2, 0, r13.2, r15.2⟩ : ITerm)]) (v := pv67) h451 (.vec h447) oITerm rfl rfl K44 T95 rfl rfl (by (try simp only [List.length_cons, List.length_nil]); omega) (by show (_ + _) * 32 ≤ 140737488355328; (try simp only [List.length_cons, List.length_nil]); omega) rfl rfl rfl rfl rfl ?_
   rintro pv79 S h454 u67 w54
   have ap271 := w54.box h448
   have h455 := u67.box h448 ap227
   have ap272 := w54.sameP h449
   have h456 := u67.sameP h449 ap229
   have ap273 := w54.vec h450
   have h457 := u67.vec h450 ap230
   have ap274 := w54.vec h452
   have h458 := u67.vec h452 ap235.symm
   have ap275 := w54.vec h453
   have h459 := u67.vec h453 ap239.symm
   have ap276 := w54.vec h447
   have h460 := u67.vec h447 ap268.symm
   refine Opl.one (v := pv79) rfl rfl rfl (Opl.nil (Evr.sr rfl (Opl.one (v := pv79) rfl rfl rfl (Opl.one (v := pv79) rfl rfl rfl (Opl.nil ?_)))))
   obtain rfl := Option.some.inj H
   refine Evr.ret1 Try.func119 rfl ?_
   exact ⟨h454, (OutT.new (i := i0) ap272 ap271.symm), h455, h456⟩
  rw [if_pos c1] at H
  have e1 : (decide (x11_1 > 0)) = true := by simpa using c1
  try rw [e1]
  refine Evr.condT rfl (Evr.skip (Evr.seq (Evr.block (Evr.sr rfl (Opl.p1 (n := Opl.litf (M := (cInt .i64)) (ys := [0, 1, 1, 2, 3, 4, 5, 6, 5, 6, 7, 8, 9]) [.const (.int .i64 0), .const (.int .i64 1), .const (.int .i64 1), .const (.int .i64 2), .const (.int .i64 3), .const (.int .i64 4), .const (.int .i64 5), .const (.int .i64 6), .const (.int .i64 5), .const (.int .i64 6), .const (.int .i64 7), .const (.int .i64 8), .const (.int .i64 9)] K29 T3 rfl rfl rfl (by exact ⟨rfl, rfl, rfl, rfl, rfl, rfl, rfl, rfl, rfl, rfl, rfl, rfl, rfl, trivial⟩) rfl (by decide) rfl rfl rfl ?_))))))
  rintro pv6 pv7 S h16 u4 w3
  have ap9 := w3.box h12
  have h17 := u4.box h12 ap9
  have ap10 := w3.vec h13
  have h18 := u4.vec h13 ap10
  have ap11 := w3.vec h14
  have h19 := u4.vec h14 ap11
  have ap12 := w3.sameP h15
  have h20 := u4.sameP h15 ap12
  obtain ⟨r2, h_r2, H⟩ := Option.bind_eq_some_iff.1 H
  refine Opl.calls (spec_l40Rd_num.evb hq0 h17 h16 h_r2) rfl rfl rfl rfl rfl ?_
  rintro _ S ⟨rfl, h21, u5⟩
  have h22 := u5.vec h18 (ap6.symm).pt
  have h23 := u5.vec h19 (ap7.symm).pt
  have h24 := u5.sameP h20 OutT.box
  refine Opl.p1 (n := Opl.nil (Evr.sr rfl (Opl.p1 (n := Opl.p1 (v := .agg [.lit (.int .i64 r2.2), .lit (.int .i64 0), .lit (.int .i64 0), .lit (.int .i64 0)]) (n := Opl.alloc T95 rfl rfl rfl ?_)))))
  rintro i1 S h25 u6 w4
  have ap13 := w4.box h21
  have h26 := u6.box h21 ap13
  have ap14 := w4.vec h22
  have h27 := u6.vec h22 ap14
  have ap15 := w4.vec h23
  have h28 := u6.vec h23 ap15
  have ap16 := w4.sameP h24
  have h29 := u6.sameP h24 ap16
  refine Opl.stb (vs := [.lit (.int .i64 r2.2), .lit (.int .i64 0), .lit (.int .i64 0), .lit (.int .i64 0)]) h25 rfl rfl Z95 rfl (Nat.le_of_ble_eq_true rfl) rfl rfl rfl rfl ?_
  rintro S (h30 : Box (.ptr i1 0) [.lit (.int .i64 r2.2), .lit (.int .i64 0), .lit (.int .i64 0), .lit (.int .i64 0)] _) u7
  have h31 := u7.box h26 ap13
  have h32 := u7.vec h27 ap14
  have h33 := u7.vec h28 ap15
  have h34 := u7.sameP h29 ap16
  refine Opl.nil (Evr.seq (Evr.sr rfl (Opl.p1 (n := Opl.lenv (xs := x9q3_1) (by exact h32) K44 rfl rfl rfl rfl (Opl.p1 (n := Opl.p1 (n := ?_)))))))
  by_cases c2 : (x9q3_1.length : Int) = 0
  case pos =>
   rw [if_pos c2] at H
   have e2 : ((x9q3_1.length : Int) == 0) = true := by simpa using c2
   try rw [e2]
   refine Opl.skp rfl (Opl.skp rfl (Opl.p1 (n := Opl.nil (Evr.condT rfl (Evr.sr rfl (Opl.p1 (n := ?_)))))))
   obtain ⟨r4, h_r4, H⟩ := Option.bind_eq_some_iff.1 H
   refine Opl.calls (spec_l1Number.evb hq0 h31 h_r4) rfl rfl rfl rfl rfl ?_
   rintro _ S ⟨rfl, h35, u8⟩
   have h36 := u8.vec h32 (ap6.symm).pt
   have h37 := u8.vec h33 (ap7.symm).pt
   have h38 := u8.sameP h34 OutT.box
   have h39 := u8.box h30 (ap13.symm).pt
   refine Opl.p1 (v := .agg [.lit (.int .i64 0), .lit (.int .i64 r4.2), .lit (.int .i64 0), .lit (.int .i64 0)]) (n := Opl.stb (vs := [.lit (.int .i64 0), .lit (.int .i64 r4.2), .lit (.int .i64 0), .lit (.int .i64 0)]) h39 rfl rfl Z95 rfl (Nat.le_of_ble_eq_true rfl) rfl rfl rfl rfl ?_)
   rintro S (h40 : Box (.ptr i1 0) [.lit (.int .i64 0), .lit (.int .i64 r4.2), .lit (.int .i64 0), .lit (.int .i64 0)] _) u9
   have h41 := u9.box h35 ap13
   have h42 := u9.vec h36 ap14
   have h43 := u9.vec h37 ap15
   have h44 := u9.sameP h38 ap16
   refine Opl.nil (Evr.sr rfl (Opl.p1 (n := Opl.p1 (n := Opl.p1 (n := ?_)))))
   by_cases c3 : a1 > 0
   case neg =>
    rw [if_neg c3] at H
    have e10 : (decide (a1 > 0)) = false := by simpa using c3
    try rw [e10]
    refine Opl.skp rfl (Opl.skp rfl (Opl.p1 (n := Opl.nil (Evr.condF rfl (Evr.skip (Evr.sr rfl (Opl.ldb (v := .agg [.lit (.int .i64 0), .lit (.int .i64 r4.2), .lit (.int .i64 0), .lit (.int .i64 0)]) h40 rfl T95 rfl rfl rfl rfl (Opl.p1 (n := Opl.p1 (n := ?_))))))))))
    obtain _ | k7 := n1
    · simp [spec_l1Terms.j3] at H
    simp only [spec_l1Terms.j3] at H
    obtain _ | k8 := k7
    · simp [spec_l1Terms.j2] at H
    simp only [spec_l1Terms.j2] at H
    obtain ⟨r3, h_r3, H⟩ := Option.bind_eq_some_iff.1 H
    obtain ⟨pv22, h119, -, h120⟩ := Out.vec h43
    refine Opl.callw (spec_l1Kind.ev h120 h_r3) rfl rfl rfl (.cons (.refl _) (.cons h119 (.cons (.refl _) .nil))) ⟨(.aggL ⟨(.lit _), (.lit _), (.lit _), (.lit _), trivial⟩), h120.plain, (.lit _), trivial⟩ (by decide) (Opl.p1 (n := Opl.nil (Evr.sr rfl (Opl.p1 (n := Opl.p1 (n := Opl.nil ?_))))))
    refine Evr.join (fun tm S => ∃ (kq3 : Nat) (x9q3_4 : List ITerm) (x10q3_4 : List Int) (pv23 : PV) (pv24 : PV), spec_l1Terms.l1 kq3 r4.1 x9q3_4 x10q3_4 (wrap64 (x11_1 - 1)) l0_0 a1 a2 = some r ∧ kq3 ≤ k8 ∧ Has tm [(0, .ptr i0 0), (1, .lit (.int .i64 a1)), (2, .lit (.int .i64 a2)), (9, pv23), (10, pv24), (11, .lit (.int .i64 x11_1))] ∧ Box (.ptr i0 0) [q0, .lit (.int .i64 r4.1)] S ∧ Vec cITerm x9q3_4 pv23 S ∧ Vec (cInt .i64) x10q3_4 pv24 S ∧ Same S0 S [i0] ∧ OutT S0 [i0] (PV.id? pv23).toList ∧ OutT S0 [i0] (PV.id? pv24).toList ∧ Ap (.ptr i0 0) pv23 ∧ Ap (.ptr i0 0) pv24 ∧ Ap pv23 pv24) ?_ fun hk3 => ?_
    ·
     rintro tm S ⟨kq3, x9q3_4, x10q3_4, pv23, pv24, H, hle, hh, h121, h122, h123, h124, o7, o8, ap67, ap68, ap69⟩
     rw [hh.eq]
     refine Evr.inBlock (Evr.regionN rfl (Opl.p1 (n := Opl.subi (k := .i64) (a := x11_1) (b := 1) K3 rfl rfl rfl rfl (Opl.one (v := .lit (.int .i64 (wrap64 (x11_1 - 1)))) rfl rfl rfl (Opl.nil ?_)))))
     exact ih1 _ (by omega) _ _ ⟨by omega, _, _, _, _, _, _, H, ⟨rfl, rfl, rfl, rfl, rfl, rfl, trivial⟩, h121, h122, h123, h124, o7, o8, ap67, ap68, ap69⟩
    ·
     by_cases c11 : r3 ≠ 0
     case neg =>
      rw [if_neg c11] at H
      have e12 : (r3 != 0) = false := by simpa using c11
      try rw [e12]
      refine Evr.condF rfl (Evr.skip ?_)
      exact hk3 _ _ ⟨_, _, _, _, _, H, by omega, ⟨rfl, rfl, rfl, rfl, rfl, rfl, trivial⟩, h41, h42, h43, h44, o1, o2, ap6, ap7, ap8⟩
     rw [if_pos c11] at H
     have e11 : (r3 != 0) = true := by simpa using c11
     try rw [e11]
     refine Evr.condT rfl (Evr.sr rfl (Opl.p1 (n := Opl.ldb (v := .agg [.lit (.int .i64 0), .lit (.int .i64 r4.2), .lit (.int .i64 0), .lit (.int .i64 0)]) h40 rfl T95 rfl rfl rfl rfl (Opl.lits (M := cITerm) (ys := [(⟨0, r4.2, 0, 0⟩ : ITerm)]) [.tmp 77] K44 T95 rfl rfl rfl (by exact ⟨cITerm_mk, trivial⟩) rfl (by decide) rfl rfl rfl ?_))))
     rintro pv25 S h125 u20 w16
     have ap70 := w16.box h41
     have h126 := u20.box h41 ap70
     have ap71 := w16.vec h42
     have h127 := u20.vec h42 ap71
     have ap72 := w16.vec h43
     have h128 := u20.vec h43 ap72
     have ap73 := w16.sameP h44
     have h129 := u20.sameP h44 ap73
     have ap74 := w16.box h40
     have h130 := u20.box h40 ap74
     obtain ⟨c12, H⟩ := peel H
     obtain ⟨c13, H⟩ := peel H
     refine Opl.app (M := cITerm) (xs := x9q3_1) (ys := [(⟨0, r4.2, 0, 0⟩ : ITerm)]) (v := pv3) h127 (.vec h125) oITerm rfl rfl K44 T95 rfl rfl (by (try simp only [List.length_cons, List.length_nil]); omega) (by show (_ + _) * 32 ≤ 140737488355328; (try simp only [List.length_cons, List.length_nil]); omega) rfl rfl rfl rfl rfl ?_
     rintro pv26 S h131 u21 w17
     have ap75 := w17.box h126
     have h132 := u21.box h126 ap6
     have ap76 := w17.vec h128
     have h133 := u21.vec h128 ap8.symm
     have ap77 := w17.sameP h129
     have h134 := u21.sameP h129 o1
     have ap78 := w17.box h130
     have h135 := u21.box h130 ap14.symm
     have ap79 := w17.vec h125
     have h136 := u21.vec h125 ap71.symm
     refine Opl.p1 (n := Opl.nil (Evr.regionN rfl (Opl.p1 (n := Opl.p1 (n := Opl.lits (M := (cInt .i64)) (ys := [r3]) [.tmp 81] K29 T3 rfl rfl rfl (by exact ⟨rfl, trivial⟩) rfl (by decide) rfl rfl rfl ?_)))))
     rintro pv27 S h137 u22 w18
     have ap80 := w18.box h132
     have h138 := u22.box h132 ap80
     have ap81 := w18.vec h133
     have h139 := u22.vec h133 ap81
     have ap82 := w18.sameP h134
     have h140 := u22.sameP h134 ap82
     have ap83 := w18.box h135
     have h141 := u22.box h135 ap83
     have ap84 := w18.vec h136
     have h142 := u22.vec h136 ap84
     have ap85 := w18.vec h131
     have h143 := u22.vec h131 ap85
     refine Opl.app (M := (cInt .i64)) (xs := x10q3_1) (ys := [r3]) (v := pv4) h139 (.vec h137) (oInt .i64) rfl rfl K29 T3 rfl rfl (by (try simp only [List.length_cons, List.length_nil]); omega) (by show (_ + _) * 8 ≤ 140737488355328; (try simp only [List.length_cons, List.length_nil]); omega) rfl rfl rfl rfl rfl ?_
     rintro pv28 S h144 u23 w19
     have ap86 := w19.box h138
     have h145 := u23.box h138 ap7
     have ap87 := w19.sameP h140
     have h146 := u23.sameP h140 o2
     have ap88 := w19.box h141
     have h147 := u23.box h141 ap15.symm
     have ap89 := w19.vec h142
     have h148 := u23.vec h142 ap72.symm
     have ap90 := w19.vec h143
     have h149 := u23.vec h143 ap76.symm
     have ap91 := w19.vec h137
     have h150 := u23.vec h137 ap81.symm
     refine Opl.p1 (n := Opl.nil ?_)
     exact hk3 _ _ ⟨_, _, _, _, _, H, by omega, ⟨rfl, rfl, rfl, rfl, rfl, rfl, trivial⟩, h145, h149, h144, h146, ap77, ap87, ap75, ap86, ap90⟩
   rw [if_pos c3] at H
   have e3 : (decide (a1 > 0)) = true := by simpa using c3
   try rw [e3]
   refine Opl.p1 (n := Opl.p1 (n := Opl.p1 (n := Opl.nil ?_)))
   by_cases c4 : r2.2 ≠ 0
   case neg =>
    rw [if_neg c4] at H
    have e7 : (r2.2 != 0) = false := by simpa using c4
    try rw [e7]
    refine Evr.condF rfl (Evr.skip (Evr.sr rfl (Opl.ldb (v := .agg [.lit (.int .i64 0), .lit (.int .i64 r4.2), .lit (.int .i64 0), .lit (.int .i64 0)]) h40 rfl T95 rfl rfl rfl rfl (Opl.p1 (n := Opl.p1 (n := ?_))))))
    obtain _ | k4 := n1
    · simp [spec_l1Terms.j4] at H
    simp only [spec_l1Terms.j4] at H
    obtain _ | k5 := k4
    · simp [spec_l1Terms.j3] at H
    simp only [spec_l1Terms.j3] at H
    obtain _ | k6 := k5
    · simp [spec_l1Terms.j2] at H
    simp only [spec_l1Terms.j2] at H
    obtain ⟨r3, h_r3, H⟩ := Option.bind_eq_some_iff.1 H
    obtain ⟨pv15, h87, -, h88⟩ := Out.vec h43
    refine Opl.callw (spec_l1Kind.ev h88 h_r3) rfl rfl rfl (.cons (.refl _) (.cons h87 (.cons (.refl _) .nil))) ⟨(.aggL ⟨(.lit _), (.lit _), (.lit _), (.lit _), trivial⟩), h88.plain, (.lit _), trivial⟩ (by decide) (Opl.p1 (n := Opl.nil (Evr.sr rfl (Opl.p1 (n := Opl.p1 (n := Opl.nil ?_))))))
    refine Evr.join (fun tm S => ∃ (kq2 : Nat) (x9q3_3 : List ITerm) (x10q3_3 : List Int) (pv16 : PV) (pv17 : PV), spec_l1Terms.l1 kq2 r4.1 x9q3_3 x10q3_3 (wrap64 (x11_1 - 1)) l0_0 a1 a2 = some r ∧ kq2 ≤ k6 ∧ Has tm [(0, .ptr i0 0), (1, .lit (.int .i64 a1)), (2, .lit (.int .i64 a2)), (9, pv16), (10, pv17), (11, .lit (.int .i64 x11_1))] ∧ Box (.ptr i0 0) [q0, .lit (.int .i64 r4.1)] S ∧ Vec cITerm x9q3_3 pv16 S ∧ Vec (cInt .i64) x10q3_3 pv17 S ∧ Same S0 S [i0] ∧ OutT S0 [i0] (PV.id? pv16).toList ∧ OutT S0 [i0] (PV.id? pv17).toList ∧ Ap (.ptr i0 0) pv16 ∧ Ap (.ptr i0 0) pv17 ∧ Ap pv16 pv17) ?_ fun hk2 => ?_
    ·
     rintro tm S ⟨kq2, x9q3_3, x10q3_3, pv16, pv17, H, hle, hh, h89, h90, h91, h92, o5, o6, ap42, ap43, ap44⟩
     rw [hh.eq]
     refine Evr.inBlock (Evr.regionN rfl (Opl.p1 (n := Opl.subi (k := .i64) (a := x11_1) (b := 1) K3 rfl rfl rfl rfl (Opl.one (v := .lit (.int .i64 (wrap64 (x11_1 - 1)))) rfl rfl rfl (Opl.nil ?_)))))
     exact ih1 _ (by omega) _ _ ⟨by omega, _, _, _, _, _, _, H, ⟨rfl, rfl, rfl, rfl, rfl, rfl, trivial⟩, h89, h90, h91, h92, o5, o6, ap42, ap43, ap44⟩
    ·
     by_cases c8 : r3 ≠ 0
     case neg =>
      rw [if_neg c8] at H
      have e9 : (r3 != 0) = false := by simpa using c8
      try rw [e9]
      refine Evr.condF rfl (Evr.skip ?_)
      exact hk2 _ _ ⟨_, _, _, _, _, H, by omega, ⟨rfl, rfl, rfl, rfl, rfl, rfl, trivial⟩, h41, h42, h43, h44, o1, o2, ap6, ap7, ap8⟩
     rw [if_pos c8] at H
     have e8 : (r3 != 0) = true := by simpa using c8
     try rw [e8]
     refine Evr.condT rfl (Evr.sr rfl (Opl.p1 (n := Opl.ldb (v := .agg [.lit (.int .i64 0), .lit (.int .i64 r4.2), .lit (.int .i64 0), .lit (.int .i64 0)]) h40 rfl T95 rfl rfl rfl rfl (Opl.lits (M := cITerm) (ys := [(⟨0, r4.2, 0, 0⟩ : ITerm)]) [.tmp 77] K44 T95 rfl rfl rfl (by exact ⟨cITerm_mk, trivial⟩) rfl (by decide) rfl rfl rfl ?_))))
     rintro pv18 S h93 u16 w12
     have ap45 := w12.box h41
     have h94 := u16.box h41 ap45
     have ap46 := w12.vec h42
     have h95 := u16.vec h42 ap46
     have ap47 := w12.vec h43
     have h96 := u16.vec h43 ap47
     have ap48 := w12.sameP h44
     have h97 := u16.sameP h44 ap48
     have ap49 := w12.box h40
     have h98 := u16.box h40 ap49
     obtain ⟨c9, H⟩ := peel H
     obtain ⟨c10, H⟩ := peel H
     refine Opl.app (M := cITerm) (xs := x9q3_1) (ys := [(⟨0, r4.2, 0, 0⟩ : ITerm)]) (v := pv3) h95 (.vec h93) oITerm rfl rfl K44 T95 rfl rfl (by (try simp only [List.length_cons, List.length_nil]); omega) (by show (_ + _) * 32 ≤ 140737488355328; (try simp only [List.length_cons, List.length_nil]); omega) rfl rfl rfl rfl rfl ?_
     rintro pv19 S h99 u17 w13
     have ap50 := w13.box h94
     have h100 := u17.box h94 ap6
     have ap51 := w13.vec h96
     have h101 := u17.vec h96 ap8.symm
     have ap52 := w13.sameP h97
     have h102 := u17.sameP h97 o1
     have ap53 := w13.box h98
     have h103 := u17.box h98 ap14.symm
     have ap54 := w13.vec h93
     have h104 := u17.vec h93 ap46.symm
     refine Opl.p1 (n := Opl.nil (Evr.regionN rfl (Opl.p1 (n := Opl.p1 (n := Opl.lits (M := (cInt .i64)) (ys := [r3]) [.tmp 81] K29 T3 rfl rfl rfl (by exact ⟨rfl, trivial⟩) rfl (by decide) rfl rfl rfl ?_)))))
     rintro pv20 S h105 u18 w14
     have ap55 := w14.box h100
     have h106 := u18.box h100 ap55
     have ap56 := w14.vec h101
     have h107 := u18.vec h101 ap56
     have ap57 := w14.sameP h102
     have h108 := u18.sameP h102 ap57
     have ap58 := w14.box h103
     have h109 := u18.box h103 ap58
     have ap59 := w14.vec h104
     have h110 := u18.vec h104 ap59
     have ap60 := w14.vec h99
     have h111 := u18.vec h99 ap60
     refine Opl.app (M := (cInt .i64)) (xs := x10q3_1) (ys := [r3]) (v := pv4) h107 (.vec h105) (oInt .i64) rfl rfl K29 T3 rfl rfl (by (try simp only [List.length_cons, List.length_nil]); omega) (by show (_ + _) * 8 ≤ 140737488355328; (try simp only [List.length_cons, List.length_nil]); omega) rfl rfl rfl rfl rfl ?_
     rintro pv21 S h112 u19 w15
     have ap61 := w15.box h106
     have h113 := u19.box h106 ap7
     have ap62 := w15.sameP h108
     have h114 := u19.sameP h108 o2
     have ap63 := w15.box h109
     have h115 := u19.box h109 ap15.symm
     have ap64 := w15.vec h110
     have h116 := u19.vec h110 ap47.symm
     have ap65 := w15.vec h111
     have h117 := u19.vec h111 ap51.symm
     have ap66 := w15.vec h105
     have h118 := u19.vec h105 ap56.symm
     refine Opl.p1 (n := Opl.nil ?_)
     exact hk2 _ _ ⟨_, _, _, _, _, H, by omega, ⟨rfl, rfl, rfl, rfl, rfl, rfl, trivial⟩, h113, h117, h112, h114, ap52, ap62, ap50, ap61, ap65⟩
   rw [if_pos c4] at H
   have e4 : (r2.2 != 0) = true := by simpa using c4
   try rw [e4]
   refine Evr.condT rfl (Evr.regionN rfl (Opl.p1 (n := Opl.p1 (n := ?_))))
   obtain ⟨r5, h_r5, H⟩ := Option.bind_eq_some_iff.1 H
   refine Opl.calls (spec_l40Rd_pick.evb hq0 h41 h_r5) rfl rfl rfl rfl rfl ?_
   rintro _ S ⟨rfl, h45, u10⟩
   have h46 := u10.vec h42 (ap6.symm).pt
   have h47 := u10.vec h43 (ap7.symm).pt
   have h48 := u10.sameP h44 OutT.box
   have h49 := u10.box h40 (ap13.symm).pt
   refine Opl.p1 (v := .agg [.lit (.int .i64 1), .lit (.int .i64 r5.2), .lit (.int .i64 0), .lit (.int .i64 0)]) (n := ?_)
   obtain _ | k1 := n1
   · simp [spec_l1Terms.j4] at H
   simp only [spec_l1Terms.j4] at H
   obtain _ | k2 := k1
   · simp [spec_l1Terms.j3] at H
   simp only [spec_l1Terms.j3] at H
   obtain _ | k3 := k2
   · simp [spec_l1Terms.j2] at H
   simp only [spec_l1Terms.j2] at H
   refine Opl.stb (vs := [.lit (.int .i64 1), .lit (.int .i64 r5.2), .lit (.int .i64 0), .lit (.int .i64 0)]) h49 rfl rfl Z95 rfl (Nat.le_of_ble_eq_true rfl) rfl rfl rfl rfl ?_
   rintro S (h50 : Box (.ptr i1 0) [.lit (.int .i64 1), .lit (.int .i64 r5.2), .lit (.int .i64 0), .lit (.int .i64 0)] _) u11
   have h51 := u11.box h45 ap13
   have h52 := u11.vec h46 ap14
   have h53 := u11.vec h47 ap15
   have h54 := u11.sameP h48 ap16
   refine Opl.nil (Evr.sr rfl (Opl.ldb (v := .agg [.lit (.int .i64 1), .lit (.int .i64 r5.2), .lit (.int .i64 0), .lit (.int .i64 0)]) h50 rfl T95 rfl rfl rfl rfl (Opl.p1 (n := Opl.p1 (n := ?_)))))
   obtain ⟨r3, h_r3, H⟩ := Option.bind_eq_some_iff.1 H
   obtain ⟨pv8, h55, -, h56⟩ := Out.vec h53
   refine Opl.callw (spec_l1Kind.ev h56 h_r3) rfl rfl rfl (.cons (.refl _) (.cons h55 (.cons (.refl _) .nil))) ⟨(.aggL ⟨(.lit _), (.lit _), (.lit _), (.lit _), trivial⟩), h56.plain, (.lit _), trivial⟩ (by decide) (Opl.p1 (n := Opl.nil (Evr.sr rfl (Opl.p1 (n := Opl.p1 (n := Opl.nil ?_))))))
   refine Evr.join (fun tm S => ∃ (kq1 : Nat) (x9q3_2 : List ITerm) (x10q3_2 : List Int) (pv9 : PV) (pv10 : PV), spec_l1Terms.l1 kq1 r5.1 x9q3_2 x10q3_2 (wrap64 (x11_1 - 1)) l0_0 a1 a2 = some r ∧ kq1 ≤ k3 ∧ Has tm [(0, .ptr i0 0), (1, .lit (.int .i64 a1)), (2, .lit (.int .i64 a2)), (9, pv9), (10, pv10), (11, .lit (.int .i64 x11_1))] ∧ Box (.ptr i0 0) [q0, .lit (.int .i64 r5.1)] S ∧ Vec cITerm x9q3_2 pv9 S ∧ Vec (cInt .i64) x10q3_2 pv10 S ∧ Same S0 S [i0] ∧ OutT S0 [i0] (PV.id? pv9).toList ∧ OutT S0 [i0] (PV.id? pv10).toList ∧ Ap (.ptr i0 0) pv9 ∧ Ap (.ptr i0 0) pv10 ∧ Ap pv9 pv10) ?_ fun hk1 => ?_
   ·
    rintro tm S ⟨kq1, x9q3_2, x10q3_2, pv9, pv10, H, hle, hh, h57, h58, h59, h60, o3, o4, ap17, ap18, ap19⟩
    rw [hh.eq]
    refine Evr.inBlock (Evr.regionN rfl (Opl.p1 (n := Opl.subi (k := .i64) (a := x11_1) (b := 1) K3 rfl rfl rfl rfl (Opl.one (v := .lit (.int .i64 (wrap64 (x11_1 - 1)))) rfl rfl rfl (Opl.nil ?_)))))
    exact ih1 _ (by omega) _ _ ⟨by omega, _, _, _, _, _, _, H, ⟨rfl, rfl, rfl, rfl, rfl, rfl, trivial⟩, h57, h58, h59, h60, o3, o4, ap17, ap18, ap19⟩
   ·
    by_cases c5 : r3 ≠ 0
    case neg =>
     rw [if_neg c5] at H
     have e6 : (r3 != 0) = false := by simpa using c5
     try rw [e6]
     refine Evr.condF rfl (Evr.skip ?_)
     exact hk1 _ _ ⟨_, _, _, _, _, H, by omega, ⟨rfl, rfl, rfl, rfl, rfl, rfl, trivial⟩, h51, h52, h53, h54, o1, o2, ap6, ap7, ap8⟩
    rw [if_pos c5] at H
    have e5 : (r3 != 0) = true := by simpa using c5
    try rw [e5]
    refine Evr.condT rfl (Evr.sr rfl (Opl.p1 (n := Opl.ldb (v := .agg [.lit (.int .i64 1), .lit (.int .i64 r5.2), .lit (.int .i64 0), .lit (.int .i64 0)]) h50 rfl T95 rfl rfl rfl rfl (Opl.lits (M := cITerm) (ys := [(⟨1, r5.2, 0, 0⟩ : ITerm)]) [.tmp 77] K44 T95 rfl rfl rfl (by exact ⟨cITerm_mk, trivial⟩) rfl (by decide) rfl rfl rfl ?_))))
    rintro pv11 S h61 u12 w8
    have ap20 := w8.box h51
    have h62 := u12.box h51 ap20
    have ap21 := w8.vec h52
    have h63 := u12.vec h52 ap21
    have ap22 := w8.vec h53
    have h64 := u12.vec h53 ap22
    have ap23 := w8.sameP h54
    have h65 := u12.sameP h54 ap23
    have ap24 := w8.box h50
    have h66 := u12.box h50 ap24
    obtain ⟨c6, H⟩ := peel H
    obtain ⟨c7, H⟩ := peel H
    refine Opl.app (M := cITerm) (xs := x9q3_1) (ys := [(⟨1, r5.2, 0, 0⟩ : ITerm)]) (v := pv3) h63 (.vec h61) oITerm rfl rfl K44 T95 rfl rfl (by (try simp only [List.length_cons, List.length_nil]); omega) (by show (_ + _) * 32 ≤ 140737488355328; (try simp only [List.length_cons, List.length_nil]); omega) rfl rfl rfl rfl rfl ?_
    rintro pv12 S h67 u13 w9
    have ap25 := w9.box h62
    have h68 := u13.box h62 ap6
    have ap26 := w9.vec h64
    have h69 := u13.vec h64 ap8.symm
    have ap27 := w9.sameP h65
    have h70 := u13.sameP h65 o1
    have ap28 := w9.box h66
    have h71 := u13.box h66 ap14.symm
    have ap29 := w9.vec h61
    have h72 := u13.vec h61 ap21.symm
    refine Opl.p1 (n := Opl.nil (Evr.regionN rfl (Opl.p1 (n := Opl.p1 (n := Opl.lits (M := (cInt .i64)) (ys := [r3]) [.tmp 81] K29 T3 rfl rfl rfl (by exact ⟨rfl, trivial⟩) rfl (by decide) rfl rfl rfl ?_)))))
    rintro pv13 S h73 u14 w10
    have ap30 := w10.box h68
    have h74 := u14.box h68 ap30
    have ap31 := w10.vec h69
    have h75 := u14.vec h69 ap31
    have ap32 := w10.sameP h70
    have h76 := u14.sameP h70 ap32
    have ap33 := w10.box h71
    have h77 := u14.box h71 ap33
    have ap34 := w10.vec h72
    have h78 := u14.vec h72 ap34
    have ap35 := w10.vec h67
    have h79 := u14.vec h67 ap35
    refine Opl.app (M := (cInt .i64)) (xs := x10q3_1) (ys := [r3]) (v := pv4) h75 (.vec h73) (oInt .i64) rfl rfl K29 T3 rfl rfl (by (try simp only [List.length_cons, List.length_nil]); omega) (by show (_ + _) * 8 ≤ 140737488355328; (try simp only [List.length_cons, List.length_nil]); omega) rfl rfl rfl rfl rfl ?_
    rintro pv14 S h80 u15 w11
    have ap36 := w11.box h74
    have h81 := u15.box h74 ap7
    have ap37 := w11.sameP h76
    have h82 := u15.sameP h76 o2
    have ap38 := w11.box h77
    have h83 := u15.box h77 ap15.symm
    have ap39 := w11.vec h78
    have h84 := u15.vec h78 ap22.symm
    have ap40 := w11.vec h79
    have h85 := u15.vec h79 ap26.symm
    have ap41 := w11.vec h73
    have h86 := u15.vec h73 ap31.symm
    refine Opl.p1 (n := Opl.nil ?_)
    exact hk1 _ _ ⟨_, _, _, _, _, H, by omega, ⟨rfl, rfl, rfl, rfl, rfl, rfl, trivial⟩, h81, h85, h80, h82, ap27, ap37, ap25, ap36, ap40⟩
  rw [if_neg c2] at H
  have e13 : ((x9q3_1.length : Int) == 0) = false := by simpa using c2
  try rw [e13]
  refine Opl.p1 (n := Opl.p1 (n := Opl.p1 (n := Opl.nil ?_)))
  by_cases c14 : r2.2 < 2
  case neg =>
   rw [if_neg c14] at H
   have e25 : (decide (r2.2 < 2)) = false := by simpa using c14
   try rw [e25]
   refine Evr.condF rfl (Evr.sr rfl (Opl.p1 (n := Opl.nil (Evr.seq (Evr.sr rfl (Opl.p1 (n := Opl.p1 (n := Opl.nil ?_))))))))
   refine Evr.join (fun tm S => ∃ (kq7 : Nat) (x14q8_1 : Int) (pv50 : PV) (pv51 : PV) (i2 : Abs.Id), spec_l1Terms.j8 kq7 x14q8_1 l0_0 a1 a2 x9q3_1 x10q3_1 x11_1 r2 = some r ∧ kq7 ≤ n1 ∧ Has tm [(0, .ptr i0 0), (1, .lit (.int .i64 a1)), (2, .lit (.int .i64 a2)), (9, pv50), (10, pv51), (11, .lit (.int .i64 x11_1)), (12, .lit (.int .i64 r2.2)), (13, .ptr i2 0), (14, .lit (.int .i64 x14q8_1))] ∧ Box (.ptr i0 0) [q0, .lit (.int .i64 r2.1)] S ∧ Vec cITerm x9q3_1 pv50 S ∧ Vec (cInt .i64) x10q3_1 pv51 S ∧ Box (.ptr i2 0) [.lit (.int .i64 r2.2), .lit (.int .i64 0), .lit (.int .i64 0), .lit (.int .i64 0)] S ∧ Same S0 S [i0] ∧ OutT S0 [i0] (PV.id? pv50).toList ∧ OutT S0 [i0] (PV.id? pv51).toList ∧ OutT S0 [i0] (PV.ptr i2 0).id?.toList ∧ Ap (.ptr i0 0) pv50 ∧ Ap (.ptr i0 0) pv51 ∧ Ap (.ptr i0 0) (.ptr i2 0) ∧ Ap pv50 pv51 ∧ Ap pv50 (.ptr i2 0) ∧ Ap pv51 (.ptr i2 0)) ?_ fun hk7 => ?_
   ·
    rintro tm S ⟨kq7, x14q8_1, pv50, pv51, i2, H, hle, hh, h267, h268, h269, h270, h271, o15, o16, o17, ap167, ap168, ap169, ap170, ap171, ap172⟩
    rw [hh.eq]
    refine Evr.sr rfl (Opl.p1 (n := Opl.p1 (n := Opl.p1 (n := ?_))))
    obtain _ | k20 := kq7
    · simp [spec_l1Terms.j8] at H
    simp only [spec_l1Terms.j8] at H
    obtain ⟨r8, h_r8, H⟩ := Option.bind_eq_some_iff.1 H
    refine Opl.calls (spec_l1Pick.evv hq0 h267 h269 ap168.symm h_r8) rfl rfl rfl rfl rfl ?_
    rintro _ S ⟨rfl, h272, u40⟩
    have h273 := u40.vec h268 (ap167.symm).pt
    have h274 := u40.vec h269 (ap168.symm).pt
    have h275 := u40.box h270 (ap169.symm).pt
    have h276 := u40.sameP h271 OutT.box
    refine Opl.p1 (v := .ptr i2 2) (n := Opl.stb (vs := [.lit (.int .i64 r8.2)]) h275 rfl rfl Z3 rfl (Nat.le_of_ble_eq_true rfl) rfl rfl rfl rfl ?_)
    rintro S (h277 : Box (.ptr i2 0) [.lit (.int .i64 r2.2), .lit (.int .i64 0), .lit (.int .i64 r8.2), .lit (.int .i64 0)] _) u41
    have h278 := u41.box h272 ap169
    have h279 := u41.vec h273 ap171
    have h280 := u41.vec h274 ap172
    have h281 := u41.sameP h276 o17
    refine Opl.nil (Evr.sr rfl (Opl.p1 (n := Opl.p1 (n := Opl.p1 (n := ?_)))))
    obtain ⟨r9, h_r9, H⟩ := Option.bind_eq_some_iff.1 H
    refine Opl.calls (spec_l1Pick.evv hq0 h278 h280 ap168.symm h_r9) rfl rfl rfl rfl rfl ?_
    rintro _ S ⟨rfl, h282, u42⟩
    have h283 := u42.vec h279 (ap167.symm).pt
    have h284 := u42.vec h280 (ap168.symm).pt
    have h285 := u42.box h277 (ap169.symm).pt
    have h286 := u42.sameP h281 OutT.box
    refine Opl.p1 (v := .ptr i2 3) (n := Opl.stb (vs := [.lit (.int .i64 r9.2)]) h285 rfl rfl Z3 rfl (Nat.le_of_ble_eq_true rfl) rfl rfl rfl rfl ?_)
    rintro S (h287 : Box (.ptr i2 0) [.lit (.int .i64 r2.2), .lit (.int .i64 0), .lit (.int .i64 r8.2), .lit (.int .i64 r9.2)] _) u43
    have h288 := u43.box h282 ap169
    have h289 := u43.vec h283 ap171
    have h290 := u43.vec h284 ap172
    have h291 := u43.sameP h286 o17
    refine Opl.nil (Evr.sr rfl (Opl.p1 (n := ?_)))
    obtain ⟨r10, h_r10, H⟩ := Option.bind_eq_some_iff.1 H
    refine Opl.callc (spec_l1One.ev h_r10) rfl rfl rfl rfl ⟨(.lit _), trivial⟩ (by decide) (Opl.nil ?_)
    by_cases c26 : r10 = true
    case neg =>
     rw [if_neg c26] at H
     obtain rfl : r10 = false := by simpa using c26
     refine Evr.condF rfl (Evr.skip (Evr.sr rfl (Opl.ldb (v := .agg [.lit (.int .i64 r2.2), .lit (.int .i64 0), .lit (.int .i64 r8.2), .lit (.int .i64 r9.2)]) h287 rfl T95 rfl rfl rfl rfl (Opl.p1 (n := Opl.p1 (n := ?_))))))
     obtain _ | k24 := k20
     · simp [spec_l1Terms.j9] at H
     simp only [spec_l1Terms.j9] at H
     obtain _ | k25 := k24
     · simp [spec_l1Terms.j5] at H
     simp only [spec_l1Terms.j5] at H
     obtain _ | k26 := k25
     · simp [spec_l1Terms.j2] at H
     simp only [spec_l1Terms.j2] at H
     obtain ⟨r3, h_r3, H⟩ := Option.bind_eq_some_iff.1 H
     obtain ⟨pv59, h329, -, h330⟩ := Out.vec h290
     refine Opl.callw (spec_l1Kind.ev h330 h_r3) rfl rfl rfl (.cons (.refl _) (.cons h329 (.cons (.refl _) .nil))) ⟨(.aggL ⟨(.lit _), (.lit _), (.lit _), (.lit _), trivial⟩), h330.plain, (.lit _), trivial⟩ (by decide) (Opl.p1 (n := Opl.nil (Evr.sr rfl (Opl.p1 (n := Opl.p1 (n := Opl.nil ?_))))))
     refine Evr.join (fun tm S => ∃ (kq9 : Nat) (x9q3_9 : List ITerm) (x10q3_9 : List Int) (pv60 : PV) (pv61 : PV), spec_l1Terms.l1 kq9 r9.1 x9q3_9 x10q3_9 (wrap64 (x11_1 - 1)) l0_0 a1 a2 = some r ∧ kq9 ≤ k26 ∧ Has tm [(0, .ptr i0 0), (1, .lit (.int .i64 a1)), (2, .lit (.int .i64 a2)), (9, pv60), (10, pv61), (11, .lit (.int .i64 x11_1))] ∧ Box (.ptr i0 0) [q0, .lit (.int .i64 r9.1)] S ∧ Vec cITerm x9q3_9 pv60 S ∧ Vec (cInt .i64) x10q3_9 pv61 S ∧ Same S0 S [i0] ∧ OutT S0 [i0] (PV.id? pv60).toList ∧ OutT S0 [i0] (PV.id? pv61).toList ∧ Ap (.ptr i0 0) pv60 ∧ Ap (.ptr i0 0) pv61 ∧ Ap pv60 pv61) ?_ fun hk9 => ?_
     ·
      rintro tm S ⟨kq9, x9q3_9, x10q3_9, pv60, pv61, H, hle, hh, h331, h332, h333, h334, o20, o21, ap198, ap199, ap200⟩
      rw [hh.eq]
      refine Evr.inBlock (Evr.regionN rfl (Opl.p1 (n := Opl.subi (k := .i64) (a := x11_1) (b := 1) K3 rfl rfl rfl rfl (Opl.one (v := .lit (.int .i64 (wrap64 (x11_1 - 1)))) rfl rfl rfl (Opl.nil ?_)))))
      exact ih1 _ (by omega) _ _ ⟨by omega, _, _, _, _, _, _, H, ⟨rfl, rfl, rfl, rfl, rfl, rfl, trivial⟩, h331, h332, h333, h334, o20, o21, ap198, ap199, ap200⟩
     ·
      by_cases c30 : r3 ≠ 0
      case neg =>
       rw [if_neg c30] at H
       have e29 : (r3 != 0) = false := by simpa using c30
       try rw [e29]
       refine Evr.condF rfl (Evr.skip ?_)
       exact hk9 _ _ ⟨_, _, _, _, _, H, by omega, ⟨rfl, rfl, rfl, rfl, rfl, rfl, trivial⟩, h288, h289, h290, h291, o15, o16, ap167, ap168, ap170⟩
      rw [if_pos c30] at H
      have e28 : (r3 != 0) = true := by simpa using c30
      try rw [e28]
      refine Evr.condT rfl (Evr.sr rfl (Opl.p1 (n := Opl.ldb (v := .agg [.lit (.int .i64 r2.2), .lit (.int .i64 0), .lit (.int .i64 r8.2), .lit (.int .i64 r9.2)]) h287 rfl T95 rfl rfl rfl rfl (Opl.lits (M := cITerm) (ys := [(⟨r2.2, 0, r8.2, r9.2⟩ : ITerm)]) [.tmp 77] K44 T95 rfl rfl rfl (by exact ⟨cITerm_mk, trivial⟩) rfl (by decide) rfl rfl rfl ?_))))
      rintro pv62 S h335 u49 w41
      have ap201 := w41.box h288
      have h336 := u49.box h288 ap201
      have ap202 := w41.vec h289
      have h337 := u49.vec h289 ap202
      have ap203 := w41.vec h290
      have h338 := u49.vec h290 ap203
      have ap204 := w41.box h287
      have h339 := u49.box h287 ap204
      have ap205 := w41.sameP h291
      have h340 := u49.sameP h291 ap205
      obtain ⟨c31, H⟩ := peel H
      obtain ⟨c32, H⟩ := peel H
      refine Opl.app (M := cITerm) (xs := x9q3_1) (ys := [(⟨r2.2, 0, r8.2, r9.2⟩ : ITerm)]) (v := pv50) h337 (.vec h335) oITerm rfl rfl K44 T95 rfl rfl (by (try simp only [List.length_cons, List.length_nil]); omega) (by show (_ + _) * 32 ≤ 140737488355328; (try simp only [List.length_cons, List.length_nil]); omega) rfl rfl rfl rfl rfl ?_
      rintro pv63 S h341 u50 w42
      have ap206 := w42.box h336
      have h342 := u50.box h336 ap167
      have ap207 := w42.vec h338
      have h343 := u50.vec h338 ap170.symm
      have ap208 := w42.box h339
      have h344 := u50.box h339 ap171.symm
      have ap209 := w42.sameP h340
      have h345 := u50.sameP h340 o15
      have ap210 := w42.vec h335
      have h346 := u50.vec h335 ap202.symm
      refine Opl.p1 (n := Opl.nil (Evr.regionN rfl (Opl.p1 (n := Opl.p1 (n := Opl.lits (M := (cInt .i64)) (ys := [r3]) [.tmp 81] K29 T3 rfl rfl rfl (by exact ⟨rfl, trivial⟩) rfl (by decide) rfl rfl rfl ?_)))))
      rintro pv64 S h347 u51 w43
      have ap211 := w43.box h342
      have h348 := u51.box h342 ap211
      have ap212 := w43.vec h343
      have h349 := u51.vec h343 ap212
      have ap213 := w43.box h344
      have h350 := u51.box h344 ap213
      have ap214 := w43.sameP h345
      have h351 := u51.sameP h345 ap214
      have ap215 := w43.vec h346
      have h352 := u51.vec h346 ap215
      have ap216 := w43.vec h341
      have h353 := u51.vec h341 ap216
      refine Opl.app (M := (cInt .i64)) (xs := x10q3_1) (ys := [r3]) (v := pv51) h349 (.vec h347) (oInt .i64) rfl rfl K29 T3 rfl rfl (by (try simp only [List.length_cons, List.length_nil]); omega) (by show (_ + _) * 8 ≤ 140737488355328; (try simp only [List.length_cons, List.length_nil]); omega) rfl rfl rfl rfl rfl ?_
      rintro pv65 S h354 u52 w44
      have ap217 := w44.box h348
      have h355 := u52.box h348 ap168
      have ap218 := w44.box h350
      have h356 := u52.box h350 ap172.symm
      have ap219 := w44.sameP h351
      have h357 := u52.sameP h351 o16
      have ap220 := w44.vec h352
      have h358 := u52.vec h352 ap203.symm
      have ap221 := w44.vec h353
      have h359 := u52.vec h353 ap207.symm
      have ap222 := w44.vec h347
      have h360 := u52.vec h347 ap212.symm
      refine Opl.p1 (n := Opl.nil ?_)
      exact hk9 _ _ ⟨_, _, _, _, _, H, by omega, ⟨rfl, rfl, rfl, rfl, rfl, rfl, trivial⟩, h355, h359, h354, h357, ap209, ap219, ap206, ap217, ap221⟩
    rw [if_pos c26] at H
    obtain rfl : r10 = true := by simpa using c26
    refine Evr.condT rfl (Evr.regionN rfl (Opl.p1 (v := .ptr i2 2) (n := Opl.ldb (v := .lit (.int .i64 r8.2)) h287 rfl T3 rfl rfl rfl rfl (Opl.p1 (v := .ptr i2 3) (n := ?_)))))
    obtain _ | k21 := k20
    · simp [spec_l1Terms.j9] at H
    simp only [spec_l1Terms.j9] at H
    obtain _ | k22 := k21
    · simp [spec_l1Terms.j5] at H
    simp only [spec_l1Terms.j5] at H
    obtain _ | k23 := k22
    · simp [spec_l1Terms.j2] at H
    simp only [spec_l1Terms.j2] at H
    refine Opl.stb (vs := [.lit (.int .i64 r8.2)]) h287 rfl rfl Z3 rfl (Nat.le_of_ble_eq_true rfl) rfl rfl rfl rfl ?_
    rintro S (h292 : Box (.ptr i2 0) [.lit (.int .i64 r2.2), .lit (.int .i64 0), .lit (.int .i64 r8.2), .lit (.int .i64 r8.2)] _) u44
    have h293 := u44.box h288 ap169
    have h294 := u44.vec h289 ap171
    have h295 := u44.vec h290 ap172
    have h296 := u44.sameP h291 o17
    refine Opl.nil (Evr.sr rfl (Opl.ldb (v := .agg [.lit (.int .i64 r2.2), .lit (.int .i64 0), .lit (.int .i64 r8.2), .lit (.int .i64 r8.2)]) h292 rfl T95 rfl rfl rfl rfl (Opl.p1 (n := Opl.p1 (n := ?_)))))
    obtain ⟨r3, h_r3, H⟩ := Option.bind_eq_some_iff.1 H
    obtain ⟨pv52, h297, -, h298⟩ := Out.vec h295
    refine Opl.callw (spec_l1Kind.ev h298 h_r3) rfl rfl rfl (.cons (.refl _) (.cons h297 (.cons (.refl _) .nil))) ⟨(.aggL ⟨(.lit _), (.lit _), (.lit _), (.lit _), trivial⟩), h298.plain, (.lit _), trivial⟩ (by decide) (Opl.p1 (n := Opl.nil (Evr.sr rfl (Opl.p1 (n := Opl.p1 (n := Opl.nil ?_))))))
    refine Evr.join (fun tm S => ∃ (kq8 : Nat) (x9q3_8 : List ITerm) (x10q3_8 : List Int) (pv53 : PV) (pv54 : PV), spec_l1Terms.l1 kq8 r9.1 x9q3_8 x10q3_8 (wrap64 (x11_1 - 1)) l0_0 a1 a2 = some r ∧ kq8 ≤ k23 ∧ Has tm [(0, .ptr i0 0), (1, .lit (.int .i64 a1)), (2, .lit (.int .i64 a2)), (9, pv53), (10, pv54), (11, .lit (.int .i64 x11_1))] ∧ Box (.ptr i0 0) [q0, .lit (.int .i64 r9.1)] S ∧ Vec cITerm x9q3_8 pv53 S ∧ Vec (cInt .i64) x10q3_8 pv54 S ∧ Same S0 S [i0] ∧ OutT S0 [i0] (PV.id? pv53).toList ∧ OutT S0 [i0] (PV.id? pv54).toList ∧ Ap (.ptr i0 0) pv53 ∧ Ap (.ptr i0 0) pv54 ∧ Ap pv53 pv54) ?_ fun hk8 => ?_
    ·
     rintro tm S ⟨kq8, x9q3_8, x10q3_8, pv53, pv54, H, hle, hh, h299, h300, h301, h302, o18, o19, ap173, ap174, ap175⟩
     rw [hh.eq]
     refine Evr.inBlock (Evr.regionN rfl (Opl.p1 (n := Opl.subi (k := .i64) (a := x11_1) (b := 1) K3 rfl rfl rfl rfl (Opl.one (v := .lit (.int .i64 (wrap64 (x11_1 - 1)))) rfl rfl rfl (Opl.nil ?_)))))
     exact ih1 _ (by omega) _ _ ⟨by omega, _, _, _, _, _, _, H, ⟨rfl, rfl, rfl, rfl, rfl, rfl, trivial⟩, h299, h300, h301, h302, o18, o19, ap173, ap174, ap175⟩
    ·
     by_cases c27 : r3 ≠ 0
     case neg =>
      rw [if_neg c27] at H
      have e27 : (r3 != 0) = false := by simpa using c27
      try rw [e27]
      refine Evr.condF rfl (Evr.skip ?_)
      exact hk8 _ _ ⟨_, _, _, _, _, H, by omega, ⟨rfl, rfl, rfl, rfl, rfl, rfl, trivial⟩, h293, h294, h295, h296, o15, o16, ap167, ap168, ap170⟩
     rw [if_pos c27] at H
     have e26 : (r3 != 0) = true := by simpa using c27
     try rw [e26]
     refine Evr.condT rfl (Evr.sr rfl (Opl.p1 (n := Opl.ldb (v := .agg [.lit (.int .i64 r2.2), .lit (.int .i64 0), .lit (.int .i64 r8.2), .lit (.int .i64 r8.2)]) h292 rfl T95 rfl rfl rfl rfl (Opl.lits (M := cITerm) (ys := [(⟨r2.2, 0, r8.2, r8.2⟩ : ITerm)]) [.tmp 77] K44 T95 rfl rfl rfl (by exact ⟨cITerm_mk, trivial⟩) rfl (by decide) rfl rfl rfl ?_))))
     rintro pv55 S h303 u45 w37
     have ap176 := w37.box h293
     have h304 := u45.box h293 ap176
     have ap177 := w37.vec h294
     have h305 := u45.vec h294 ap177
     have ap178 := w37.vec h295
     have h306 := u45.vec h295 ap178
     have ap179 := w37.box h292
     have h307 := u45.box h292 ap179
     have ap180 := w37.sameP h296
     have h308 := u45.sameP h296 ap180
     obtain ⟨c28, H⟩ := peel H
     obtain ⟨c29, H⟩ := peel H
     refine Opl.app (M := cITerm) (xs := x9q3_1) (ys := [(⟨r2.2, 0, r8.2, r8.2⟩ : ITerm)]) (v := pv50) h305 (.vec h303) oITerm rfl rfl K44 T95 rfl rfl (by (try simp only [List.length_cons, List.length_nil]); omega) (by show (_ + _) * 32 ≤ 140737488355328; (try simp only [List.length_cons, List.length_nil]); omega) rfl rfl rfl rfl rfl ?_
     rintro pv56 S h309 u46 w38
     have ap181 := w38.box h304
     have h310 := u46.box h304 ap167
     have ap182 := w38.vec h306
     have h311 := u46.vec h306 ap170.symm
     have ap183 := w38.box h307
     have h312 := u46.box h307 ap171.symm
     have ap184 := w38.sameP h308
     have h313 := u46.sameP h308 o15
     have ap185 := w38.vec h303
     have h314 := u46.vec h303 ap177.symm
     refine Opl.p1 (n := Opl.nil (Evr.regionN rfl (Opl.p1 (n := Opl.p1 (n := Opl.lits (M := (cInt .i64)) (ys := [r3]) [.tmp 81] K29 T3 rfl rfl rfl (by exact ⟨rfl, trivial⟩) rfl (by decide) rfl rfl rfl ?_)))))
     rintro pv57 S h315 u47 w39
     have ap186 := w39.box h310
     have h316 := u47.box h310 ap186
     have ap187 := w39.vec h311
     have h317 := u47.vec h311 ap187
     have ap188 := w39.box h312
     have h318 := u47.box h312 ap188
     have ap189 := w39.sameP h313
     have h319 := u47.sameP h313 ap189
     have ap190 := w39.vec h314
     have h320 := u47.vec h314 ap190
     have ap191 := w39.vec h309
     have h321 := u47.vec h309 ap191
     refine Opl.app (M := (cInt .i64)) (xs := x10q3_1) (ys := [r3]) (v := pv51) h317 (.vec h315) (oInt .i64) rfl rfl K29 T3 rfl rfl (by (try simp only [List.length_cons, List.length_nil]); omega) (by show (_ + _) * 8 ≤ 140737488355328; (try simp only [List.length_cons, List.length_nil]); omega) rfl rfl rfl rfl rfl ?_
     rintro pv58 S h322 u48 w40
     have ap192 := w40.box h316
     have h323 := u48.box h316 ap168
     have ap193 := w40.box h318
     have h324 := u48.box h318 ap172.symm
     have ap194 := w40.sameP h319
     have h325 := u48.sameP h319 o16
     have ap195 := w40.vec h320
     have h326 := u48.vec h320 ap178.symm
     have ap196 := w40.vec h321
     have h327 := u48.vec h321 ap182.symm
     have ap197 := w40.vec h315
     have h328 := u48.vec h315 ap187.symm
     refine Opl.p1 (n := Opl.nil ?_)
     exact hk8 _ _ ⟨_, _, _, _, _, H, by omega, ⟨rfl, rfl, rfl, rfl, rfl, rfl, trivial⟩, h323, h327, h322, h325, ap184, ap194, ap181, ap192, ap196⟩
   ·
    by_cases c33 : r2.2 ≥ 7
    case neg =>
     rw [if_neg c33] at H
     have e31 : (decide (r2.2 ≥ 7)) = false := by simpa using c33
     try rw [e31]
     refine Evr.condF rfl (Evr.skip ?_)
     exact hk7 _ _ ⟨_, _, _, _, _, H, by omega, ⟨rfl, rfl, rfl, rfl, rfl, rfl, rfl, rfl, rfl, trivial⟩, h31, h32, h33, h30, h34, o1, o2, ap16, ap6, ap7, ap13, ap8, ap14, ap15⟩
    rw [if_pos c33] at H
    have e30 : (decide (r2.2 ≥ 7)) = true := by simpa using c33
    try rw [e30]
    refine Evr.condT rfl (Evr.regionN rfl (Opl.p1 (n := Opl.nil ?_)))
    exact hk7 _ _ ⟨_, _, _, _, _, H, by omega, ⟨rfl, rfl, rfl, rfl, rfl, rfl, rfl, rfl, rfl, trivial⟩, h31, h32, h33, h30, h34, o1, o2, ap16, ap6, ap7, ap13, ap8, ap14, ap15⟩
  rw [if_pos c14] at H
  have e14 : (decide (r2.2 < 2)) = true := by simpa using c14
  try rw [e14]
  refine Evr.condT rfl (Evr.sr rfl (Opl.p1 (n := ?_)))
  obtain ⟨r6, h_r6, H⟩ := Option.bind_eq_some_iff.1 H
  refine Opl.calls (spec_l1Number.evb hq0 h31 h_r6) rfl rfl rfl rfl rfl ?_
  rintro _ S ⟨rfl, h151, u24⟩
  have h152 := u24.vec h32 (ap6.symm).pt
  have h153 := u24.vec h33 (ap7.symm).pt
  have h154 := u24.sameP h34 OutT.box
  have h155 := u24.box h30 (ap13.symm).pt
  refine Opl.p1 (v := .agg [.lit (.int .i64 0), .lit (.int .i64 r6.2), .lit (.int .i64 0), .lit (.int .i64 0)]) (n := Opl.stb (vs := [.lit (.int .i64 0), .lit (.int .i64 r6.2), .lit (.int .i64 0), .lit (.int .i64 0)]) h155 rfl rfl Z95 rfl (Nat.le_of_ble_eq_true rfl) rfl rfl rfl rfl ?_)
  rintro S (h156 : Box (.ptr i1 0) [.lit (.int .i64 0), .lit (.int .i64 r6.2), .lit (.int .i64 0), .lit (.int .i64 0)] _) u25
  have h157 := u25.box h151 ap13
  have h158 := u25.vec h152 ap14
  have h159 := u25.vec h153 ap15
  have h160 := u25.sameP h154 ap16
  refine Opl.nil (Evr.sr rfl (Opl.p1 (n := Opl.p1 (n := Opl.p1 (n := ?_)))))
  by_cases c15 : a1 > 0
  case neg =>
   rw [if_neg c15] at H
   have e22 : (decide (a1 > 0)) = false := by simpa using c15
   try rw [e22]
   refine Opl.skp rfl (Opl.skp rfl (Opl.p1 (n := Opl.nil (Evr.condF rfl (Evr.skip (Evr.sr rfl (Opl.ldb (v := .agg [.lit (.int .i64 0), .lit (.int .i64 r6.2), .lit (.int .i64 0), .lit (.int .i64 0)]) h156 rfl T95 rfl rfl rfl rfl (Opl.p1 (n := Opl.p1 (n := ?_))))))))))
   obtain _ | k17 := n1
   · simp [spec_l1Terms.j6] at H
   simp only [spec_l1Terms.j6] at H
   obtain _ | k18 := k17
   · simp [spec_l1Terms.j5] at H
   simp only [spec_l1Terms.j5] at H
   obtain _ | k19 := k18
   · simp [spec_l1Terms.j2] at H
   simp only [spec_l1Terms.j2] at H
   obtain ⟨r3, h_r3, H⟩ := Option.bind_eq_some_iff.1 H
   obtain ⟨pv43, h235, -, h236⟩ := Out.vec h159
   refine Opl.callw (spec_l1Kind.ev h236 h_r3) rfl rfl rfl (.cons (.refl _) (.cons h235 (.cons (.refl _) .nil))) ⟨(.aggL ⟨(.lit _), (.lit _), (.lit _), (.lit _), trivial⟩), h236.plain, (.lit _), trivial⟩ (by decide) (Opl.p1 (n := Opl.nil (Evr.sr rfl (Opl.p1 (n := Opl.p1 (n := Opl.nil ?_))))))
   refine Evr.join (fun tm S => ∃ (kq6 : Nat) (x9q3_7 : List ITerm) (x10q3_7 : List Int) (pv44 : PV) (pv45 : PV), spec_l1Terms.l1 kq6 r6.1 x9q3_7 x10q3_7 (wrap64 (x11_1 - 1)) l0_0 a1 a2 = some r ∧ kq6 ≤ k19 ∧ Has tm [(0, .ptr i0 0), (1, .lit (.int .i64 a1)), (2, .lit (.int .i64 a2)), (9, pv44), (10, pv45), (11, .lit (.int .i64 x11_1))] ∧ Box (.ptr i0 0) [q0, .lit (.int .i64 r6.1)] S ∧ Vec cITerm x9q3_7 pv44 S ∧ Vec (cInt .i64) x10q3_7 pv45 S ∧ Same S0 S [i0] ∧ OutT S0 [i0] (PV.id? pv44).toList ∧ OutT S0 [i0] (PV.id? pv45).toList ∧ Ap (.ptr i0 0) pv44 ∧ Ap (.ptr i0 0) pv45 ∧ Ap pv44 pv45) ?_ fun hk6 => ?_
   ·
    rintro tm S ⟨kq6, x9q3_7, x10q3_7, pv44, pv45, H, hle, hh, h237, h238, h239, h240, o13, o14, ap142, ap143, ap144⟩
    rw [hh.eq]
    refine Evr.inBlock (Evr.regionN rfl (Opl.p1 (n := Opl.subi (k := .i64) (a := x11_1) (b := 1) K3 rfl rfl rfl rfl (Opl.one (v := .lit (.int .i64 (wrap64 (x11_1 - 1)))) rfl rfl rfl (Opl.nil ?_)))))
    exact ih1 _ (by omega) _ _ ⟨by omega, _, _, _, _, _, _, H, ⟨rfl, rfl, rfl, rfl, rfl, rfl, trivial⟩, h237, h238, h239, h240, o13, o14, ap142, ap143, ap144⟩
   ·
    by_cases c23 : r3 ≠ 0
    case neg =>
     rw [if_neg c23] at H
     have e24 : (r3 != 0) = false := by simpa using c23
     try rw [e24]
     refine Evr.condF rfl (Evr.skip ?_)
     exact hk6 _ _ ⟨_, _, _, _, _, H, by omega, ⟨rfl, rfl, rfl, rfl, rfl, rfl, trivial⟩, h157, h158, h159, h160, o1, o2, ap6, ap7, ap8⟩
    rw [if_pos c23] at H
    have e23 : (r3 != 0) = true := by simpa using c23
    try rw [e23]
    refine Evr.condT rfl (Evr.sr rfl (Opl.p1 (n := Opl.ldb (v := .agg [.lit (.int .i64 0), .lit (.int .i64 r6.2), .lit (.int .i64 0), .lit (.int .i64 0)]) h156 rfl T95 rfl rfl rfl rfl (Opl.lits (M := cITerm) (ys := [(⟨0, r6.2, 0, 0⟩ : ITerm)]) [.tmp 77] K44 T95 rfl rfl rfl (by exact ⟨cITerm_mk, trivial⟩) rfl (by decide) rfl rfl rfl ?_))))
    rintro pv46 S h241 u36 w30
    have ap145 := w30.box h157
    have h242 := u36.box h157 ap145
    have ap146 := w30.vec h158
    have h243 := u36.vec h158 ap146
    have ap147 := w30.vec h159
    have h244 := u36.vec h159 ap147
    have ap148 := w30.sameP h160
    have h245 := u36.sameP h160 ap148
    have ap149 := w30.box h156
    have h246 := u36.box h156 ap149
    obtain ⟨c24, H⟩ := peel H
    obtain ⟨c25, H⟩ := peel H
    refine Opl.app (M := cITerm) (xs := x9q3_1) (ys := [(⟨0, r6.2, 0, 0⟩ : ITerm)]) (v := pv3) h243 (.vec h241) oITerm rfl rfl K44 T95 rfl rfl (by (try simp only [List.length_cons, List.length_nil]); omega) (by show (_ + _) * 32 ≤ 140737488355328; (try simp only [List.length_cons, List.length_nil]); omega) rfl rfl rfl rfl rfl ?_
    rintro pv47 S h247 u37 w31
    have ap150 := w31.box h242
    have h248 := u37.box h242 ap6
    have ap151 := w31.vec h244
    have h249 := u37.vec h244 ap8.symm
    have ap152 := w31.sameP h245
    have h250 := u37.sameP h245 o1
    have ap153 := w31.box h246
    have h251 := u37.box h246 ap14.symm
    have ap154 := w31.vec h241
    have h252 := u37.vec h241 ap146.symm
    refine Opl.p1 (n := Opl.nil (Evr.regionN rfl (Opl.p1 (n := Opl.p1 (n := Opl.lits (M := (cInt .i64)) (ys := [r3]) [.tmp 81] K29 T3 rfl rfl rfl (by exact ⟨rfl, trivial⟩) rfl (by decide) rfl rfl rfl ?_)))))
    rintro pv48 S h253 u38 w32
    have ap155 := w32.box h248
    have h254 := u38.box h248 ap155
    have ap156 := w32.vec h249
    have h255 := u38.vec h249 ap156
    have ap157 := w32.sameP h250
    have h256 := u38.sameP h250 ap157
    have ap158 := w32.box h251
    have h257 := u38.box h251 ap158
    have ap159 := w32.vec h252
    have h258 := u38.vec h252 ap159
    have ap160 := w32.vec h247
    have h259 := u38.vec h247 ap160
    refine Opl.app (M := (cInt .i64)) (xs := x10q3_1) (ys := [r3]) (v := pv4) h255 (.vec h253) (oInt .i64) rfl rfl K29 T3 rfl rfl (by (try simp only [List.length_cons, List.length_nil]); omega) (by show (_ + _) * 8 ≤ 140737488355328; (try simp only [List.length_cons, List.length_nil]); omega) rfl rfl rfl rfl rfl ?_
    rintro pv49 S h260 u39 w33
    have ap161 := w33.box h254
    have h261 := u39.box h254 ap7
    have ap162 := w33.sameP h256
    have h262 := u39.sameP h256 o2
    have ap163 := w33.box h257
    have h263 := u39.box h257 ap15.symm
    have ap164 := w33.vec h258
    have h264 := u39.vec h258 ap147.symm
    have ap165 := w33.vec h259
    have h265 := u39.vec h259 ap151.symm
    have ap166 := w33.vec h253
    have h266 := u39.vec h253 ap156.symm
    refine Opl.p1 (n := Opl.nil ?_)
    exact hk6 _ _ ⟨_, _, _, _, _, H, by omega, ⟨rfl, rfl, rfl, rfl, rfl, rfl, trivial⟩, h261, h265, h260, h262, ap152, ap162, ap150, ap161, ap165⟩
  rw [if_pos c15] at H
  have e15 : (decide (a1 > 0)) = true := by simpa using c15
  try rw [e15]
  refine Opl.p1 (n := Opl.p1 (n := Opl.p1 (n := Opl.nil ?_)))
  by_cases c16 : r2.2 ≠ 0
  case neg =>
   rw [if_neg c16] at H
   have e19 : (r2.2 != 0) = false := by simpa using c16
   try rw [e19]
   refine Evr.condF rfl (Evr.skip (Evr.sr rfl (Opl.ldb (v := .agg [.lit (.int .i64 0), .lit (.int .i64 r6.2), .lit (.int .i64 0), .lit (.int .i64 0)]) h156 rfl T95 rfl rfl rfl rfl (Opl.p1 (n := Opl.p1 (n := ?_))))))
   obtain _ | k13 := n1
   · simp [spec_l1Terms.j7] at H
   simp only [spec_l1Terms.j7] at H
   obtain _ | k14 := k13
   · simp [spec_l1Terms.j6] at H
   simp only [spec_l1Terms.j6] at H
   obtain _ | k15 := k14
   · simp [spec_l1Terms.j5] at H
   simp only [spec_l1Terms.j5] at H
   obtain _ | k16 := k15
   · simp [spec_l1Terms.j2] at H
   simp only [spec_l1Terms.j2] at H
   obtain ⟨r3, h_r3, H⟩ := Option.bind_eq_some_iff.1 H
   obtain ⟨pv36, h203, -, h204⟩ := Out.vec h159
   refine Opl.callw (spec_l1Kind.ev h204 h_r3) rfl rfl rfl (.cons (.refl _) (.cons h203 (.cons (.refl _) .nil))) ⟨(.aggL ⟨(.lit _), (.lit _), (.lit _), (.lit _), trivial⟩), h204.plain, (.lit _), trivial⟩ (by decide) (Opl.p1 (n := Opl.nil (Evr.sr rfl (Opl.p1 (n := Opl.p1 (n := Opl.nil ?_))))))
   refine Evr.join (fun tm S => ∃ (kq5 : Nat) (x9q3_6 : List ITerm) (x10q3_6 : List Int) (pv37 : PV) (pv38 : PV), spec_l1Terms.l1 kq5 r6.1 x9q3_6 x10q3_6 (wrap64 (x11_1 - 1)) l0_0 a1 a2 = some r ∧ kq5 ≤ k16 ∧ Has tm [(0, .ptr i0 0), (1, .lit (.int .i64 a1)), (2, .lit (.int .i64 a2)), (9, pv37), (10, pv38), (11, .lit (.int .i64 x11_1))] ∧ Box (.ptr i0 0) [q0, .lit (.int .i64 r6.1)] S ∧ Vec cITerm x9q3_6 pv37 S ∧ Vec (cInt .i64) x10q3_6 pv38 S ∧ Same S0 S [i0] ∧ OutT S0 [i0] (PV.id? pv37).toList ∧ OutT S0 [i0] (PV.id? pv38).toList ∧ Ap (.ptr i0 0) pv37 ∧ Ap (.ptr i0 0) pv38 ∧ Ap pv37 pv38) ?_ fun hk5 => ?_
   ·
    rintro tm S ⟨kq5, x9q3_6, x10q3_6, pv37, pv38, H, hle, hh, h205, h206, h207, h208, o11, o12, ap117, ap118, ap119⟩
    rw [hh.eq]
    refine Evr.inBlock (Evr.regionN rfl (Opl.p1 (n := Opl.subi (k := .i64) (a := x11_1) (b := 1) K3 rfl rfl rfl rfl (Opl.one (v := .lit (.int .i64 (wrap64 (x11_1 - 1)))) rfl rfl rfl (Opl.nil ?_)))))
    exact ih1 _ (by omega) _ _ ⟨by omega, _, _, _, _, _, _, H, ⟨rfl, rfl, rfl, rfl, rfl, rfl, trivial⟩, h205, h206, h207, h208, o11, o12, ap117, ap118, ap119⟩
   ·
    by_cases c20 : r3 ≠ 0
    case neg =>
     rw [if_neg c20] at H
     have e21 : (r3 != 0) = false := by simpa using c20
     try rw [e21]
     refine Evr.condF rfl (Evr.skip ?_)
     exact hk5 _ _ ⟨_, _, _, _, _, H, by omega, ⟨rfl, rfl, rfl, rfl, rfl, rfl, trivial⟩, h157, h158, h159, h160, o1, o2, ap6, ap7, ap8⟩
    rw [if_pos c20] at H
    have e20 : (r3 != 0) = true := by simpa using c20
    try rw [e20]
    refine Evr.condT rfl (Evr.sr rfl (Opl.p1 (n := Opl.ldb (v := .agg [.lit (.int .i64 0), .lit (.int .i64 r6.2), .lit (.int .i64 0), .lit (.int .i64 0)]) h156 rfl T95 rfl rfl rfl rfl (Opl.lits (M := cITerm) (ys := [(⟨0, r6.2, 0, 0⟩ : ITerm)]) [.tmp 77] K44 T95 rfl rfl rfl (by exact ⟨cITerm_mk, trivial⟩) rfl (by decide) rfl rfl rfl ?_))))
    rintro pv39 S h209 u32 w26
    have ap120 := w26.box h157
    have h210 := u32.box h157 ap120
    have ap121 := w26.vec h158
    have h211 := u32.vec h158 ap121
    have ap122 := w26.vec h159
    have h212 := u32.vec h159 ap122
    have ap123 := w26.sameP h160
    have h213 := u32.sameP h160 ap123
    have ap124 := w26.box h156
    have h214 := u32.box h156 ap124
    obtain ⟨c21, H⟩ := peel H
    obtain ⟨c22, H⟩ := peel H
    refine Opl.app (M := cITerm) (xs := x9q3_1) (ys := [(⟨0, r6.2, 0, 0⟩ : ITerm)]) (v := pv3) h211 (.vec h209) oITerm rfl rfl K44 T95 rfl rfl (by (try simp only [List.length_cons, List.length_nil]); omega) (by show (_ + _) * 32 ≤ 140737488355328; (try simp only [List.length_cons, List.length_nil]); omega) rfl rfl rfl rfl rfl ?_
    rintro pv40 S h215 u33 w27
    have ap125 := w27.box h210
    have h216 := u33.box h210 ap6
    have ap126 := w27.vec h212
    have h217 := u33.vec h212 ap8.symm
    have ap127 := w27.sameP h213
    have h218 := u33.sameP h213 o1
    have ap128 := w27.box h214
    have h219 := u33.box h214 ap14.symm
    have ap129 := w27.vec h209
    have h220 := u33.vec h209 ap121.symm
    refine Opl.p1 (n := Opl.nil (Evr.regionN rfl (Opl.p1 (n := Opl.p1 (n := Opl.lits (M := (cInt .i64)) (ys := [r3]) [.tmp 81] K29 T3 rfl rfl rfl (by exact ⟨rfl, trivial⟩) rfl (by decide) rfl rfl rfl ?_)))))
    rintro pv41 S h221 u34 w28
    have ap130 := w28.box h216
    have h222 := u34.box h216 ap130
    have ap131 := w28.vec h217
    have h223 := u34.vec h217 ap131
    have ap132 := w28.sameP h218
    have h224 := u34.sameP h218 ap132
    have ap133 := w28.box h219
    have h225 := u34.box h219 ap133
    have ap134 := w28.vec h220
    have h226 := u34.vec h220 ap134
    have ap135 := w28.vec h215
    have h227 := u34.vec h215 ap135
    refine Opl.app (M := (cInt .i64)) (xs := x10q3_1) (ys := [r3]) (v := pv4) h223 (.vec h221) (oInt .i64) rfl rfl K29 T3 rfl rfl (by (try simp only [List.length_cons, List.length_nil]); omega) (by show (_ + _) * 8 ≤ 140737488355328; (try simp only [List.length_cons, List.length_nil]); omega) rfl rfl rfl rfl rfl ?_
    rintro pv42 S h228 u35 w29
    have ap136 := w29.box h222
    have h229 := u35.box h222 ap7
    have ap137 := w29.sameP h224
    have h230 := u35.sameP h224 o2
    have ap138 := w29.box h225
    have h231 := u35.box h225 ap15.symm
    have ap139 := w29.vec h226
    have h232 := u35.vec h226 ap122.symm
    have ap140 := w29.vec h227
    have h233 := u35.vec h227 ap126.symm
    have ap141 := w29.vec h221
    have h234 := u35.vec h221 ap131.symm
    refine Opl.p1 (n := Opl.nil ?_)
    exact hk5 _ _ ⟨_, _, _, _, _, H, by omega, ⟨rfl, rfl, rfl, rfl, rfl, rfl, trivial⟩, h229, h233, h228, h230, ap127, ap137, ap125, ap136, ap140⟩
  rw [if_pos c16] at H
  have e16 : (r2.2 != 0) = true := by simpa using c16
  try rw [e16]
  refine Evr.condT rfl (Evr.regionN rfl (Opl.p1 (n := Opl.p1 (n := ?_))))
  obtain ⟨r7, h_r7, H⟩ := Option.bind_eq_some_iff.1 H
  refine Opl.calls (spec_l40Rd_pick.evb hq0 h157 h_r7) rfl rfl rfl rfl rfl ?_
  rintro _ S ⟨rfl, h161, u26⟩
  have h162 := u26.vec h158 (ap6.symm).pt
  have h163 := u26.vec h159 (ap7.symm).pt
  have h164 := u26.sameP h160 OutT.box
  have h165 := u26.box h156 (ap13.symm).pt
  refine Opl.p1 (v := .agg [.lit (.int .i64 1), .lit (.int .i64 r7.2), .lit (.int .i64 0), .lit (.int .i64 0)]) (n := ?_)
  obtain _ | k9 := n1
  · simp [spec_l1Terms.j7] at H
  simp only [spec_l1Terms.j7] at H
  obtain _ | k10 := k9
  · simp [spec_l1Terms.j6] at H
  simp only [spec_l1Terms.j6] at H
  obtain _ | k11 := k10
  · simp [spec_l1Terms.j5] at H
  simp only [spec_l1Terms.j5] at H
  obtain _ | k12 := k11
  · simp [spec_l1Terms.j2] at H
  simp only [spec_l1Terms.j2] at H
  refine Opl.stb (vs := [.lit (.int .i64 1), .lit (.int .i64 r7.2), .lit (.int .i64 0), .lit (.int .i64 0)]) h165 rfl rfl Z95 rfl (Nat.le_of_ble_eq_true rfl) rfl rfl rfl rfl ?_
  rintro S (h166 : Box (.ptr i1 0) [.lit (.int .i64 1), .lit (.int .i64 r7.2), .lit (.int .i64 0), .lit (.int .i64 0)] _) u27
  have h167 := u27.box h161 ap13
  have h168 := u27.vec h162 ap14
  have h169 := u27.vec h163 ap15
  have h170 := u27.sameP h164 ap16
  refine Opl.nil (Evr.sr rfl (Opl.ldb (v := .agg [.lit (.int .i64 1), .lit (.int .i64 r7.2), .lit (.int .i64 0), .lit (.int .i64 0)]) h166 rfl T95 rfl rfl rfl rfl (Opl.p1 (n := Opl.p1 (n := ?_)))))
  obtain ⟨r3, h_r3, H⟩ := Option.bind_eq_some_iff.1 H
  obtain ⟨pv29, h171, -, h172⟩ := Out.vec h169
  refine Opl.callw (spec_l1Kind.ev h172 h_r3) rfl rfl rfl (.cons (.refl _) (.cons h171 (.cons (.refl _) .nil))) ⟨(.aggL ⟨(.lit _), (.lit _), (.lit _), (.lit _), trivial⟩), h172.plain, (.lit _), trivial⟩ (by decide) (Opl.p1 (n := Opl.nil (Evr.sr rfl (Opl.p1 (n := Opl.p1 (n := Opl.nil ?_))))))
  refine Evr.join (fun tm S => ∃ (kq4 : Nat) (x9q3_5 : List ITerm) (x10q3_5 : List Int) (pv30 : PV) (pv31 : PV), spec_l1Terms.l1 kq4 r7.1 x9q3_5 x10q3_5 (wrap64 (x11_1 - 1)) l0_0 a1 a2 = some r ∧ kq4 ≤ k12 ∧ Has tm [(0, .ptr i0 0), (1, .lit (.int .i64 a1)), (2, .lit (.int .i64 a2)), (9, pv30), (10, pv31), (11, .lit (.int .i64 x11_1))] ∧ Box (.ptr i0 0) [q0, .lit (.int .i64 r7.1)] S ∧ Vec cITerm x9q3_5 pv30 S ∧ Vec (cInt .i64) x10q3_5 pv31 S ∧ Same S0 S [i0] ∧ OutT S0 [i0] (PV.id? pv30).toList ∧ OutT S0 [i0] (PV.id? pv31).toList ∧ Ap (.ptr i0 0) pv30 ∧ Ap (.ptr i0 0) pv31 ∧ Ap pv30 pv31) ?_ fun hk4 => ?_
  ·
   rintro tm S ⟨kq4, x9q3_5, x10q3_5, pv30, pv31, H, hle, hh, h173, h174, h175, h176, o9, o10, ap92, ap93, ap94⟩
   rw [hh.eq]
   refine Evr.inBlock (Evr.regionN rfl (Opl.p1 (n := Opl.subi (k := .i64) (a := x11_1) (b := 1) K3 rfl rfl rfl rfl (Opl.one (v := .lit (.int .i64 (wrap64 (x11_1 - 1)))) rfl rfl rfl (Opl.nil ?_)))))
   exact ih1 _ (by omega) _ _ ⟨by omega, _, _, _, _, _, _, H, ⟨rfl, rfl, rfl, rfl, rfl, rfl, trivial⟩, h173, h174, h175, h176, o9, o10, ap92, ap93, ap94⟩
  ·
   by_cases c17 : r3 ≠ 0
   case neg =>
    rw [if_neg c17] at H
    have e18 : (r3 != 0) = false := by simpa using c17
    try rw [e18]
    refine Evr.condF rfl (Evr.skip ?_)
    exact hk4 _ _ ⟨_, _, _, _, _, H, by omega, ⟨rfl, rfl, rfl, rfl, rfl, rfl, trivial⟩, h167, h168, h169, h170, o1, o2, ap6, ap7, ap8⟩
   rw [if_pos c17] at H
   have e17 : (r3 != 0) = true := by simpa using c17
   try rw [e17]
   refine Evr.condT rfl (Evr.sr rfl (Opl.p1 (n := Opl.ldb (v := .agg [.lit (.int .i64 1), .lit (.int .i64 r7.2), .lit (.int .i64 0), .lit (.int .i64 0)]) h166 rfl T95 rfl rfl rfl rfl (Opl.lits (M := cITerm) (ys := [(⟨1, r7.2, 0, 0⟩ : ITerm)]) [.tmp 77] K44 T95 rfl rfl rfl (by exact ⟨cITerm_mk, trivial⟩) rfl (by decide) rfl rfl rfl ?_))))
   rintro pv32 S h177 u28 w22
   have ap95 := w22.box h167
   have h178 := u28.box h167 ap95
   have ap96 := w22.vec h168
   have h179 := u28.vec h168 ap96
   have ap97 := w22.vec h169
   have h180 := u28.vec h169 ap97
   have ap98 := w22.sameP h170
   have h181 := u28.sameP h170 ap98
   have ap99 := w22.box h166
   have h182 := u28.box h166 ap99
   obtain ⟨c18, H⟩ := peel H
   obtain ⟨c19, H⟩ := peel H
   refine Opl.app (M := cITerm) (xs := x9q3_1) (ys := [(⟨1, r7.2, 0, 0⟩ : ITerm)]) (v := pv3) h179 (.vec h177) oITerm rfl rfl K44 T95 rfl rfl (by (try simp only [List.length_cons, List.length_nil]); omega) (by show (_ + _) * 32 ≤ 140737488355328; (try simp only [List.length_cons, List.length_nil]); omega) rfl rfl rfl rfl rfl ?_
   rintro pv33 S h183 u29 w23
   have ap100 := w23.box h178
   have h184 := u29.box h178 ap6
   have ap101 := w23.vec h180
   have h185 := u29.vec h180 ap8.symm
   have ap102 := w23.sameP h181
   have h186 := u29.sameP h181 o1
   have ap103 := w23.box h182
   have h187 := u29.box h182 ap14.symm
   have ap104 := w23.vec h177
   have h188 := u29.vec h177 ap96.symm
   refine Opl.p1 (n := Opl.nil (Evr.regionN rfl (Opl.p1 (n := Opl.p1 (n := Opl.lits (M := (cInt .i64)) (ys := [r3]) [.tmp 81] K29 T3 rfl rfl rfl (by exact ⟨rfl, trivial⟩) rfl (by decide) rfl rfl rfl ?_)))))
   rintro pv34 S h189 u30 w24
   have ap105 := w24.box h184
   have h190 := u30.box h184 ap105
   have ap106 := w24.vec h185
   have h191 := u30.vec h185 ap106
   have ap107 := w24.sameP h186
   have h192 := u30.sameP h186 ap107
   have ap108 := w24.box h187
   have h193 := u30.box h187 ap108
   have ap109 := w24.vec h188
   have h194 := u30.vec h188 ap109
   have ap110 := w24.vec h183
   have h195 := u30.vec h183 ap110
   refine Opl.app (M := (cInt .i64)) (xs := x10q3_1) (ys := [r3]) (v := pv4) h191 (.vec h189) (oInt .i64) rfl rfl K29 T3 rfl rfl (by (try simp only [List.length_cons, List.length_nil]); omega) (by show (_ + _) * 8 ≤ 140737488355328; (try simp only [List.length_cons, List.length_nil]); omega) rfl rfl rfl rfl rfl ?_
   rintro pv35 S h196 u31 w25
   have ap111 := w25.box h190
   have h197 := u31.box h190 ap7
   have ap112 := w25.sameP h192
   have h198 := u31.sameP h192 o2
   have ap113 := w25.box h193
   have h199 := u31.box h193 ap15.symm
   have ap114 := w25.vec h194
   have h200 := u31.vec h194 ap97.symm
   have ap115 := w25.vec h195
   have h201 := u31.vec h195 ap101.symm
   have ap116 := w25.vec h189
   have h202 := u31.vec h189 ap106.symm
   refine Opl.p1 (n := Opl.nil ?_)
   exact hk4 _ _ ⟨_, _, _, _, _, H, by omega, ⟨rfl, rfl, rfl, rfl, rfl, rfl, trivial⟩, h197, h201, h196, h198, ap102, ap112, ap100, ap111, ap115⟩
theorem spec_l2VarOf.ev {a0 : Int} {r : (Int × Int × Int × Int)} (H : spec_l2VarOf.f a0 = some r) : Ret Try.prog 146 [.lit (.int .i64 a0)] fun v S => Out (fun q => ∃ q1 q2 q3 q4, q = .agg [q1, q2, q3, q4] ∧ q1 = .lit (.int .i64 r.1) ∧ q2 = .lit (.int .i64 r.2.1) ∧ q3 = .lit (.int .i64 r.2.2.1) ∧ q4 = .lit (.int .i64 r.2.2.2)) v S := by
 unfold spec_l2VarOf.f at H
 refine Ret.intro Try.func146 rfl (Nat.le_of_ble_eq_true rfl) rfl ?_
 rw [tm1]
 refine Evr.sr rfl (Opl.alloc T95 rfl rfl rfl ?_)
 rintro i1 S h1 u1 w1
 refine Opl.nil (Evr.sr rfl (Opl.p1 (n := Opl.p1 (v := .agg [.lit (.int .i64 1), .lit (.int .i64 a0), .lit (.int .i64 0), .lit (.int .i64 0)]) (n := Opl.stb (vs := [.lit (.int .i64 1), .lit (.int .i64 a0), .lit (.int .i64 0), .lit (.int .i64 0)]) h1 rfl rfl Z95 rfl (Nat.le_of_ble_eq_true rfl) rfl rfl rfl rfl ?_))))
 rintro S (h2 : Box (.ptr i1 0) [.lit (.int .i64 1), .lit (.int .i64 a0), .lit (.int .i64 0), .lit (.int .i64 0)] _) u2
 refine Opl.nil ?_
 obtain rfl := Option.some.inj H
 refine Evr.retb (v := .agg [.lit (.int .i64 1), .lit (.int .i64 a0), .lit (.int .i64 0), .lit (.int .i64 0)]) Try.func146 rfl h2 rfl T95 rfl ?_
 show Out _ (.agg [.lit (.int .i64 1), .lit (.int .i64 a0), .lit (.int .i64 0), .lit (.int .i64 0)]) _
 exact (.agg4 .lit .lit .lit .lit)
theorem spec_l2Value.evv {k : Nat} {S0 : Sto} {l0_0 : List Int} {a0_1 : Int} {i0 : Abs.Id} {q0 : PV} (hq0 : Sl (cInt .u8) l0_0 q0) (hb0 : Box (.ptr i0 0) [q0, .lit (.int .i64 a0_1)] S0) {l1 : List IVar} {v1 : PV} (hv1 : Vec cIVar l1 v1 S0) (pa1 : Ap v1 (.ptr i0 0)) {a2 : Int} {r : Int × (List ITerm)} (H : spec_l2Value.f k l0_0 a0_1 l1 a2 = some r) : RetS Try.prog 149 [.ptr i0 0, v1, .lit (.int .i64 a2)] S0 fun v S => Sl cITerm r.2 v ∧ Box (.ptr i0 0) [q0, .lit (.int .i64 r.1)] S ∧ Same S0 S [i0] := by
 have hs0 : Same S0 S0 [i0] := .refl _ _
 unfold spec_l2Value.f at H
 refine RetS.intro Try.func149 rfl (Nat.le_of_ble_eq_true rfl) rfl ?_
 rw [tm3]
 refine Evr.sr rfl (Opl.p1 (n := Opl.nil (Evr.sr rfl (Opl.p1 (n := ?_)))))
 obtain ⟨r1, h_r1, H⟩ := Option.bind_eq_some_iff.1 H
 refine Opl.calls (spec_l40Rd_pick.evb hq0 hb0 h_r1) rfl rfl rfl rfl rfl ?_
 rintro _ S ⟨rfl, h1, u1⟩
 have h2 := u1.sameP hs0 OutT.box
 have h3 := u1.vec hv1 (pa1).pt
 refine Opl.p1 (n := Opl.nil (Evr.seq (Evr.sr rfl (Opl.p1 (n := Opl.p1 (n := Opl.nil ?_))))))
 by_cases c1 : r1.2 < 3
 case pos =>
  rw [if_pos c1] at H
  have e1 : (decide (r1.2 < 3)) = true := by simpa using c1
  try rw [e1]
  refine Evr.condT rfl (Evr.sr rfl (Opl.p1 (n := ?_)))
  obtain ⟨r2, h_r2, H⟩ := Option.bind_eq_some_iff.1 H
  refine Opl.call (spec_l2VarOf.ev h_r2) rfl rfl rfl rfl ⟨(.lit _), trivial⟩ (by decide) ?_
  rintro _ ⟨_, _, _, _, rfl, rfl, rfl, rfl, rfl⟩
  obtain ⟨r3, h_r3, H⟩ := Option.bind_eq_some_iff.1 H
  refine Opl.call (spec_l2Const.ev h_r3) rfl rfl rfl rfl ⟨(.lit _), trivial⟩ (by decide) ?_
  rintro _ ⟨_, _, _, _, rfl, rfl, rfl, rfl, rfl⟩
  refine Opl.p1 (n := Opl.litf (M := (cInt .i64)) (ys := [2, 3]) [.const (.int .i64 2), .const (.int .i64 3)] K29 T3 rfl rfl rfl (by exact ⟨rfl, rfl, trivial⟩) rfl (by decide) rfl rfl rfl ?_)
  rintro pv4 pv5 S h6 u2 w1
  have ap1 := w1.sameP h2
  have h7 := u2.sameP h2 ap1
  have ap2 := w1.box h1
  have h8 := u2.box h1 ap2
  have ap3 := w1.vec h3
  have h9 := u2.vec h3 ap3
  obtain ⟨r4, h_r4, H⟩ := Option.bind_eq_some_iff.1 H
  refine Opl.calls (spec_l40Rd_num.evb hq0 h8 h6 h_r4) rfl rfl rfl rfl rfl ?_
  rintro _ S ⟨rfl, h10, u3⟩
  have h11 := u3.sameP h7 OutT.box
  have h12 := u3.vec h9 (pa1).pt
  refine Opl.p1 (v := .agg [.lit (.int .i64 r4.2), .lit (.int .i64 0), .lit (.int .i64 0), .lit (.int .i64 1)]) (n := Opl.lits (M := cITerm) (ys := [(⟨r2.1, r2.2.1, r2.2.2.1, r2.2.2.2⟩ : ITerm), (⟨r3.1, r3.2.1, r3.2.2.1, r3.2.2.2⟩ : ITerm), (⟨r4.2, 0, 0, 1⟩ : ITerm)]) [.tmp 13, .tmp 14, .tmp 18] K44 T95 rfl rfl rfl (by exact ⟨cITerm_mk, cITerm_mk, cITerm_mk, trivial⟩) rfl (by decide) rfl rfl rfl ?_)
  rintro pv6 S h13 u4 w2
  have ap4 := w2.sameP h11
  have h14 := u4.sameP h11 ap4
  have ap5 := w2.box h10
  have h15 := u4.box h10 ap5
  have ap6 := w2.vec h12
  have h16 := u4.vec h12 ap6
  refine Opl.p1 (n := Opl.nil ?_)
  refine Evr.frz 6 h13 rfl ?_
  rintro pv7 S h17 u5
  have h18 := u5.sameP h14 ap4
  have h19 := u5.box h15 ap5
  have h20 := u5.vec h16 ap6
  obtain rfl := Option.some.inj H
  refine Evr.ret1 Try.func149 rfl ?_
  exact ⟨h17, h19, h18⟩
 rw [if_neg c1] at H
 have e2 : (decide (r1.2 < 3)) = false := by simpa using c1
 try rw [e2]
 refine Evr.condF rfl (Evr.skip (Evr.seq (Evr.sr rfl (Opl.p1 (n := Opl.p1 (n := Opl.nil ?_))))))
 by_cases c2 : r1.2 = 3
 case neg =>
  rw [if_neg c2] at H
  have e4 : (r1.2 == 3) = false := by simpa using c2
  try rw [e4]
  refine Evr.condF rfl (Evr.skip (Evr.seq (Evr.sr rfl (Opl.p1 (n := Opl.p1 (n := Opl.nil ?_))))))
  by_cases c9 : r1.2 = 4
  case neg =>
   rw [if_neg c9] at H
   have e6 : (r1.2 == 4) = false := by simpa using c9
   try rw [e6]
   refine Evr.condF rfl (Evr.skip (Evr.sr rfl (Opl.p1 (n := Opl.p1 (n := Opl.lenv (xs := l1) (by exact h3) K23 rfl rfl rfl rfl ?_)))))
   obtain ⟨r9, h_r9, H⟩ := Option.bind_eq_some_iff.1 H
   refine Opl.calls (spec_l1Terms.evb hq0 h1 h_r9) rfl rfl rfl rfl rfl ?_
   rintro pv14 S ⟨h54, w5, h55, u12⟩
   have h56 := u12.sameP h2 OutT.box
   have h57 := u12.vec h3 (pa1).pt
   have ap13 := w5.sameP h2
   have ap14 := w5.box h1
   have ap15 := w5.vec h3
   refine Opl.p1 (n := Opl.nil ?_)
   refine Evr.frz 6 h54 rfl ?_
   rintro pv15 S h58 u13
   have h59 := u13.sameP h56 ap13
   have h60 := u13.box h55 ap14
   have h61 := u13.vec h57 ap15
   obtain rfl := Option.some.inj H
   refine Evr.ret1 Try.func149 rfl ?_
   exact ⟨h58, h60, h59⟩
  rw [if_pos c9] at H
  have e5 : (r1.2 == 4) = true := by simpa using c9
  try rw [e5]
  refine Evr.condT rfl (Evr.sr rfl (Opl.p1 (n := Opl.p1 (n := Opl.lenv (xs := l1) (by exact h3) K23 rfl rfl rfl rfl ?_))))
  obtain ⟨r7, h_r7, H⟩ := Option.bind_eq_some_iff.1 H
  refine Opl.calls (spec_l40Rd_pick.evb hq0 h1 h_r7) rfl rfl rfl rfl rfl ?_
  rintro _ S ⟨rfl, h42, u9⟩
  have h43 := u9.sameP h2 OutT.box
  have h44 := u9.vec h3 (pa1).pt
  obtain ⟨r8, h_r8, H⟩ := Option.bind_eq_some_iff.1 H
  refine Opl.call (spec_l2VarOf.ev h_r8) rfl rfl rfl rfl ⟨(.lit _), trivial⟩ (by decide) ?_
  rintro _ ⟨_, _, _, _, rfl, rfl, rfl, rfl, rfl⟩
  refine Opl.lits (M := cITerm) (ys := [(⟨r8.1, r8.2.1, r8.2.2.1, r8.2.2.2⟩ : ITerm)]) [.tmp 50] K44 T95 rfl rfl rfl (by exact ⟨cITerm_mk, trivial⟩) rfl (by decide) rfl rfl rfl ?_
  rintro pv12 S h46 u10 w4
  have ap10 := w4.sameP h43
  have h47 := u10.sameP h43 ap10
  have ap11 := w4.box h42
  have h48 := u10.box h42 ap11
  have ap12 := w4.vec h44
  have h49 := u10.vec h44 ap12
  refine Opl.p1 (n := Opl.nil ?_)
  refine Evr.frz 6 h46 rfl ?_
  rintro pv13 S h50 u11
  have h51 := u11.sameP h47 ap10
  have h52 := u11.box h48 ap11
  have h53 := u11.vec h49 ap12
  obtain rfl := Option.some.inj H
  refine Evr.ret1 Try.func149 rfl ?_
  exact ⟨h50, h52, h51⟩
 rw [if_pos c2] at H
 have e3 : (r1.2 == 3) = true := by simpa using c2
 try rw [e3]
 refine Evr.condT rfl (Evr.seq (Evr.regionL [(18, .m), (4, .q), (10, .q), (15, .q)] rfl (by kernel_rfl) (Opl.p1 (n := Opl.p1 (n := ?_)))))
 obtain ⟨c3, H⟩ := peel H
 obtain ⟨c4, H⟩ := peel H
 obtain ⟨c5, H⟩ := peel H
 obtain ⟨c6, H⟩ := peel H
 obtain ⟨c7, H⟩ := peel H
 obtain ⟨c8, H⟩ := peel H
 refine Opl.idv (M := cIVar) (xs := l1) (j := a2) (v := v1) h3 rfl rfl (by omega) (by omega) K23 Z61 rfl rfl ?_
 rintro d1 z1 q1 h21 h22
 refine Opl.p1 (v := .ptr d1 (a2.toNat * cIVar.n + 0)) (n := Opl.ldvk (M := cIVar) (xs := l1) (j := a2) 0 zIVar h21 h22 (by omega) (by omega) (by decide) rfl T3 rfl rfl rfl ?_)
 rintro p1 q2 h23
 obtain rfl := cIVar_R (x := (rd_IVar l1 a2)) h23
 refine ⟨.lit (.int .i64 ((rd_IVar l1 a2).f0)), rfl, ?_⟩
 refine Opl.p1 (n := Opl.p1 (n := Opl.p1 (n := Opl.idv (M := cIVar) (xs := l1) (j := a2) (v := v1) h3 rfl rfl (by omega) (by omega) K23 Z61 rfl rfl ?_)))
 rintro d2 z2 q3 h24 h25
 refine Opl.p1 (v := .ptr d2 (a2.toNat * cIVar.n + 1)) (n := Opl.ldvk (M := cIVar) (xs := l1) (j := a2) 1 zIVar h24 h25 (by omega) (by omega) (by decide) rfl T3 rfl rfl rfl ?_)
 rintro p2 q4 h26
 obtain rfl := cIVar_R (x := (rd_IVar l1 a2)) h26
 refine ⟨.lit (.int .i64 ((rd_IVar l1 a2).f1)), rfl, ?_⟩
 refine Opl.p1 (n := Opl.p1 (n := Opl.idv (M := cIVar) (xs := l1) (j := a2) (v := v1) h3 rfl rfl (by omega) (by omega) K23 Z61 rfl rfl ?_))
 rintro d3 z3 q5 h27 h28
 refine Opl.p1 (v := .ptr d3 (a2.toNat * cIVar.n + 0)) (n := Opl.ldvk (M := cIVar) (xs := l1) (j := a2) 0 zIVar h27 h28 (by omega) (by omega) (by decide) rfl T3 rfl rfl rfl ?_)
 rintro p3 q6 h29
 obtain rfl := cIVar_R (x := (rd_IVar l1 a2)) h29
 refine ⟨.lit (.int .i64 ((rd_IVar l1 a2).f0)), rfl, ?_⟩
 refine Opl.subi (k := .i64) (a := ((rd_IVar l1 a2).f1)) (b := ((rd_IVar l1 a2).f0)) K3 rfl rfl rfl rfl (Opl.add (k := .i64) (a := (wrap64 (((rd_IVar l1 a2).f1) - ((rd_IVar l1 a2).f0)))) (b := 1) K3 rfl rfl rfl rfl ?_)
 obtain ⟨r5, h_r5, H⟩ := Option.bind_eq_some_iff.1 H
 refine Opl.callbm h1 (spec_l40Rd_pick.evb hq0 h1 h_r5) rfl rfl rfl rfl rfl ?_
 rintro _ S rfl h30 u6
 have h31 := u6.sameP h2 OutT.box
 have h32 := u6.vec h3 (pa1).pt
 refine Opl.add (k := .i64) (a := ((rd_IVar l1 a2).f0)) (b := r5.2) K3 rfl rfl rfl rfl ?_
 obtain ⟨r6, h_r6, H⟩ := Option.bind_eq_some_iff.1 H
 refine Opl.call (spec_l2Const.ev h_r6) rfl rfl rfl rfl ⟨(.lit _), trivial⟩ (by decide) ?_
 rintro _ ⟨_, _, _, _, rfl, rfl, rfl, rfl, rfl⟩
 refine Opl.lits (M := cITerm) (ys := [(⟨r6.1, r6.2.1, r6.2.2.1, r6.2.2.2⟩ : ITerm)]) [.tmp 42] K44 T95 rfl rfl rfl (by exact ⟨cITerm_mk, trivial⟩) rfl (by decide) rfl rfl rfl ?_
 rintro pv9 S h34 u7 w3
 have ap7 := w3.sameP h31
 have h35 := u7.sameP h31 ap7
 have ap8 := w3.box h30
 have h36 := u7.box h30 ap8
 have ap9 := w3.vec h32
 have h37 := u7.vec h32 ap9
 refine Opl.one (v := pv9) rfl rfl rfl (Opl.nil ?_)
 refine Evr.frz 6 h34 rfl ?_
 rintro pv10 S h38 u8
 have h39 := u8.sameP h35 ap7
 have h40 := u8.box h36 ap8
 have h41 := u8.vec h37 ap9
 obtain rfl := Option.some.inj H
 refine Evr.ret1 Try.func149 rfl ?_
 exact ⟨h38, h40, h39⟩
theorem spec_TermsValid.ev {k : Nat} {l0 : List ITerm} {v0 : PV} (hv0 : Sl cITerm l0 v0) {a1 : Int} {r : Bool} (H : spec_TermsValid.f k l0 a1 = some r) : Ret Try.prog 147 [v0, .lit (.int .i64 a1)] fun v S => v = .lit (.bool r) := by
 unfold spec_TermsValid.f at H
 refine Ret.intro Try.func147 rfl (Nat.le_of_ble_eq_true rfl) rfl ?_
 rw [tm2]
 refine Evr.sr rfl (Opl.p1 (n := Opl.nil (Evr.sr rfl (Opl.p1 (n := Opl.p1 (n := ?_))))))
 obtain ⟨t185, h_t185, H⟩ := Option.bind_eq_some_iff.1 H
 refine Opl.call ((spec_KindsOf.ev hv0 h_t185).mono fun _ _ h => Out.vec h) rfl rfl rfl rfl ⟨hv0.plain, (.lit _), trivial⟩ (by decide) ?_
 rintro pv1 h1
 refine Opl.len (xs := t185) (by exact h1) K29 rfl rfl rfl rfl (Opl.p1 (n := Opl.p1 (n := Opl.nil ?_)))
 obtain rfl := Option.some.inj H
 refine Evr.ret1 Try.func147 rfl ?_
 show (.lit (.bool (decide ((t185.length : Int) > 0))) : PV) = _
 first | rfl | (simp only [go_sem]; rfl)
theorem spec_l1Moved.ev {a0_0 : Int} {a0_1 : Int} {a0_2 : Int} {a0_3 : Int} {a1 : Int} {r : (Int × Int × Int × Int)} (H : spec_l1Moved.f a0_0 a0_1 a0_2 a0_3 a1 = some r) : Ret Try.prog 148 [.agg [.lit (.int .i64 a0_0), .lit (.int .i64 a0_1), .lit (.int .i64 a0_2), .lit (.int .i64 a0_3)], .lit (.int .i64 a1)] fun v S => Out (fun q => ∃ q1 q2 q3 q4, q = .agg [q1, q2, q3, q4] ∧ q1 = .lit (.int .i64 r.1) ∧ q2 = .lit (.int .i64 r.2.1) ∧ q3 = .lit (.int .i64 r.2.2.1) ∧ q4 = .lit (.int .i64 r.2.2.2)) v S := by
 unfold spec_l1Moved.f at H
 refine Ret.intro Try.func148 rfl (Nat.le_of_ble_eq_true rfl) rfl ?_
 rw [tm2]
 refine Evr.sr rfl (Opl.box (cs := [.lit (.int .i64 a0_0), .lit (.int .i64 a0_1), .lit (.int .i64 a0_2), .lit (.int .i64 a0_3)]) rfl rfl rfl rfl ?_)
 rintro i1 S h1 u1 w1
 refine Opl.alloc T95 rfl rfl rfl ?_
 rintro i2 S h2 u2 w2
 have ap1 := w2.box h1
 have h3 := u2.box h1 ap1
 refine Opl.nil (Evr.seq (Evr.sr rfl (Opl.p1 (v := .ptr i1 0) (n := Opl.ldb (v := .lit (.int .i64 a0_0)) h3 rfl T3 rfl rfl rfl rfl (Opl.p1 (n := Opl.nil ?_))))))
 by_cases c1 : a0_0 ≥ 2
 case neg =>
  rw [if_neg c1] at H
  have e2 : (decide (a0_0 ≥ 2)) = false := by simpa using c1
  try rw [e2]
  refine Evr.condF rfl (Evr.skip (Evr.sr rfl (Opl.ldb (v := .agg [.lit (.int .i64 a0_0), .lit (.int .i64 a0_1), .lit (.int .i64 a0_2), .lit (.int .i64 a0_3)]) h3 rfl T95 rfl rfl rfl rfl (Opl.stb (vs := [.lit (.int .i64 a0_0), .lit (.int .i64 a0_1), .lit (.int .i64 a0_2), .lit (.int .i64 a0_3)]) h2 rfl rfl Z95 rfl (Nat.le_of_ble_eq_true rfl) rfl rfl rfl rfl ?_))))
  rintro S (h6 : Box (.ptr i2 0) [.lit (.int .i64 a0_0), .lit (.int .i64 a0_1), .lit (.int .i64 a0_2), .lit (.int .i64 a0_3)] _) u4
  have h7 := u4.box h3 ap1
  refine Opl.nil ?_
  obtain rfl := Option.some.inj H
  refine Evr.retb (v := .agg [.lit (.int .i64 a0_0), .lit (.int .i64 a0_1), .lit (.int .i64 a0_2), .lit (.int .i64 a0_3)]) Try.func148 rfl h6 rfl T95 rfl ?_
  show Out _ (.agg [.lit (.int .i64 a0_0), .lit (.int .i64 a0_1), .lit (.int .i64 a0_2), .lit (.int .i64 a0_3)]) _
  exact (.agg4 .lit .lit .lit .lit)
 rw [if_pos c1] at H
 have e1 : (decide (a0_0 ≥ 2)) = true := by simpa using c1
 try rw [e1]
 refine Evr.condT rfl (Evr.sr rfl (Opl.p1 (v := .ptr i1 0) (n := Opl.ldb (v := .lit (.int .i64 a0_0)) h3 rfl T3 rfl rfl rfl rfl (Opl.p1 (v := .ptr i1 2) (n := Opl.ldb (v := .lit (.int .i64 a0_2)) h3 rfl T3 rfl rfl rfl rfl (Opl.p1 (n := Opl.add (k := .i64) (a := a0_2) (b := a1) K3 rfl rfl rfl rfl (Opl.p1 (v := .ptr i1 3) (n := Opl.ldb (v := .lit (.int .i64 a0_3)) h3 rfl T3 rfl rfl rfl rfl (Opl.one (v := .lit (.int .i64 a1)) rfl rfl rfl (Opl.add (k := .i64) (a := a0_3) (b := a1) K3 rfl rfl rfl rfl (Opl.p1 (v := .agg [.lit (.int .i64 a0_0), .lit (.int .i64 0), .lit (.int .i64 (wrap64 (a0_2 + a1))), .lit (.int .i64 (wrap64 (a0_3 + a1)))]) (n := Opl.stb (vs := [.lit (.int .i64 a0_0), .lit (.int .i64 0), .lit (.int .i64 (wrap64 (a0_2 + a1))), .lit (.int .i64 (wrap64 (a0_3 + a1)))]) h2 rfl rfl Z95 rfl (Nat.le_of_ble_eq_true rfl) rfl rfl rfl rfl ?_)))))))))))))
 rintro S (h4 : Box (.ptr i2 0) [.lit (.int .i64 a0_0), .lit (.int .i64 0), .lit (.int .i64 (wrap64 (a0_2 + a1))), .lit (.int .i64 (wrap64 (a0_3 + a1)))] _) u3
 have h5 := u3.box h3 ap1
 refine Opl.nil ?_
 obtain rfl := Option.some.inj H
 refine Evr.retb (v := .agg [.lit (.int .i64 a0_0), .lit (.int .i64 0), .lit (.int .i64 (wrap64 (a0_2 + a1))), .lit (.int .i64 (wrap64 (a0_3 + a1)))]) Try.func148 rfl h4 rfl T95 rfl ?_
 show Out _ (.agg [.lit (.int .i64 a0_0), .lit (.int .i64 0), .lit (.int .i64 (wrap64 (a0_2 + a1))), .lit (.int .i64 (wrap64 (a0_3 + a1)))]) _
 exact (.agg4 .lit .lit .lit .lit)
theorem spec_Joined.ev {k : Nat} {a0 : Int} {l1 : List ITerm} {v1 : PV} (hv1 : Sl cITerm l1 v1) {l2 : List ITerm} {v2 : PV} (hv2 : Sl cITerm l2 v2) {a3 : Int} {r : (List ITerm)} (H : spec_Joined.f k a0 l1 l2 a3 = some r) : Ret Try.prog 121 [.lit (.int .i64 a0), v1, v2, .lit (.int .i64 a3)] fun v S => Vec cITerm r v S := by
 unfold spec_Joined.f at H
 refine Ret.intro Try.func121 rfl (Nat.le_of_ble_eq_true rfl) rfl ?_
 rw [tm4]
 refine Evr.sr rfl (Opl.p1 (n := Opl.nil (Evr.seq (Evr.seq ?_))))
 refine Evr.join (fun tm S => ∃ (kq1 : Nat) (x21_1 : Bool), spec_Joined.j0 kq1 a0 l1 l2 a3 x21_1 = some r ∧ Has tm [(0, .lit (.int .i64 a0)), (1, v1), (2, v2), (3, .lit (.int .i64 a3)), (21, .lit (.bool x21_1))]) ?_ fun hk1 => ?_
 ·
  rintro tm S ⟨kq1, x21_1, H, hh⟩
  rw [hh.eq]
  obtain _ | k1 := kq1
  · simp [spec_Joined.j0] at H
  simp only [spec_Joined.j0] at H
  by_cases c1 : x21_1 = true
  case pos =>
   rw [if_pos c1] at H
   obtain rfl : x21_1 = true := by simpa using c1
   refine Evr.condT rfl (Evr.sr rfl (Opl.p1 (n := Opl.nil ?_)))
   obtain rfl := Option.some.inj H
   refine Evr.ret1 Try.func121 rfl ?_
   show Vec _ _ (.lit (.slice none 0 0)) _
   exact .nil
  rw [if_neg c1] at H
  obtain rfl : x21_1 = false := by simpa using c1
  refine Evr.condF rfl (Evr.skip (Evr.sr rfl (Opl.lits (M := cITerm) (ys := []) [] K44 T95 rfl rfl rfl trivial rfl (by decide) rfl rfl rfl ?_)))
  rintro pv1 S h1 u1 w1
  refine Opl.p1 (n := Opl.nil (Evr.seq (Evr.sr rfl (Opl.p1 (n := Opl.nil (Evr.block ?_))))))
  refine Evr.loop (Evr.rounds (n := k1) (Inv := fun n tm S => n ≤ k1 ∧ ∃ (x9_1 : List (ITerm)) (x10_1 : Int) (pv2 : PV), spec_Joined.l0 n a0 l1 l2 a3 x9_1 x10_1 = some r ∧ Has tm [(0, .lit (.int .i64 a0)), (1, v1), (2, v2), (3, .lit (.int .i64 a3)), (9, pv2), (10, .lit (.int .i64 x10_1))] ∧ Vec cITerm x9_1 pv2 S) ?_ ?_ ?_)
  · exact ⟨Nat.le_refl _, _, _, _, H, ⟨rfl, rfl, rfl, rfl, rfl, rfl, trivial⟩, h1⟩
  ·
   rintro tm S ⟨_, _, _, _, H, -⟩
   simp [spec_Joined.l0] at H
  ·
   rintro n1 ih1 tm S ⟨hle, x9_1, x10_1, pv2, H, hh, h2⟩
   simp only [spec_Joined.l0] at H
   rw [hh.eq]
   refine Evr.seq (Evr.sr rfl (Opl.p1 (n := Opl.p1 (n := Opl.len (xs := l1) (by exact hv1) K44 rfl rfl rfl rfl (Opl.p1 (n := Opl.nil ?_))))))
   by_cases c2 : x10_1 < (l1.length : Int)
   case pos =>
    rw [if_pos c2] at H
    have e1 : (decide (x10_1 < (l1.length : Int))) = true := by simpa using c2
    try rw [e1]
    refine Evr.condT rfl (Evr.skip (Evr.seq (Evr.block (Evr.regionN rfl (Opl.p1 (n := Opl.p1 (n := Opl.p1 (n := ?_))))))))
    obtain ⟨c3, H⟩ := peel H
    obtain ⟨c4, H⟩ := peel H
    refine Opl.idx (M := cITerm) (xs := l1) (j := x10_1) zITerm (by exact hv1) rfl (by omega) (by omega) K44 Z95 rfl rfl ?_
    rintro p1 q1 h3
    obtain rfl := cITerm_R (x := (rd_ITerm l1 x10_1)) h3
    refine Opl.lda (.agg [.lit (.int .i64 ((rd_ITerm l1 x10_1).f0)), .lit (.int .i64 ((rd_ITerm l1 x10_1).f1)), .lit (.int .i64 ((rd_ITerm l1 x10_1).f2)), .lit (.int .i64 ((rd_ITerm l1 x10_1).f3))]) rfl T95 rfl rfl rfl rfl (Opl.lits (M := cITerm) (ys := [(⟨((rd_ITerm l1 x10_1).f0), ((rd_ITerm l1 x10_1).f1), ((rd_ITerm l1 x10_1).f2), ((rd_ITerm l1 x10_1).f3)⟩ : ITerm)]) [.tmp 33] K44 T95 rfl rfl rfl (by exact ⟨cITerm_mk, trivial⟩) rfl (by decide) rfl rfl rfl ?_)
    rintro pv3 S h4 u2 w2
    have ap1 := w2.vec h2
    have h5 := u2.vec h2 ap1
    refine Opl.app (M := cITerm) (xs := x9_1) (ys := [(⟨((rd_ITerm l1 x10_1).f0), ((rd_ITerm l1 x10_1).f1), ((rd_ITerm l1 x10_1).f2), ((rd_ITerm l1 x10_1).f3)⟩ : ITerm)]) (v := pv2) h5 (.vec h4) oITerm rfl rfl K44 T95 rfl rfl (by (try simp only [List.length_cons, List.length_nil]); omega) (by show (_ + _) * 32 ≤ 140737488355328; (try simp only [List.length_cons, List.length_nil]); omega) rfl rfl rfl rfl rfl ?_
    rintro pv4 S h6 u3 w3
    have ap2 := w3.vec h4
    have h7 := u3.vec h4 ap1.symm
    refine Opl.p1 (n := Opl.nil (Evr.inBlock (Evr.regionN rfl (Opl.p1 (n := Opl.add (k := .i64) (a := x10_1) (b := 1) K3 rfl rfl rfl rfl (Opl.one (v := .lit (.int .i64 (wrap64 (x10_1 + 1)))) rfl rfl rfl (Opl.nil ?_)))))))
    exact ih1 _ (by omega) _ _ ⟨by omega, _, _, _, H, ⟨rfl, rfl, rfl, rfl, rfl, rfl, trivial⟩, h6⟩
   rw [if_neg c2] at H
   have e2 : (decide (x10_1 < (l1.length : Int))) = false := by simpa using c2
   try rw [e2]
   refine Evr.condF rfl (Evr.exit rfl (Evr.seq (Evr.sr rfl (Opl.p1 (n := Opl.nil (Evr.block ?_))))))
   refine Evr.loop (Evr.rounds (n := n1) (Inv := fun n tm S => n ≤ n1 ∧ ∃ (x9_2 : List (ITerm)) (x11_1 : Int) (pv5 : PV), spec_Joined.l1 n a0 l1 l2 a3 x9_2 x11_1 = some r ∧ Has tm [(0, .lit (.int .i64 a0)), (1, v1), (2, v2), (3, .lit (.int .i64 a3)), (9, pv5), (11, .lit (.int .i64 x11_1))] ∧ Vec cITerm x9_2 pv5 S) ?_ ?_ ?_)
   · exact ⟨Nat.le_refl _, _, _, _, H, ⟨rfl, rfl, rfl, rfl, rfl, rfl, trivial⟩, h2⟩
   ·
    rintro tm S ⟨_, _, _, _, H, -⟩
    simp [spec_Joined.l1] at H
   ·
    rintro n2 ih2 tm S ⟨hle, x9_2, x11_1, pv5, H, hh, h8⟩
    simp only [spec_Joined.l1] at H
    rw [hh.eq]
    refine Evr.seq (Evr.sr rfl (Opl.p1 (n := Opl.p1 (n := Opl.len (xs := l2) (by exact hv2) K44 rfl rfl rfl rfl (Opl.p1 (n := Opl.p1 (n := ?_)))))))
    by_cases c5 : x11_1 < (l2.length : Int)
    case neg =>
     rw [if_neg c5] at H
     have e10 : (decide (x11_1 < (l2.length : Int))) = false := by simpa using c5
     try rw [e10]
     refine Opl.skp rfl (Opl.skp rfl (Opl.skp rfl (Opl.p1 (n := Opl.nil (Evr.condF rfl (Evr.exit rfl (Evr.sr rfl (Opl.p1 (n := Opl.p1 (n := Opl.p1 (n := Opl.len (xs := l1) (by exact hv1) K44 rfl rfl rfl rfl (Opl.subi (k := .i64) (a := (l1.length : Int)) (b := 1) K3 rfl rfl rfl rfl (Opl.one (v := pv5) rfl rfl rfl (Opl.lenv (xs := x9_2) (by exact h8) K44 rfl rfl rfl rfl (Opl.subi (k := .i64) (a := (x9_2.length : Int)) (b := 1) K3 rfl rfl rfl rfl (Opl.p1 (v := .agg [.lit (.int .i64 a0), .lit (.int .i64 0), .lit (.int .i64 (wrap64 ((l1.length : Int) - 1))), .lit (.int .i64 (wrap64 ((x9_2.length : Int) - 1)))]) (n := Opl.lits (M := cITerm) (ys := [(⟨a0, 0, (wrap64 ((l1.length : Int) - 1)), (wrap64 ((x9_2.length : Int) - 1))⟩ : ITerm)]) [.tmp 65] K44 T95 rfl rfl rfl (by exact ⟨cITerm_mk, trivial⟩) rfl (by decide) rfl rfl rfl ?_)))))))))))))))))
     rintro pv12 S h21 u8 w8
     have ap7 := w8.vec h8
     have h22 := u8.vec h8 ap7
     obtain _ | k3 := n2
     · simp [spec_Joined.j3] at H
     simp only [spec_Joined.j3] at H
     obtain ⟨c12, H⟩ := peel H
     obtain ⟨y208, hy_, H⟩ := Option.bind_eq_some_iff.1 H
     obtain rfl := Option.some.inj hy_
     refine Opl.app (M := cITerm) (xs := x9_2) (ys := [(⟨a0, 0, (wrap64 ((l1.length : Int) - 1)), (wrap64 ((x9_2.length : Int) - 1))⟩ : ITerm)]) (v := pv5) h22 (.vec h21) oITerm rfl rfl K44 T95 rfl rfl (by (try simp only [List.length_cons, List.length_nil]); omega) (by show (_ + _) * 32 ≤ 140737488355328; (try simp only [List.length_cons, List.length_nil]); omega) rfl rfl rfl rfl rfl ?_
     rintro pv13 S h23 u9 w9
     have ap8 := w9.vec h21
     have h24 := u9.vec h21 ap7.symm
     refine Opl.one (v := pv13) rfl rfl rfl (Opl.nil (Evr.seq (Evr.sr rfl (Opl.one (v := .lit (.int .i64 a0)) rfl rfl rfl (Opl.p1 (n := Opl.one (v := .lit (.bool (decide (a0 < 2)))) rfl rfl rfl ?_))))))
     by_cases c13 : a0 < 2
     case pos =>
      rw [if_pos c13] at H
      have e11 : (decide (a0 < 2)) = true := by simpa using c13
      try rw [e11]
      refine Opl.skp rfl (Opl.skp rfl (Opl.skp rfl (Opl.skp rfl (Opl.p1 (n := Opl.nil (Evr.condT rfl (Evr.sr rfl (Opl.one (v := .lit (.slice none 0 0)) rfl rfl rfl (Opl.nil ?_)))))))))
      obtain rfl := Option.some.inj H
      refine Evr.ret1 Try.func121 rfl ?_
      show Vec _ _ (.lit (.slice none 0 0)) _
      exact .nil
     rw [if_neg c13] at H
     have e12 : (decide (a0 < 2)) = false := by simpa using c13
     try rw [e12]
     refine Opl.one (v := pv13) rfl rfl rfl (Opl.one (v := .lit (.int .i64 a3)) rfl rfl rfl ?_)
     obtain ⟨t211, h_t211, H⟩ := Option.bind_eq_some_iff.1 H
     obtain ⟨pv14, h25, -, h26⟩ := Out.vec h23
     refine Opl.callw (spec_TermsValid.ev h26 h_t211) rfl rfl rfl (.cons h25 (.cons (.refl _) .nil)) ⟨h26.plain, (.lit _), trivial⟩ (by decide) (Opl.p1 (n := Opl.p1 (n := Opl.nil ?_)))
     by_cases c14 : t211 = true
     case neg =>
      rw [if_neg c14] at H
      have e14 : (!t211) = true := by simpa using c14
      try rw [e14]
      refine Evr.condT rfl (Evr.sr rfl (Opl.one (v := .lit (.slice none 0 0)) rfl rfl rfl (Opl.nil ?_)))
      obtain rfl := Option.some.inj H
      refine Evr.ret1 Try.func121 rfl ?_
      show Vec _ _ (.lit (.slice none 0 0)) _
      exact .nil
     rw [if_pos c14] at H
     have e13 : (!t211) = false := by simpa using c14
     try rw [e13]
     refine Evr.condF rfl (Evr.skip (Evr.sr rfl (Opl.one (v := pv13) rfl rfl rfl (Opl.one (v := pv13) rfl rfl rfl (Opl.nil ?_)))))
     obtain rfl := Option.some.inj H
     refine Evr.ret1 Try.func121 rfl ?_
     show Vec _ _ pv13 _
     exact h23
    rw [if_pos c5] at H
    have e3 : (decide (x11_1 < (l2.length : Int))) = true := by simpa using c5
    try rw [e3]
    refine Opl.p1 (n := ?_)
    obtain ⟨t199, h_t199, H⟩ := Option.bind_eq_some_iff.1 H
    refine Opl.callc (spec_l1One.ev h_t199) rfl rfl rfl rfl ⟨(.lit _), trivial⟩ (by decide) (Opl.p1 (n := Opl.p1 (n := Opl.nil ?_)))
    by_cases c6 : t199 = true
    case neg =>
     rw [if_neg c6] at H
     have e9 : (!t199) = true := by simpa using c6
     try rw [e9]
     refine Evr.condT rfl (Evr.skip (Evr.seq (Evr.block (Evr.regionN rfl (Opl.p1 (n := Opl.p1 (n := Opl.p1 (n := ?_))))))))
     obtain ⟨c10, H⟩ := peel H
     refine Opl.idx (M := cITerm) (xs := l2) (j := x11_1) zITerm (by exact hv2) rfl (by omega) (by omega) K44 Z95 rfl rfl ?_
     rintro p2 q2 h15
     obtain rfl := cITerm_R (x := (rd_ITerm l2 x11_1)) h15
     refine Opl.lda (.agg [.lit (.int .i64 ((rd_ITerm l2 x11_1).f0)), .lit (.int .i64 ((rd_ITerm l2 x11_1).f1)), .lit (.int .i64 ((rd_ITerm l2 x11_1).f2)), .lit (.int .i64 ((rd_ITerm l2 x11_1).f3))]) rfl T95 rfl rfl rfl rfl (Opl.p1 (n := Opl.len (xs := l1) (by exact hv1) K44 rfl rfl rfl rfl ?_))
     obtain ⟨bt201, h_bt201, H⟩ := Option.bind_eq_some_iff.1 H
     refine Opl.call (spec_l1Moved.ev h_bt201) rfl rfl rfl rfl ⟨(.aggL ⟨(.lit _), (.lit _), (.lit _), (.lit _), trivial⟩), (.lit _), trivial⟩ (by decide) ?_
     rintro _ ⟨_, _, _, _, rfl, rfl, rfl, rfl, rfl⟩
     refine Opl.lits (M := cITerm) (ys := [(⟨bt201.1, bt201.2.1, bt201.2.2.1, bt201.2.2.2⟩ : ITerm)]) [.tmp 54] K44 T95 rfl rfl rfl (by exact ⟨cITerm_mk, trivial⟩) rfl (by decide) rfl rfl rfl ?_
     rintro pv10 S h17 u6 w6
     have ap5 := w6.vec h8
     have h18 := u6.vec h8 ap5
     obtain ⟨c11, H⟩ := peel H
     refine Opl.app (M := cITerm) (xs := x9_2) (ys := [(⟨bt201.1, bt201.2.1, bt201.2.2.1, bt201.2.2.2⟩ : ITerm)]) (v := pv5) h18 (.vec h17) oITerm rfl rfl K44 T95 rfl rfl (by (try simp only [List.length_cons, List.length_nil]); omega) (by show (_ + _) * 32 ≤ 140737488355328; (try simp only [List.length_cons, List.length_nil]); omega) rfl rfl rfl rfl rfl ?_
     rintro pv11 S h19 u7 w7
     have ap6 := w7.vec h17
     have h20 := u7.vec h17 ap5.symm
     refine Opl.p1 (n := Opl.nil (Evr.inBlock (Evr.regionN rfl (Opl.p1 (n := Opl.add (k := .i64) (a := x11_1) (b := 1) K3 rfl rfl rfl rfl (Opl.one (v := .lit (.int .i64 (wrap64 (x11_1 + 1)))) rfl rfl rfl (Opl.nil ?_)))))))
     exact ih2 _ (by omega) _ _ ⟨by omega, _, _, _, H, ⟨rfl, rfl, rfl, rfl, rfl, rfl, trivial⟩, h19⟩
    rw [if_pos c6] at H
    have e4 : (!t199) = false := by simpa using c6
    try rw [e4]
    refine Evr.condF rfl (Evr.exit rfl (Evr.sr rfl (Opl.p1 (n := Opl.p1 (n := Opl.p1 (n := Opl.len (xs := l1) (by exact hv1) K44 rfl rfl rfl rfl (Opl.subi (k := .i64) (a := (l1.length : Int)) (b := 1) K3 rfl rfl rfl rfl (Opl.one (v := pv5) rfl rfl rfl (Opl.lenv (xs := x9_2) (by exact h8) K44 rfl rfl rfl rfl (Opl.subi (k := .i64) (a := (x9_2.length : Int)) (b := 1) K3 rfl rfl rfl rfl (Opl.p1 (v := .agg [.lit (.int .i64 a0), .lit (.int .i64 0), .lit (.int .i64 (wrap64 ((l1.length : Int) - 1))), .lit (.int .i64 (wrap64 ((x9_2.length : Int) - 1)))]) (n := Opl.lits (M := cITerm) (ys := [(⟨a0, 0, (wrap64 ((l1.length : Int) - 1)), (wrap64 ((x9_2.length : Int) - 1))⟩ : ITerm)]) [.tmp 65] K44 T95 rfl rfl rfl (by exact ⟨cITerm_mk, trivial⟩) rfl (by decide) rfl rfl rfl ?_))))))))))))
    rintro pv6 S h9 u4 w4
    have ap3 := w4.vec h8
    have h10 := u4.vec h8 ap3
    obtain _ | k2 := n2
    · simp [spec_Joined.j3] at H
    simp only [spec_Joined.j3] at H
    obtain ⟨c7, H⟩ := peel H
    obtain ⟨y208, hy_, H⟩ := Option.bind_eq_some_iff.1 H
    obtain rfl := Option.some.inj hy_
    refine Opl.app (M := cITerm) (xs := x9_2) (ys := [(⟨a0, 0, (wrap64 ((l1.length : Int) - 1)), (wrap64 ((x9_2.length : Int) - 1))⟩ : ITerm)]) (v := pv5) h10 (.vec h9) oITerm rfl rfl K44 T95 rfl rfl (by (try simp only [List.length_cons, List.length_nil]); omega) (by show (_ + _) * 32 ≤ 140737488355328; (try simp only [List.length_cons, List.length_nil]); omega) rfl rfl rfl rfl rfl ?_
    rintro pv7 S h11 u5 w5
    have ap4 := w5.vec h9
    have h12 := u5.vec h9 ap3.symm
    refine Opl.one (v := pv7) rfl rfl rfl (Opl.nil (Evr.seq (Evr.sr rfl (Opl.one (v := .lit (.int .i64 a0)) rfl rfl rfl (Opl.p1 (n := Opl.one (v := .lit (.bool (decide (a0 < 2)))) rfl rfl rfl ?_))))))
    by_cases c8 : a0 < 2
    case pos =>
     rw [if_pos c8] at H
     have e5 : (decide (a0 < 2)) = true := by simpa using c8
     try rw [e5]
     refine Opl.skp rfl (Opl.skp rfl (Opl.skp rfl (Opl.skp rfl (Opl.p1 (n := Opl.nil (Evr.condT rfl (Evr.sr rfl (Opl.one (v := .lit (.slice none 0 0)) rfl rfl rfl (Opl.nil ?_)))))))))
     obtain rfl := Option.some.inj H
     refine Evr.ret1 Try.func121 rfl ?_
     show Vec _ _ (.lit (.slice none 0 0)) _
     exact .nil
    rw [if_neg c8] at H
    have e6 : (decide (a0 < 2)) = false := by simpa using c8
    try rw [e6]
    refine Opl.one (v := pv7) rfl rfl rfl (Opl.one (v := .lit (.int .i64 a3)) rfl rfl rfl ?_)
    obtain ⟨t211, h_t211, H⟩ := Option.bind_eq_some_iff.1 H
    obtain ⟨pv8, h13, -, h14⟩ := Out.vec h11
    refine Opl.callw (spec_TermsValid.ev h14 h_t211) rfl rfl rfl (.cons h13 (.cons (.refl _) .nil)) ⟨h14.plain, (.lit _), trivial⟩ (by decide) (Opl.p1 (n := Opl.p1 (n := Opl.nil ?_)))
    by_cases c9 : t211 = true
    case neg =>
     rw [if_neg c9] at H
     have e8 : (!t211) = true := by simpa using c9
     try rw [e8]
     refine Evr.condT rfl (Evr.sr rfl (Opl.one (v := .lit (.slice none 0 0)) rfl rfl rfl (Opl.nil ?_)))
     obtain rfl := Option.some.inj H
     refine Evr.ret1 Try.func121 rfl ?_
     show Vec _ _ (.lit (.slice none 0 0)) _
     exact .nil
    rw [if_pos c9] at H
    have e7 : (!t211) = false := by simpa using c9
    try rw [e7]
    refine Evr.condF rfl (Evr.skip (Evr.sr rfl (Opl.one (v := pv7) rfl rfl rfl (Opl.one (v := pv7) rfl rfl rfl (Opl.nil ?_)))))
    obtain rfl := Option.some.inj H
    refine Evr.ret1 Try.func121 rfl ?_
    show Vec _ _ pv7 _
    exact h11
 ·
  refine Evr.regionN rfl (Opl.p1 (n := Opl.p1 (n := ?_)))
  obtain ⟨t190, h_t190, H⟩ := Option.bind_eq_some_iff.1 H
  refine Opl.callc (spec_TermsValid.ev hv1 h_t190) rfl rfl rfl rfl ⟨hv1.plain, (.lit _), trivial⟩ (by decide) (Opl.p1 (n := Opl.p1 (n := ?_)))
  by_cases c15 : t190 = true
  case neg =>
   rw [if_neg c15] at H
   have e16 : (!t190) = true := by simpa using c15
   try rw [e16]
   refine Opl.skp rfl (Opl.skp rfl (Opl.skp rfl (Opl.skp rfl (Opl.p1 (n := Opl.nil ?_)))))
   exact hk1 _ _ ⟨_, _, H, ⟨rfl, rfl, rfl, rfl, (by first | rfl | (show PV.lit (.bool _) = _; congr 2; simp_all)), trivial⟩⟩
  rw [if_pos c15] at H
  have e15 : (!t190) = false := by simpa using c15
  try rw [e15]
  refine Opl.p1 (n := Opl.p1 (n := ?_))
  obtain ⟨t191, h_t191, H⟩ := Option.bind_eq_some_iff.1 H
  refine Opl.callc (spec_TermsValid.ev hv2 h_t191) rfl rfl rfl rfl ⟨hv2.plain, (.lit _), trivial⟩ (by decide) (Opl.p1 (n := Opl.p1 (n := Opl.nil ?_)))
  exact hk1 _ _ ⟨_, _, H, ⟨rfl, rfl, rfl, rfl, (by first | rfl | (show PV.lit (.bool _) = _; congr 2; simp_all)), trivial⟩⟩
theorem spec_l2Cond.evb {k : Nat} {S0 : Sto} {l0_0 : List Int} {a0_1 : Int} {i0 : Abs.Id} {q0 : PV} (hq0 : Sl (cInt .u8) l0_0 q0) (hb0 : Box (.ptr i0 0) [q0, .lit (.int .i64 a0_1)] S0) {a1_0 : Int} {a1_1 : Int} {a1_2 : Int} {a2 : Int} {r : Int × (List ITerm)} (H : spec_l2Cond.f k l0_0 a0_1 a1_0 a1_1 a1_2 a2 = some r) : RetS Try.prog 120 [.ptr i0 0, .agg [.lit (.int .i64 a1_0), .lit (.int .i64 a1_1), .lit (.int .i64 a1_2)], .lit (.int .i64 a2)] S0 fun v S => Sl cITerm r.2 v ∧ Box (.ptr i0 0) [q0, .lit (.int .i64 r.1)] S ∧ Same S0 S [i0] := by
 have hs0 : Same S0 S0 [i0] := .refl _ _
 unfold spec_l2Cond.f at H
 refine RetS.intro Try.func120 rfl (Nat.le_of_ble_eq_true rfl) rfl ?_
 rw [tm3]
 refine Evr.sr rfl (Opl.box (cs := [.lit (.int .i64 a1_0), .lit (.int .i64 a1_1), .lit (.int .i64 a1_2)]) rfl rfl rfl rfl ?_)
 rintro i1 S h1 u1 w1
 have ap1 := w1.sameP hs0
 have h2 := u1.sameP hs0 ap1
 have ap2 := w1.box hb0
 have h3 := u1.box hb0 ap2
 refine Opl.p1 (n := Opl.nil (Evr.seq (Evr.regionL [(9, .m), (1, .q), (4, .q), (6, .q)] rfl (by kernel_rfl) (Opl.p1 (v := .ptr i1 0) (n := Opl.ldbk (v := .lit (.int .i64 a1_0)) h1 rd3 rfl T3 rfl rfl rfl rfl (Opl.p1 (n := Opl.p1 (v := .ptr i1 1) (n := Opl.ldbk (v := .lit (.int .i64 a1_1)) h1 rd3 rfl T3 rfl rfl rfl rfl (Opl.p1 (v := .ptr i1 0) (n := Opl.ldbk (v := .lit (.int .i64 a1_0)) h1 rd3 rfl T3 rfl rfl rfl rfl (Opl.subi (k := .i64) (a := a1_1) (b := a1_0) K3 rfl rfl rfl rfl (Opl.add (k := .i64) (a := (wrap64 (a1_1 - a1_0))) (b := 1) K3 rfl rfl rfl rfl ?_))))))))))))
 obtain ⟨r1, h_r1, H⟩ := Option.bind_eq_some_iff.1 H
 refine Opl.callbm h3 (spec_l40Rd_pick.evb hq0 h3 h_r1) rfl rfl rfl rfl rfl ?_
 rintro _ S rfl h4 u2
 have h5 := u2.sameP h2 OutT.box
 have h6 := u2.box h1 (ap2.symm).pt
 refine Opl.add (k := .i64) (a := a1_0) (b := r1.2) K3 rfl rfl rfl rfl (Opl.one (v := .lit (.int .i64 (wrap64 (a1_0 + r1.2)))) rfl rfl rfl (Opl.nil (Evr.sr rfl (Opl.one (v := .ptr i0 0) rfl rfl rfl (Opl.litf (M := (cInt .i64)) (ys := [6, 5, 5, 6]) [.const (.int .i64 6), .const (.int .i64 5), .const (.int .i64 5), .const (.int .i64 6)] K29 T3 rfl rfl rfl (by exact ⟨rfl, rfl, rfl, rfl, trivial⟩) rfl (by decide) rfl rfl rfl ?_)))))
 rintro pv2 pv3 S h7 u3 w2
 have ap3 := w2.sameP h5
 have h8 := u3.sameP h5 ap3
 have ap4 := w2.box h4
 have h9 := u3.box h4 ap4
 have ap5 := w2.box h6
 have h10 := u3.box h6 ap5
 obtain ⟨r2, h_r2, H⟩ := Option.bind_eq_some_iff.1 H
 refine Opl.calls (spec_l40Rd_num.evb hq0 h9 h7 h_r2) rfl rfl rfl rfl rfl ?_
 rintro _ S ⟨rfl, h11, u4⟩
 have h12 := u4.sameP h8 OutT.box
 have h13 := u4.box h10 (ap2.symm).pt
 refine Opl.one (v := .lit (.int .i64 r2.2)) rfl rfl rfl (Opl.nil (Evr.sr rfl (Opl.one (v := .lit (.int .i64 a2)) rfl rfl rfl ?_)))
 obtain ⟨r3, h_r3, H⟩ := Option.bind_eq_some_iff.1 H
 refine Opl.call (spec_l2VarOf.ev h_r3) rfl rfl rfl rfl ⟨(.lit _), trivial⟩ (by decide) ?_
 rintro _ ⟨_, _, _, _, rfl, rfl, rfl, rfl, rfl⟩
 refine Opl.one (v := .lit (.int .i64 (wrap64 (a1_0 + r1.2)))) rfl rfl rfl ?_
 obtain ⟨r4, h_r4, H⟩ := Option.bind_eq_some_iff.1 H
 refine Opl.call (spec_l2Const.ev h_r4) rfl rfl rfl rfl ⟨(.lit _), trivial⟩ (by decide) ?_
 rintro _ ⟨_, _, _, _, rfl, rfl, rfl, rfl, rfl⟩
 refine Opl.one (v := .lit (.int .i64 r2.2)) rfl rfl rfl (Opl.p1 (v := .agg [.lit (.int .i64 r2.2), .lit (.int .i64 0), .lit (.int .i64 0), .lit (.int .i64 1)]) (n := Opl.lits (M := cITerm) (ys := [(⟨r3.1, r3.2.1, r3.2.2.1, r3.2.2.2⟩ : ITerm), (⟨r4.1, r4.2.1, r4.2.2.1, r4.2.2.2⟩ : ITerm), (⟨r2.2, 0, 0, 1⟩ : ITerm)]) [.tmp 25, .tmp 27, .tmp 29] K44 T95 rfl rfl rfl (by exact ⟨cITerm_mk, cITerm_mk, cITerm_mk, trivial⟩) rfl (by decide) rfl rfl rfl ?_))
 rintro pv6 S h16 u5 w3
 have ap6 := w3.sameP h12
 have h17 := u5.sameP h12 ap6
 have ap7 := w3.box h11
 have h18 := u5.box h11 ap7
 have ap8 := w3.box h13
 have h19 := u5.box h13 ap8
 refine Opl.one (v := pv6) rfl rfl rfl (Opl.nil (Evr.seq (Evr.sr rfl (Opl.one (v := .ptr i0 0) rfl rfl rfl ?_))))
 obtain ⟨r5, h_r5, H⟩ := Option.bind_eq_some_iff.1 H
 refine Opl.calls (spec_l40Rd_pick.evb hq0 h18 h_r5) rfl rfl rfl rfl rfl ?_
 rintro _ S ⟨rfl, h20, u6⟩
 have h21 := u6.sameP h17 OutT.box
 have h22 := u6.box h19 (ap2.symm).pt
 have h23 := u6.vec h16 (ap7.symm).pt
 refine Opl.p1 (n := Opl.nil ?_)
 by_cases c1 : r5.2 = 0
 case neg =>
  rw [if_neg c1] at H
  have e2 : (r5.2 == 0) = false := by simpa using c1
  try rw [e2]
  refine Evr.condF rfl (Evr.skip (Evr.sr rfl (Opl.one (v := pv6) rfl rfl rfl (Opl.one (v := pv6) rfl rfl rfl (Opl.nil ?_)))))
  refine Evr.frz 6 h23 rfl ?_
  rintro pv10 S h39 u10
  have h40 := u10.sameP h21 ap6
  have h41 := u10.box h20 ap7
  have h42 := u10.box h22 ap8
  obtain rfl := Option.some.inj H
  refine Evr.ret1 Try.func120 rfl ?_
  exact ⟨h39, h41, h40⟩
 rw [if_pos c1] at H
 have e1 : (r5.2 == 0) = true := by simpa using c1
 try rw [e1]
 refine Evr.condT rfl (Evr.regionN rfl (Opl.one (v := pv6) rfl rfl rfl (Opl.p1 (v := .agg [.lit (.int .i64 7), .lit (.int .i64 0), .lit (.int .i64 2), .lit (.int .i64 2)]) (n := Opl.lits (M := cITerm) (ys := [(⟨7, 0, 2, 2⟩ : ITerm)]) [.tmp 35] K44 T95 rfl rfl rfl (by exact ⟨cITerm_mk, trivial⟩) rfl (by decide) rfl rfl rfl ?_))))
 rintro pv7 S h24 u7 w4
 have ap9 := w4.sameP h21
 have h25 := u7.sameP h21 ap9
 have ap10 := w4.box h20
 have h26 := u7.box h20 ap10
 have ap11 := w4.box h22
 have h27 := u7.box h22 ap11
 have ap12 := w4.vec h23
 have h28 := u7.vec h23 ap12
 obtain ⟨c2, H⟩ := peel H
 refine Opl.app (M := cITerm) (xs := [(⟨r3.1, r3.2.1, r3.2.2.1, r3.2.2.2⟩ : ITerm), (⟨r4.1, r4.2.1, r4.2.2.1, r4.2.2.2⟩ : ITerm), (⟨r2.2, 0, 0, 1⟩ : ITerm)]) (ys := [(⟨7, 0, 2, 2⟩ : ITerm)]) (v := pv6) h28 (.vec h24) oITerm rfl rfl K44 T95 rfl rfl (by (try simp only [List.length_cons, List.length_nil]); omega) (by show (_ + _) * 32 ≤ 140737488355328; (try simp only [List.length_cons, List.length_nil]); omega) rfl rfl rfl rfl rfl ?_
 rintro pv8 S h29 u8 w5
 have ap13 := w5.sameP h25
 have h30 := u8.sameP h25 ap6
 have ap14 := w5.box h26
 have h31 := u8.box h26 ap7
 have ap15 := w5.box h27
 have h32 := u8.box h27 ap8
 have ap16 := w5.vec h24
 have h33 := u8.vec h24 ap12.symm
 refine Opl.one (v := pv8) rfl rfl rfl (Opl.nil (Evr.sr rfl (Opl.one (v := pv8) rfl rfl rfl (Opl.one (v := pv8) rfl rfl rfl (Opl.nil ?_)))))
 refine Evr.frz 6 h29 rfl ?_
 rintro pv9 S h34 u9
 have h35 := u9.sameP h30 ap13
 have h36 := u9.box h31 ap14
 have h37 := u9.box h32 ap15
 have h38 := u9.vec h33 ap16
 obtain rfl := Option.some.inj H
 refine Evr.ret1 Try.func120 rfl ?_
 exact ⟨h34, h36, h35⟩
theorem spec_l2When.evv {k : Nat} {S0 : Sto} {l0_0 : List Int} {a0_1 : Int} {i0 : Abs.Id} {q0 : PV} (hq0 : Sl (cInt .u8) l0_0 q0) (hb0 : Box (.ptr i0 0) [q0, .lit (.int .i64 a0_1)] S0) {l1 : List IVar} {v1 : PV} (hv1 : Vec cIVar l1 v1 S0) (pa1 : Ap v1 (.ptr i0 0)) {r : Int × (List ITerm)} (H : spec_l2When.f k l0_0 a0_1 l1 = some r) : RetS Try.prog 79 [.ptr i0 0, v1] S0 fun v S => Sl cITerm r.2 v ∧ Box (.ptr i0 0) [q0, .lit (.int .i64 r.1)] S ∧ Same S0 S [i0] := by
 have hs0 : Same S0 S0 [i0] := .refl _ _
 unfold spec_l2When.f at H
 refine RetS.intro Try.func79 rfl (Nat.le_of_ble_eq_true rfl) rfl ?_
 rw [tm2]
 refine Evr.sr rfl (Opl.p1 (n := Opl.nil (Evr.sr rfl (Opl.p1 (n := Opl.p1 (n := Opl.lenv (xs := l1) (by exact hv1) K23 rfl rfl rfl rfl ?_))))))
 obtain ⟨r1, h_r1, H⟩ := Option.bind_eq_some_iff.1 H
 refine Opl.calls (spec_l40Rd_pick.evb hq0 hb0 h_r1) rfl rfl rfl rfl rfl ?_
 rintro _ S ⟨rfl, h1, u1⟩
 have h2 := u1.sameP hs0 OutT.box
 have h3 := u1.vec hv1 (pa1).pt
 refine Opl.p1 (n := Opl.nil (Evr.sr rfl (Opl.p1 (n := Opl.p1 (n := Opl.p1 (n := ?_))))))
 obtain ⟨c1, H⟩ := peel H
 obtain ⟨c2, H⟩ := peel H
 refine Opl.idv (M := cIVar) (xs := l1) (j := r1.2) (v := v1) h3 rfl rfl (by omega) (by omega) K23 Z61 rfl rfl ?_
 rintro d1 z1 q1 h4 h5
 refine Opl.ldv (M := cIVar) (xs := l1) (j := r1.2) zIVar h4 h5 (by omega) (by omega) rfl T61 rfl rfl rfl ?_
 rintro p1 q2 h6
 obtain rfl := cIVar_R (x := (rd_IVar l1 r1.2)) h6
 refine ⟨.agg [.lit (.int .i64 ((rd_IVar l1 r1.2).f0)), .lit (.int .i64 ((rd_IVar l1 r1.2).f1)), .lit (.int .i64 ((rd_IVar l1 r1.2).f2))], rfl, ?_⟩
 refine Opl.p1 (n := ?_)
 obtain ⟨r2, h_r2, H⟩ := Option.bind_eq_some_iff.1 H
 refine Opl.calls (spec_l2Cond.evb hq0 h1 h_r2) rfl rfl rfl rfl rfl ?_
 rintro pv1 S ⟨h7, h8, u2⟩
 have h9 := u2.sameP h2 OutT.box
 have h10 := u2.vec h3 (pa1).pt
 refine Opl.p1 (n := Opl.nil (Evr.seq (Evr.sr rfl (Opl.p1 (n := ?_)))))
 obtain ⟨r3, h_r3, H⟩ := Option.bind_eq_some_iff.1 H
 refine Opl.calls (spec_l40Rd_pick.evb hq0 h8 h_r3) rfl rfl rfl rfl rfl ?_
 rintro _ S ⟨rfl, h11, u3⟩
 have h12 := u3.sameP h9 OutT.box
 have h13 := u3.vec h10 (pa1).pt
 refine Opl.p1 (n := Opl.nil ?_)
 by_cases c3 : r3.2 = 0
 case neg =>
  rw [if_neg c3] at H
  have e2 : (r3.2 == 0) = false := by simpa using c3
  try rw [e2]
  refine Evr.condF rfl (Evr.skip (Evr.sr rfl (Opl.p1 (n := Opl.p1 (n := Opl.nil ?_)))))
  obtain rfl := Option.some.inj H
  refine Evr.ret1 Try.func79 rfl ?_
  exact ⟨h7, h11, h12⟩
 rw [if_pos c3] at H
 have e1 : (r3.2 == 0) = true := by simpa using c3
 try rw [e1]
 refine Evr.condT rfl (Evr.sr rfl (Opl.p1 (n := Opl.p1 (n := Opl.lenv (xs := l1) (by exact h13) K23 rfl rfl rfl rfl ?_))))
 obtain ⟨r4, h_r4, H⟩ := Option.bind_eq_some_iff.1 H
 refine Opl.calls (spec_l40Rd_pick.evb hq0 h11 h_r4) rfl rfl rfl rfl rfl ?_
 rintro _ S ⟨rfl, h14, u4⟩
 have h15 := u4.sameP h12 OutT.box
 have h16 := u4.vec h13 (pa1).pt
 refine Opl.p1 (n := Opl.nil (Evr.regionL [(2, .m), (10, .m), (8, .q), (1, .m)] rfl (by kernel_rfl) (Opl.p1 (n := Opl.litm (M := (cInt .i64)) (ys := [8, 9, 8]) [.const (.int .i64 8), .const (.int .i64 9), .const (.int .i64 8)] K29 T3 rfl rfl rfl (by exact ⟨rfl, rfl, rfl, trivial⟩) rfl (by decide) rfl rfl rfl ?_))))
 rintro pv3 S h17 g1
 have h18 := g1.sameP h15
 have h19 := g1.box h14
 have h20 := g1.vec h16
 obtain ⟨r5, h_r5, H⟩ := Option.bind_eq_some_iff.1 H
 refine Opl.callbm h19 (spec_l40Rd_num.evb hq0 h19 h17 h_r5) rfl rfl rfl rfl rfl ?_
 rintro _ S rfl h21 u5
 have h22 := u5.sameP h18 OutT.box
 have h23 := u5.vec h20 (pa1).pt
 refine Opl.p1 (n := Opl.p1 (n := Opl.p1 (n := Opl.p1 (n := ?_))))
 obtain ⟨c4, H⟩ := peel H
 obtain ⟨c5, H⟩ := peel H
 refine Opl.idv (M := cIVar) (xs := l1) (j := r4.2) (v := v1) h23 rfl rfl (by omega) (by omega) K23 Z61 rfl rfl ?_
 rintro d2 z2 q3 h24 h25
 refine Opl.ldvk (M := cIVar) (xs := l1) (j := r4.2) 0 zIVar h24 h25 (by omega) (by omega) (by decide) rfl T61 rfl rfl rfl ?_
 rintro p2 q4 h26
 obtain rfl := cIVar_R (x := (rd_IVar l1 r4.2)) h26
 refine ⟨.agg [.lit (.int .i64 ((rd_IVar l1 r4.2).f0)), .lit (.int .i64 ((rd_IVar l1 r4.2).f1)), .lit (.int .i64 ((rd_IVar l1 r4.2).f2))], rfl, ?_⟩
 refine Opl.p1 (n := ?_)
 obtain ⟨r6, h_r6, H⟩ := Option.bind_eq_some_iff.1 H
 refine Opl.callbm h21 (spec_l2Cond.evb hq0 h21 h_r6) rfl rfl rfl rfl rfl ?_
 rintro pv4 S h27 h28 u6
 have h29 := u6.sameP h22 OutT.box
 have h30 := u6.vec h23 (pa1).pt
 refine Opl.p1 (n := Opl.lenv (xs := l1) (by exact h30) K23 rfl rfl rfl rfl ?_)
 obtain ⟨r7, h_r7, H⟩ := Option.bind_eq_some_iff.1 H
 refine Opl.call ((spec_Joined.ev h7 h27 h_r7).mono fun _ _ h => Out.vec h) rfl rfl rfl rfl ⟨(.lit _), h7.plain, h27.plain, (.lit _), trivial⟩ (by decide) ?_
 rintro pv5 h31
 refine Opl.p1 (n := Opl.nil (Evr.sr rfl (Opl.p1 (n := Opl.p1 (n := Opl.nil ?_)))))
 obtain rfl := Option.some.inj H
 refine Evr.ret1 Try.func79 rfl ?_
 exact ⟨h31, h28, h29⟩
theorem spec_l2Rules.evv {k : Nat} {S0 : Sto} {l0_0 : List Int} {a0_1 : Int} {i0 : Abs.Id} {q0 : PV} (hq0 : Sl (cInt .u8) l0_0 q0) (hb0 : Box (.ptr i0 0) [q0, .lit (.int .i64 a0_1)] S0) {l1 : List IVar} {v1 : PV} (hv1 : Vec cIVar l1 v1 S0) (pa1 : Ap v1 (.ptr i0 0)) {a2 : Int} {r : Int × (List IRule)} (H : spec_l2Rules.f k l0_0 a0_1 l1 a2 = some r) : RetS Try.prog 122 [.ptr i0 0, v1, .lit (.int .i64 a2)] S0 fun v S => ∃ idsv, (oRow odIRule).R S idsv r.2 [v] ∧ Fresh S0 idsv ∧ Box (.ptr i0 0) [q0, .lit (.int .i64 r.1)] S ∧ Same S0 S [i0] := by
 have hs0 : Same S0 S0 [i0] := .refl _ _
 unfold spec_l2Rules.f at H
 refine RetS.intro Try.func122 rfl (Nat.le_of_ble_eq_true rfl) rfl ?_
 rw [tm3]
 refine Evr.sr rfl (Opl.p1 (n := Opl.nil (Evr.sr rfl (Opl.litt (N := odIRule) (ys := ([] : List IRule)) (idy := []) [] K24 T72 rfl rfl rfl (fun x hx => by cases hx) ⟨rfl, rfl⟩ rfl rfl (Nat.le_of_ble_eq_true rfl) rfl rfl rfl ?_))))
 rintro pv2 S ids1 h1 f1 u1 w1
 have ap1 := w1.sameP hs0
 have ap2 := f1.sameP OutT.nil hs0
 have h2 := u1.sameP hs0 ap1
 have ap3 := w1.box hb0
 have ap4 := f1.box ApT.nil hb0
 have h3 := u1.box hb0 ap3
 have ap5 := w1.vec hv1
 have ap6 := f1.vec ApT.nil hv1
 have h4 := u1.vec hv1 ap5
 refine Opl.p1 (n := Opl.nil (Evr.seq (Evr.sr rfl (Opl.p1 (n := Opl.nil (Evr.block ?_))))))
 refine Evr.loop (Evr.rounds (n := k) (Inv := fun n tm S => n ≤ k ∧ ∃ (x0b1q2_1 : Int) (x7_1 : List IRule) (x8_1 : Int) (pv3 : PV) (pv4 : PV) (ids2 : List Abs.Id), spec_l2Rules.l1 n x0b1q2_1 x7_1 x8_1 l0_0 l1 a2 = some r ∧ Has tm [(0, .ptr i0 0), (1, pv3), (2, .lit (.int .i64 a2)), (7, pv4), (8, .lit (.int .i64 x8_1))] ∧ Box (.ptr i0 0) [q0, .lit (.int .i64 x0b1q2_1)] S ∧ Vec cIVar l1 pv3 S ∧ (oRow odIRule).R S ids2 x7_1 [pv4] ∧ Same S0 S [i0] ∧ OutT S0 [i0] ids2 ∧ Ap (.ptr i0 0) pv3 ∧ ApT (.ptr i0 0) ids2 ∧ ApT pv3 ids2) ?_ ?_ ?_)
 · exact ⟨Nat.le_refl _, _, _, _, _, _, _, H, ⟨rfl, rfl, rfl, rfl, rfl, trivial⟩, h3, h4, h1, h2, ap2, pa1.symm, ap4, ap6⟩
 ·
  rintro tm S ⟨_, _, _, _, _, _, _, H, -⟩
  simp [spec_l2Rules.l1] at H
 ·
  rintro n1 ih1 tm S ⟨hle, x0b1q2_1, x7_1, x8_1, pv3, pv4, ids2, H, hh, h5, h6, h7, h8, o1, ap7, ap8, ap9⟩
  simp only [spec_l2Rules.l1] at H
  rw [hh.eq]
  refine Evr.seq (Evr.sr rfl (Opl.p1 (n := Opl.p1 (n := Opl.p1 (n := Opl.nil ?_)))))
  by_cases c1 : x8_1 < a2
  case neg =>
   rw [if_neg c1] at H
   have e12 : (decide (x8_1 < a2)) = false := by simpa using c1
   try rw [e12]
   refine Evr.condF rfl (Evr.exit rfl (Evr.sr rfl (Opl.p1 (n := Opl.p1 (n := Opl.nil ?_)))))
   obtain rfl := Option.some.inj H
   refine Evr.ret1 Try.func122 rfl ?_
   exact ⟨_, h7, (OutT.fresh o1 ap8), h5, h8⟩
  rw [if_pos c1] at H
  have e1 : (decide (x8_1 < a2)) = true := by simpa using c1
  try rw [e1]
  refine Evr.condT rfl (Evr.skip (Evr.seq (Evr.block (Evr.sr rfl (Opl.p1 (n := Opl.p1 (n := ?_)))))))
  obtain ⟨r1, h_r1, H⟩ := Option.bind_eq_some_iff.1 H
  refine Opl.calls (spec_l2When.evv hq0 h5 h6 ap7.symm h_r1) rfl rfl rfl rfl rfl ?_
  rintro pv5 S ⟨h9, h10, u2⟩
  have h11 := u2.vec h6 (ap7.symm).pt
  have h12 := u2.tree h7 (ap8).pt
  have h13 := u2.sameP h8 OutT.box
  refine Opl.one (v := .agg [pv5, .lit (.slice none 0 0), .lit (.slice none 0 0)]) rfl rfl (by simp only [go_sem]; simp only [fillL, Sl.cells h9]; rfl) (Opl.alloc T72 rfl rfl rfl ?_)
  rintro i1 S h14 u3 w2
  have ap10 := w2.box h10
  have h15 := u3.box h10 ap10
  have ap11 := w2.vec h11
  have h16 := u3.vec h11 ap11
  have ap12 := w2.tree h12
  have h17 := u3.tree h12 ap12
  have ap13 := w2.sameP h13
  have h18 := u3.sameP h13 ap13
  refine Opl.stb (vs := [pv5, .lit (.slice none 0 0), .lit (.slice none 0 0)]) h14 rfl rfl Z72 rfl (Nat.le_of_ble_eq_true rfl) (by simp only [List.all_cons, List.all_nil, h9.one, Bool.and_true, Bool.true_and] <;> rfl) rfl rfl rfl ?_
  rintro S (h19 : Box (.ptr i1 0) [pv5, .lit (.slice none 0 0), .lit (.slice none 0 0)] _) u4
  have h20 := u4.box h15 ap10
  have h21 := u4.vec h16 ap11
  have h22 := u4.tree h17 ap12
  have h23 := u4.sameP h18 ap13
  refine Opl.nil (Evr.seq (Evr.sr rfl (Opl.p1 (n := Opl.nil (Evr.block ?_)))))
  refine Evr.loop (Evr.rounds (n := n1) (Inv := fun n tm S => n ≤ n1 ∧ ∃ (x0b1q3_1 : Int) (x9b1q2_1 : List Int) (x9b2q2_1 : List (List ITerm)) (x10q2_1 : Int) (pv6 : PV) (pv7 : PV) (ids3 : List Abs.Id) (pv8 : PV) (pv9 : PV) (i2 : Abs.Id), spec_l2Rules.l2 n x0b1q3_1 x9b1q2_1 x9b2q2_1 x10q2_1 l0_0 l1 a2 x7_1 x8_1 r1 = some r ∧ Has tm [(0, .ptr i0 0), (1, pv6), (2, .lit (.int .i64 a2)), (7, pv7), (8, .lit (.int .i64 x8_1)), (9, .ptr i2 0), (10, .lit (.int .i64 x10q2_1))] ∧ Box (.ptr i0 0) [q0, .lit (.int .i64 x0b1q3_1)] S ∧ Vec cIVar l1 pv6 S ∧ (oRow odIRule).R S ids3 x7_1 [pv7] ∧ Vec (cInt .i64) x9b1q2_1 pv8 S ∧ Vec (cSl cITerm) x9b2q2_1 pv9 S ∧ Box (.ptr i2 0) [pv5, pv8, pv9] S ∧ Same S0 S [i0] ∧ OutT S0 [i0] ids3 ∧ OutT S0 [i0] (PV.id? pv8).toList ∧ OutT S0 [i0] (PV.id? pv9).toList ∧ OutT S0 [i0] (PV.ptr i2 0).id?.toList ∧ Ap (.ptr i0 0) pv6 ∧ ApT (.ptr i0 0) ids3 ∧ Ap (.ptr i0 0) pv8 ∧ Ap (.ptr i0 0) pv9 ∧ Ap (.ptr i0 0) (.ptr i2 0) ∧ ApT pv6 ids3 ∧ Ap pv6 pv8 ∧ Ap pv6 pv9 ∧ Ap pv6 (.ptr i2 0) ∧ ApT pv8 ids3 ∧ ApT pv9 ids3 ∧ ApT (.ptr i2 0) ids3 ∧ Ap pv8 pv9 ∧ Ap pv8 (.ptr i2 0) ∧ Ap pv9 (.ptr i2 0)) ?_ ?_ ?_)
  · exact ⟨Nat.le_refl _, _, _, _, _, _, _, _, _, _, _, H, ⟨rfl, rfl, rfl, rfl, rfl, rfl, rfl, trivial⟩, h20, h21, h22, .nil, .nil, h19, h23, o1, OutT.lit, OutT.lit, ap13, ap7, ap8, Ap.nil.symm, Ap.nil.symm, ap10, ap9, Ap.nil.symm, Ap.nil.symm, ap11, ApT.lit, ApT.lit, ap12, .nil, .nil, .nil⟩
  ·
   rintro tm S ⟨_, _, _, _, _, _, _, _, _, _, _, H, -⟩
   simp [spec_l2Rules.l2] at H
  ·
   rintro n2 ih2 tm S ⟨hle, x0b1q3_1, x9b1q2_1, x9b2q2_1, x10q2_1, pv6, pv7, ids3, pv8, pv9, i2, H, hh, h24, h25, h26, h28, h29, h27, h30, o2, o3, o4, o5, ap14, ap15, ap16, ap17, ap18, ap19, ap20, ap21, ap22, ap23, ap24, ap25, ap26, ap27, ap28⟩
   simp only [spec_l2Rules.l2] at H
   rw [hh.eq]
   refine Evr.seq (Evr.sr rfl (Opl.p1 (n := Opl.p1 (n := Opl.lenv (xs := l1) (by exact h25) K23 rfl rfl rfl rfl (Opl.p1 (n := Opl.nil ?_))))))
   by_cases c2 : x10q2_1 < (l1.length : Int)
   case neg =>
    rw [if_neg c2] at H
    have e11 : (decide (x10q2_1 < (l1.length : Int))) = false := by simpa using c2
    try rw [e11]
    refine Evr.condF rfl (Evr.exit rfl (Evr.regionN rfl (Opl.p1 (n := Opl.ldb (v := .agg [pv5, pv8, pv9]) h27 rfl T72 rfl rfl rfl rfl (Opl.litt (N := odIRule) (ys := [(⟨r1.2, x9b1q2_1, x9b2q2_1⟩ : IRule)]) (idy := ((PV.id? (pv8)).toList ++ (PV.id? (pv9)).toList)) [.tmp 67] K24 T72 rfl rfl rfl (fun x hx => by obtain rfl := List.mem_singleton.1 hx; rfl) (by exact RowsO.one (odIRule_mk h9 h28 h29 ap26)) rfl rfl (Nat.le_of_ble_eq_true rfl) rfl rfl rfl ?_)))))
    rintro pv31 S ids6 h175 f2 u19 w14
    have ap101 := w14.box h24
    have ap102 := f2.box (ap16.apT.app ap17.apT) h24
    have h176 := u19.box h24 ap101
    have ap103 := w14.vec h25
    have ap104 := f2.vec (ap20.apT.app ap21.apT) h25
    have h177 := u19.vec h25 ap103
    have ap105 := w14.tree h26
    have ap106 := f2.tree (ap23.apt.app ap24.apt) h26
    have h178 := u19.tree h26 ap105
    have ap107 := w14.box h27
    have ap108 := f2.box (ap27.symm.apT.app ap28.symm.apT) h27
    have h179 := u19.box h27 ap107
    have ap109 := w14.sameP h30
    have ap110 := f2.sameP (o3.app o4) h30
    have h180 := u19.sameP h30 ap109
    obtain ⟨c11, H⟩ := peel H
    refine Opl.appt (N := odIRule) (xs := x7_1) (ys := [(⟨r1.2, x9b1q2_1, x9b2q2_1⟩ : IRule)]) h178 h175 ap106 rfl rfl K24 T72 rfl rfl (by (try simp only [List.length_cons, List.length_nil]); omega) (by show (_ + _) * 72 ≤ 140737488355328; (try simp only [List.length_cons, List.length_nil]); omega) rfl rfl rfl rfl rfl ?_
    rintro pv32 S ids7 h181 f3 u20 w15
    have ap111 := Ap.of_tree h178 ap15
    have ap112 := f3.box (ap15.app ap102) h176
    have h182 := u20.box h176 ap111
    have ap113 := Ap.of_tree h178 ap19
    have ap114 := f3.vec (ap19.app ap104) h177
    have h183 := u20.vec h177 ap113
    have ap115 := Ap.of_tree h178 ap25
    have ap116 := f3.box (ap25.app ap108) h179
    have h184 := u20.box h179 ap115
    have ap117 := OutT.of_tree h178 o2
    have ap118 := f3.sameP (o2.app ap110) h180
    have h185 := u20.sameP h180 ap117
    refine Opl.p1 (n := Opl.nil (Evr.inBlock (Evr.regionN rfl (Opl.p1 (n := Opl.add (k := .i64) (a := x8_1) (b := 1) K3 rfl rfl rfl rfl (Opl.one (v := .lit (.int .i64 (wrap64 (x8_1 + 1)))) rfl rfl rfl (Opl.nil ?_)))))))
    exact ih1 _ (by omega) _ _ ⟨by omega, _, _, _, _, _, _, H, ⟨rfl, rfl, rfl, rfl, rfl, trivial⟩, h182, h183, h181, h185, ap118, ap14, ap112, ap114⟩
   rw [if_pos c2] at H
   have e2 : (decide (x10q2_1 < (l1.length : Int))) = true := by simpa using c2
   try rw [e2]
   refine Evr.condT rfl (Evr.skip (Evr.seq (Evr.block (Evr.seq ?_))))
   refine Evr.join2 (fun tm S => ∃ (kq1 : Nat) (x0b1q3_2 : Int) (x9b1q2_2 : List Int) (x9b2q2_2 : List (List ITerm)) (pv10 : PV) (pv11 : PV) (ids4 : List Abs.Id) (pv12 : PV) (pv13 : PV) (i3 : Abs.Id), spec_l2Rules.l2 kq1 x0b1q3_2 x9b1q2_2 x9b2q2_2 (wrap64 (x10q2_1 + 1)) l0_0 l1 a2 x7_1 x8_1 r1 = some r ∧ kq1 ≤ n2 ∧ Has tm [(0, .ptr i0 0), (1, pv10), (2, .lit (.int .i64 a2)), (7, pv11), (8, .lit (.int .i64 x8_1)), (9, .ptr i3 0), (10, .lit (.int .i64 x10q2_1))] ∧ Box (.ptr i0 0) [q0, .lit (.int .i64 x0b1q3_2)] S ∧ Vec cIVar l1 pv10 S ∧ (oRow odIRule).R S ids4 x7_1 [pv11] ∧ Vec (cInt .i64) x9b1q2_2 pv12 S ∧ Vec (cSl cITerm) x9b2q2_2 pv13 S ∧ Box (.ptr i3 0) [pv5, pv12, pv13] S ∧ Same S0 S [i0] ∧ OutT S0 [i0] ids4 ∧ OutT S0 [i0] (PV.id? pv12).toList ∧ OutT S0 [i0] (PV.id? pv13).toList ∧ OutT S0 [i0] (PV.ptr i3 0).id?.toList ∧ Ap (.ptr i0 0) pv10 ∧ ApT (.ptr i0 0) ids4 ∧ Ap (.ptr i0 0) pv12 ∧ Ap (.ptr i0 0) pv13 ∧ Ap (.ptr i0 0) (.ptr i3 0) ∧ ApT pv10 ids4 ∧ Ap pv10 pv12 ∧ Ap pv10 pv13 ∧ Ap pv10 (.ptr i3 0) ∧ ApT pv12 ids4 ∧ ApT pv13 ids4 ∧ ApT (.ptr i3 0) ids4 ∧ Ap pv12 pv13 ∧ Ap pv12 (.ptr i3 0) ∧ Ap pv13 (.ptr i3 0)) ?_ fun hk1 => ?_
   ·
    rintro tm S ⟨kq1, x0b1q3_2, x9b1q2_2, x9b2q2_2, pv10, pv11, ids4, pv12, pv13, i3, H, hle, hh, h31, h32, h33, h35, h36, h34, h37, o6, o7, o8, o9, ap29, ap30, ap31, ap32, ap33, ap34, ap35, ap36, ap37, ap38, ap39, ap40, ap41, ap42, ap43⟩
    rw [hh.eq]
    refine Evr.inBlock (Evr.regionN rfl (Opl.p1 (n := Opl.add (k := .i64) (a := x10q2_1) (b := 1) K3 rfl rfl rfl rfl (Opl.one (v := .lit (.int .i64 (wrap64 (x10q2_1 + 1)))) rfl rfl rfl (Opl.nil ?_)))))
    exact ih2 _ (by omega) _ _ ⟨by omega, _, _, _, _, _, _, _, _, _, _, H, ⟨rfl, rfl, rfl, rfl, rfl, rfl, rfl, trivial⟩, h31, h32, h33, h35, h36, h34, h37, o6, o7, o8, o9, ap29, ap30, ap31, ap32, ap33, ap34, ap35, ap36, ap37, ap38, ap39, ap40, ap41, ap42, ap43⟩
   ·
    refine Evr.regionN rfl (Opl.p1 (n := Opl.p1 (n := Opl.lenv (xs := l1) (by exact h25) K23 rfl rfl rfl rfl (Opl.add (k := .i64) (a := (l1.length : Int)) (b := 1) K3 rfl rfl rfl rfl ?_))))
    obtain ⟨r2, h_r2, H⟩ := Option.bind_eq_some_iff.1 H
    refine Opl.calls (spec_l40Rd_pick.evb hq0 h24 h_r2) rfl rfl rfl rfl rfl ?_
    rintro _ S ⟨rfl, h38, u5⟩
    have h39 := u5.vec h25 (ap14.symm).pt
    have h40 := u5.tree h26 (ap15).pt
    have h41 := u5.vec h28 (ap16.symm).pt
    have h42 := u5.vec h29 (ap17.symm).pt
    have h43 := u5.box h27 (ap18.symm).pt
    have h44 := u5.sameP h30 OutT.box
    refine Opl.p1 (n := Opl.one (v := .lit (.bool (decide (r2.2 < 1)))) rfl rfl rfl ?_)
    by_cases c3 : r2.2 < 1
    case pos =>
     rw [if_pos c3] at H
     have e3 : (decide (r2.2 < 1)) = true := by simpa using c3
     try rw [e3]
     refine Opl.skp rfl (Opl.skp rfl (Opl.skp rfl (Opl.skp rfl (Opl.skp rfl (Opl.skp rfl (Opl.skp rfl (Opl.skp rfl (Opl.skp rfl (Opl.skp rfl (Opl.skp rfl (Opl.skp rfl (Opl.skp rfl (Opl.skp rfl (Opl.skp rfl (Opl.skp rfl (Opl.p1 (n := Opl.nil (Evr.condT rfl (Evr.sr rfl (Opl.p1 (v := .ptr i2 1) (n := Opl.ldb (v := pv8) h43 rfl T29 rfl rfl rfl rfl (Opl.one (v := .lit (.int .i64 x10q2_1)) rfl rfl rfl (Opl.lits (M := (cInt .i64)) (ys := [x10q2_1]) [.tmp 53] K29 T3 rfl rfl rfl (by exact ⟨rfl, trivial⟩) rfl (by decide) rfl rfl rfl ?_)))))))))))))))))))))))
     rintro pv14 S h45 u6 w4
     have ap44 := w4.box h38
     have h46 := u6.box h38 ap44
     have ap45 := w4.vec h39
     have h47 := u6.vec h39 ap45
     have ap46 := w4.tree h40
     have h48 := u6.tree h40 ap46
     have ap47 := w4.vec h41
     have h49 := u6.vec h41 ap47
     have ap48 := w4.vec h42
     have h50 := u6.vec h42 ap48
     have ap49 := w4.box h43
     have h51 := u6.box h43 ap49
     have ap50 := w4.sameP h44
     have h52 := u6.sameP h44 ap50
     obtain ⟨c4, H⟩ := peel H
     refine Opl.app (M := (cInt .i64)) (xs := x9b1q2_1) (ys := [x10q2_1]) (v := pv8) h49 (.vec h45) (oInt .i64) rfl rfl K29 T3 rfl rfl (by (try simp only [List.length_cons, List.length_nil]); omega) (by show (_ + _) * 8 ≤ 140737488355328; (try simp only [List.length_cons, List.length_nil]); omega) rfl rfl rfl rfl rfl ?_
     rintro pv15 S h53 u7 w5
     have ap51 := w5.box h46
     have h54 := u7.box h46 ap16
     have ap52 := w5.vec h47
     have h55 := u7.vec h47 ap20
     have ap53 := w5.tree h48
     have h56 := u7.tree h48 ap23
     have ap54 := w5.vec h50
     have h57 := u7.vec h50 ap26.symm
     have ap55 := w5.box h51
     have h58 := u7.box h51 ap27.symm
     have ap56 := w5.sameP h52
     have h59 := u7.sameP h52 o3
     have ap57 := w5.vec h45
     have h60 := u7.vec h45 ap47.symm
     refine Opl.p1 (v := .ptr i2 1) (n := Opl.stb (vs := [pv15]) h58 rfl (by exact Vec.cells h53) Z29 rfl (Nat.le_of_ble_eq_true rfl) (by simp only [List.all_cons, List.all_nil, Vec.one h53, Bool.and_true, Bool.true_and] <;> rfl) rfl rfl rfl ?_)
     rintro S (h61 : Box (.ptr i2 0) [pv5, pv15, pv9] _) u8
     have h62 := u8.box h54 ap18
     have h63 := u8.vec h55 ap22
     have h64 := u8.tree h56 ap25
     have h65 := u8.vec h57 ap28
     have h66 := u8.sameP h59 o5
     have h67 := u8.vec h60 ap49.symm
     have h68 := u8.vec h53 ap55.symm
     refine Opl.nil (Evr.regionL [(5, .m), (1, .q), (6, .m), (7, .m)] rfl (by kernel_rfl) (Opl.p1 (v := .ptr i2 2) (n := Opl.ldbk (v := pv9) h61 rd3 rfl T70 rfl rfl rfl rfl (Opl.one (v := .ptr i0 0) rfl rfl rfl (Opl.one (v := pv6) rfl rfl rfl (Opl.one (v := .lit (.int .i64 x10q2_1)) rfl rfl rfl ?_))))))
     obtain ⟨r3, h_r3, H⟩ := Option.bind_eq_some_iff.1 H
     refine Opl.callbm h62 (spec_l2Value.evv hq0 h62 h63 ap14.symm h_r3) rfl rfl rfl rfl rfl ?_
     rintro pv16 S h69 h70 u9
     have h71 := u9.vec h63 (ap14.symm).pt
     have h72 := u9.tree h64 (ap15).pt
     have h73 := u9.vec h65 (ap17.symm).pt
     have h74 := u9.box h61 (ap18.symm).pt
     have h75 := u9.sameP h66 OutT.box
     have h76 := u9.vec h67 (ap44.symm).pt
     have h77 := u9.vec h68 (ap51.symm).pt
     refine Opl.litm (M := (cSl cITerm)) (ys := [r3.2]) [.tmp 62] K70 T44 rfl rfl rfl (by exact ⟨⟨_, by first | rfl | exact h69.cells, h69⟩, trivial⟩) rfl (by decide) rfl rfl rfl ?_
     rintro pv18 S h78 g1
     have h79 := g1.box h70
     have h80 := g1.vec h71
     have h81 := g1.tree h72
     have h82 := g1.vec h73
     have h83 := g1.box h74
     have h84 := g1.sameP h75
     have h85 := g1.vec h76
     have h86 := g1.vec h77
     obtain ⟨c5, H⟩ := peel H
     refine Opl.appm rfl (M := (cSl cITerm)) (xs := x9b2q2_1) (ys := [r3.2]) (v := pv9) h82 (.sl h78) (oSl cITerm) rfl rfl K70 T44 rfl rfl (by (try simp only [List.length_cons, List.length_nil]); omega) (by show (_ + _) * 24 ≤ 140737488355328; (try simp only [List.length_cons, List.length_nil]); omega) rfl rfl rfl rfl rfl ?_
     rintro pv19 S h87 u10 w7
     have ap58 := w7.box h79
     have h88 := u10.box h79 ap17
     have ap59 := w7.vec h80
     have h89 := u10.vec h80 ap21
     have ap60 := w7.tree h81
     have h90 := u10.tree h81 ap24
     have ap61 := w7.box h83
     have h91 := u10.box h83 ap28.symm
     have ap62 := w7.sameP h84
     have h92 := u10.sameP h84 o4
     have ap63 := w7.vec h85
     have h93 := u10.vec h85 ap48.symm
     have ap64 := w7.vec h86
     have h94 := u10.vec h86 ap54.symm
     refine Opl.p1 (v := .ptr i2 2) (n := Opl.stb (vs := [pv19]) h91 rfl (by exact Vec.cells h87) Z70 rfl (Nat.le_of_ble_eq_true rfl) (by simp only [List.all_cons, List.all_nil, Vec.one h87, Bool.and_true, Bool.true_and] <;> rfl) rfl rfl rfl ?_)
     rintro S (h95 : Box (.ptr i2 0) [pv5, pv15, pv19] _) u11
     have h96 := u11.box h88 ap18
     have h97 := u11.vec h89 ap22
     have h98 := u11.tree h90 ap25
     have h99 := u11.sameP h92 o5
     have h100 := u11.vec h93 ap49.symm
     have h101 := u11.vec h94 ap55.symm
     have h102 := u11.vec h87 ap61.symm
     refine Opl.nil ?_
     exact hk1 _ _ ⟨_, _, _, _, _, _, _, _, _, _, H, by omega, ⟨rfl, rfl, rfl, rfl, rfl, rfl, rfl, trivial⟩, h96, h97, h98, h101, h102, h95, h99, o2, ap56, ap62, o5, ap14, ap15, ap51, ap58, ap18, ap19, ap52, ap59, ap22, ap53, ap60, ap25, ap64, ap55.symm, ap61.symm⟩
    rw [if_neg c3] at H
    have e4 : (decide (r2.2 < 1)) = false := by simpa using c3
    try rw [e4]
    refine Opl.one (v := .lit (.int .i64 x10q2_1)) rfl rfl rfl (Opl.one (v := pv6) rfl rfl rfl (Opl.lenv (xs := l1) (by exact h39) K23 rfl rfl rfl rfl (Opl.subi (k := .i64) (a := (l1.length : Int)) (b := 1) K3 rfl rfl rfl rfl (Opl.eql (a := x10q2_1) (b := (wrap64 ((l1.length : Int) - 1))) K3 rfl rfl rfl rfl (Opl.one (v := .lit (.bool (x10q2_1 == (wrap64 ((l1.length : Int) - 1))))) rfl rfl rfl ?_)))))
    by_cases c6 : x10q2_1 = (wrap64 ((l1.length : Int) - 1))
    case neg =>
     rw [if_neg c6] at H
     have e10 : (x10q2_1 == (wrap64 ((l1.length : Int) - 1))) = false := by simpa using c6
     try rw [e10]
     refine Opl.skp rfl (Opl.skp rfl (Opl.skp rfl (Opl.skp rfl (Opl.p1 (n := Opl.one (v := .lit (.bool false)) rfl rfl rfl (Opl.skp rfl (Opl.skp rfl (Opl.skp rfl (Opl.p1 (n := Opl.p1 (n := Opl.nil (Evr.condF rfl (Evr.skip ?_)))))))))))))
     exact hk1 _ _ ⟨_, _, _, _, _, _, _, _, _, _, H, by omega, ⟨rfl, rfl, rfl, rfl, rfl, rfl, rfl, trivial⟩, h38, h39, h40, h41, h42, h43, h44, o2, o3, o4, o5, ap14, ap15, ap16, ap17, ap18, ap19, ap20, ap21, ap22, ap23, ap24, ap25, ap26, ap27, ap28⟩
    rw [if_pos c6] at H
    have e5 : (x10q2_1 == (wrap64 ((l1.length : Int) - 1))) = true := by simpa using c6
    try rw [e5]
    refine Opl.p1 (v := .ptr i2 1) (n := Opl.ldb (v := pv8) h43 rfl T29 rfl rfl rfl rfl (Opl.lenv (xs := x9b1q2_1) (by exact h41) K29 rfl rfl rfl rfl (Opl.p1 (n := Opl.p1 (n := Opl.one (v := .lit (.bool ((x9b1q2_1.length : Int) == 0))) rfl rfl rfl ?_)))))
    by_cases c7 : (x9b1q2_1.length : Int) = 0
    case neg =>
     rw [if_neg c7] at H
     have e9 : ((x9b1q2_1.length : Int) == 0) = false := by simpa using c7
     try rw [e9]
     refine Opl.skp rfl (Opl.skp rfl (Opl.skp rfl (Opl.p1 (n := Opl.p1 (n := Opl.nil (Evr.condF rfl (Evr.skip ?_)))))))
     exact hk1 _ _ ⟨_, _, _, _, _, _, _, _, _, _, H, by omega, ⟨rfl, rfl, rfl, rfl, rfl, rfl, rfl, trivial⟩, h38, h39, h40, h41, h42, h43, h44, o2, o3, o4, o5, ap14, ap15, ap16, ap17, ap18, ap19, ap20, ap21, ap22, ap23, ap24, ap25, ap26, ap27, ap28⟩
    rw [if_pos c7] at H
    have e6 : ((x9b1q2_1.length : Int) == 0) = true := by simpa using c7
    try rw [e6]
    refine Opl.one (v := .ptr i0 0) rfl rfl rfl ?_
    obtain ⟨r4, h_r4, H⟩ := Option.bind_eq_some_iff.1 H
    refine Opl.calls (spec_l40Rd_pick.evb hq0 h38 h_r4) rfl rfl rfl rfl rfl ?_
    rintro _ S ⟨rfl, h103, u12⟩
    have h104 := u12.vec h39 (ap14.symm).pt
    have h105 := u12.tree h40 (ap15).pt
    have h106 := u12.vec h41 (ap16.symm).pt
    have h107 := u12.vec h42 (ap17.symm).pt
    have h108 := u12.box h43 (ap18.symm).pt
    have h109 := u12.sameP h44 OutT.box
    refine Opl.p1 (n := Opl.p1 (n := Opl.p1 (n := Opl.nil ?_)))
    refine Evr.join (fun tm S => ∃ (kq2 : Nat) (x0b1q3_3 : Int) (x9b1q2_3 : List Int) (x9b2q2_3 : List (List ITerm)) (pv20 : PV) (pv21 : PV) (ids5 : List Abs.Id) (pv22 : PV) (pv23 : PV) (i4 : Abs.Id), spec_l2Rules.l2 kq2 x0b1q3_3 x9b1q2_3 x9b2q2_3 (wrap64 (x10q2_1 + 1)) l0_0 l1 a2 x7_1 x8_1 r1 = some r ∧ kq2 ≤ n2 ∧ Has tm [(0, .ptr i0 0), (1, pv20), (2, .lit (.int .i64 a2)), (7, pv21), (8, .lit (.int .i64 x8_1)), (9, .ptr i4 0), (10, .lit (.int .i64 x10q2_1))] ∧ Box (.ptr i0 0) [q0, .lit (.int .i64 x0b1q3_3)] S ∧ Vec cIVar l1 pv20 S ∧ (oRow odIRule).R S ids5 x7_1 [pv21] ∧ Vec (cInt .i64) x9b1q2_3 pv22 S ∧ Vec (cSl cITerm) x9b2q2_3 pv23 S ∧ Box (.ptr i4 0) [pv5, pv22, pv23] S ∧ Same S0 S [i0] ∧ OutT S0 [i0] ids5 ∧ OutT S0 [i0] (PV.id? pv22).toList ∧ OutT S0 [i0] (PV.id? pv23).toList ∧ OutT S0 [i0] (PV.ptr i4 0).id?.toList ∧ Ap (.ptr i0 0) pv20 ∧ ApT (.ptr i0 0) ids5 ∧ Ap (.ptr i0 0) pv22 ∧ Ap (.ptr i0 0) pv23 ∧ Ap (.ptr i0 0) (.ptr i4 0) ∧ ApT pv20 ids5 ∧ Ap pv20 pv22 ∧ Ap pv20 pv23 ∧ Ap pv20 (.ptr i4 0) ∧ ApT pv22 ids5 ∧ ApT pv23 ids5 ∧ ApT (.ptr i4 0) ids5 ∧ Ap pv22 pv23 ∧ Ap pv22 (.ptr i4 0) ∧ Ap pv23 (.ptr i4 0)) ?_ fun hk2 => ?_
    ·
     rintro tm S ⟨kq2, x0b1q3_3, x9b1q2_3, x9b2q2_3, pv20, pv21, ids5, pv22, pv23, i4, H, hle, hh, h110, h111, h112, h114, h115, h113, h116, o10, o11, o12, o13, ap65, ap66, ap67, ap68, ap69, ap70, ap71, ap72, ap73, ap74, ap75, ap76, ap77, ap78, ap79⟩
     rw [hh.eq]
     exact hk1 _ _ ⟨_, _, _, _, _, _, _, _, _, _, H, by omega, ⟨rfl, rfl, rfl, rfl, rfl, rfl, rfl, trivial⟩, h110, h111, h112, h114, h115, h113, h116, o10, o11, o12, o13, ap65, ap66, ap67, ap68, ap69, ap70, ap71, ap72, ap73, ap74, ap75, ap76, ap77, ap78, ap79⟩
    ·
     by_cases c8 : r4.2 > 0
     case neg =>
      rw [if_neg c8] at H
      have e8 : (decide (r4.2 > 0)) = false := by simpa using c8
      try rw [e8]
      refine Evr.condF rfl (Evr.skip ?_)
      exact hk2 _ _ ⟨_, _, _, _, _, _, _, _, _, _, H, by omega, ⟨rfl, rfl, rfl, rfl, rfl, rfl, rfl, trivial⟩, h103, h104, h105, h106, h107, h108, h109, o2, o3, o4, o5, ap14, ap15, ap16, ap17, ap18, ap19, ap20, ap21, ap22, ap23, ap24, ap25, ap26, ap27, ap28⟩
     rw [if_pos c8] at H
     have e7 : (decide (r4.2 > 0)) = true := by simpa using c8
     try rw [e7]
     refine Evr.condT rfl (Evr.sr rfl (Opl.p1 (v := .ptr i2 1) (n := Opl.ldb (v := pv8) h108 rfl T29 rfl rfl rfl rfl (Opl.one (v := .lit (.int .i64 x10q2_1)) rfl rfl rfl (Opl.lits (M := (cInt .i64)) (ys := [x10q2_1]) [.tmp 53] K29 T3 rfl rfl rfl (by exact ⟨rfl, trivial⟩) rfl (by decide) rfl rfl rfl ?_)))))
     rintro pv24 S h117 u13 w9
     have ap80 := w9.box h103
     have h118 := u13.box h103 ap80
     have ap81 := w9.vec h104
     have h119 := u13.vec h104 ap81
     have ap82 := w9.tree h105
     have h120 := u13.tree h105 ap82
     have ap83 := w9.vec h106
     have h121 := u13.vec h106 ap83
     have ap84 := w9.vec h107
     have h122 := u13.vec h107 ap84
     have ap85 := w9.box h108
     have h123 := u13.box h108 ap85
     have ap86 := w9.sameP h109
     have h124 := u13.sameP h109 ap86
     obtain ⟨c9, H⟩ := peel H
     refine Opl.app (M := (cInt .i64)) (xs := x9b1q2_1) (ys := [x10q2_1]) (v := pv8) h121 (.vec h117) (oInt .i64) rfl rfl K29 T3 rfl rfl (by (try simp only [List.length_cons, List.length_nil]); omega) (by show (_ + _) * 8 ≤ 140737488355328; (try simp only [List.length_cons, List.length_nil]); omega) rfl rfl rfl rfl rfl ?_
     rintro pv25 S h125 u14 w10
     have ap87 := w10.box h118
     have h126 := u14.box h118 ap16
     have ap88 := w10.vec h119
     have h127 := u14.vec h119 ap20
     have ap89 := w10.tree h120
     have h128 := u14.tree h120 ap23
     have ap90 := w10.vec h122
     have h129 := u14.vec h122 ap26.symm
     have ap91 := w10.box h123
     have h130 := u14.box h123 ap27.symm
     have ap92 := w10.sameP h124
     have h131 := u14.sameP h124 o3
     have ap93 := w10.vec h117
     have h132 := u14.vec h117 ap83.symm
     refine Opl.p1 (v := .ptr i2 1) (n := Opl.stb (vs := [pv25]) h130 rfl (by exact Vec.cells h125) Z29 rfl (Nat.le_of_ble_eq_true rfl) (by simp only [List.all_cons, List.all_nil, Vec.one h125, Bool.and_true, Bool.true_and] <;> rfl) rfl rfl rfl ?_)
     rintro S (h133 : Box (.ptr i2 0) [pv5, pv25, pv9] _) u15
     have h134 := u15.box h126 ap18
     have h135 := u15.vec h127 ap22
     have h136 := u15.tree h128 ap25
     have h137 := u15.vec h129 ap28
     have h138 := u15.sameP h131 o5
     have h139 := u15.vec h132 ap85.symm
     have h140 := u15.vec h125 ap91.symm
     refine Opl.nil (Evr.regionL [(5, .m), (1, .q), (6, .m), (7, .m)] rfl (by kernel_rfl) (Opl.p1 (v := .ptr i2 2) (n := Opl.ldbk (v := pv9) h133 rd3 rfl T70 rfl rfl rfl rfl (Opl.one (v := .ptr i0 0) rfl rfl rfl (Opl.one (v := pv6) rfl rfl rfl (Opl.one (v := .lit (.int .i64 x10q2_1)) rfl rfl rfl ?_))))))
     obtain ⟨r5, h_r5, H⟩ := Option.bind_eq_some_iff.1 H
     refine Opl.callbm h134 (spec_l2Value.evv hq0 h134 h135 ap14.symm h_r5) rfl rfl rfl rfl rfl ?_
     rintro pv26 S h141 h142 u16
     have h143 := u16.vec h135 (ap14.symm).pt
     have h144 := u16.tree h136 (ap15).pt
     have h145 := u16.vec h137 (ap17.symm).pt
     have h146 := u16.box h133 (ap18.symm).pt
     have h147 := u16.sameP h138 OutT.box
     have h148 := u16.vec h139 (ap80.symm).pt
     have h149 := u16.vec h140 (ap87.symm).pt
     refine Opl.litm (M := (cSl cITerm)) (ys := [r5.2]) [.tmp 62] K70 T44 rfl rfl rfl (by exact ⟨⟨_, by first | rfl | exact h141.cells, h141⟩, trivial⟩) rfl (by decide) rfl rfl rfl ?_
     rintro pv28 S h150 g2
     have h151 := g2.box h142
     have h152 := g2.vec h143
     have h153 := g2.tree h144
     have h154 := g2.vec h145
     have h155 := g2.box h146
     have h156 := g2.sameP h147
     have h157 := g2.vec h148
     have h158 := g2.vec h149
     obtain ⟨c10, H⟩ := peel H
     refine Opl.appm rfl (M := (cSl cITerm)) (xs := x9b2q2_1) (ys := [r5.2]) (v := pv9) h154 (.sl h150) (oSl cITerm) rfl rfl K70 T44 rfl rfl (by (try simp only [List.length_cons, List.length_nil]); omega) (by show (_ + _) * 24 ≤ 140737488355328; (try simp only [List.length_cons, List.length_nil]); omega) rfl rfl rfl rfl rfl ?_
     rintro pv29 S h159 u17 w12
     have ap94 := w12.box h151
     have h160 := u17.box h151 ap17
     have ap95 := w12.vec h152
     have h161 := u17.vec h152 ap21
     have ap96 := w12.tree h153
     have h162 := u17.tree h153 ap24
     have ap97 := w12.box h155
     have h163 := u17.box h155 ap28.symm
     have ap98 := w12.sameP h156
     have h164 := u17.sameP h156 o4
     have ap99 := w12.vec h157
     have h165 := u17.vec h157 ap84.symm
     have ap100 := w12.vec h158
     have h166 := u17.vec h158 ap90.symm
     refine Opl.p1 (v := .ptr i2 2) (n := Opl.stb (vs := [pv29]) h163 rfl (by exact Vec.cells h159) Z70 rfl (Nat.le_of_ble_eq_true rfl) (by simp only [List.all_cons, List.all_nil, Vec.one h159, Bool.and_true, Bool.true_and] <;> rfl) rfl rfl rfl ?_)
     rintro S (h167 : Box (.ptr i2 0) [pv5, pv25, pv29] _) u18
     have h168 := u18.box h160 ap18
     have h169 := u18.vec h161 ap22
     have h170 := u18.tree h162 ap25
     have h171 := u18.sameP h164 o5
     have h172 := u18.vec h165 ap85.symm
     have h173 := u18.vec h166 ap91.symm
     have h174 := u18.vec h159 ap97.symm
     refine Opl.nil ?_
     exact hk2 _ _ ⟨_, _, _, _, _, _, _, _, _, _, H, by omega, ⟨rfl, rfl, rfl, rfl, rfl, rfl, rfl, trivial⟩, h168, h169, h170, h173, h174, h167, h171, o2, ap92, ap98, o5, ap14, ap15, ap87, ap94, ap18, ap19, ap88, ap95, ap22, ap89, ap96, ap25, ap100, ap91.symm, ap97.symm⟩
theorem spec_l2System.evb {k : Nat} {S0 : Sto} {l0_0 : List Int} {a0_1 : Int} {i0 : Abs.Id} {q0 : PV} (hq0 : Sl (cInt .u8) l0_0 q0) (hb0 : Box (.ptr i0 0) [q0, .lit (.int .i64 a0_1)] S0) {a1 : Int} {r : Int × (List IVar × List IRule)} (H : spec_l2System.f k l0_0 a0_1 a1 = some r) : RetS Try.prog 80 [.ptr i0 0, .lit (.int .i64 a1)] S0 fun v S => ∃ v_0 v_1 idsv_1, v = .agg [v_0, v_1] ∧ Vec cIVar r.2.1 v_0 S ∧ New S0 v_0 ∧ (oRow odIRule).R S idsv_1 r.2.2 [v_1] ∧ Fresh S0 idsv_1 ∧ ApT v_0 idsv_1 ∧ Box (.ptr i0 0) [q0, .lit (.int .i64 r.1)] S ∧ Same S0 S [i0] := by
 have hs0 : Same S0 S0 [i0] := .refl _ _
 unfold spec_l2System.f at H
 refine RetS.intro Try.func80 rfl (Nat.le_of_ble_eq_true rfl) rfl ?_
 rw [tm2]
 refine Evr.sr rfl (Opl.alloc T26 rfl rfl rfl ?_)
 rintro i1 S h1 u1 w1
 have ap1 := w1.sameP hs0
 have h2 := u1.sameP hs0 ap1
 have ap2 := w1.box hb0
 have h3 := u1.box hb0 ap2
 refine Opl.nil (Evr.sr rfl (Opl.p1 (v := .agg [.lit (.slice none 0 0), .lit (.slice none 0 0)]) (n := Opl.alloc T26 rfl rfl rfl ?_)))
 rintro i2 S h4 u2 w2
 have ap3 := w2.sameP h2
 have h5 := u2.sameP h2 ap3
 have ap4 := w2.box h3
 have h6 := u2.box h3 ap4
 have ap5 := w2.box h1
 have h7 := u2.box h1 ap5
 refine Opl.stb (vs := [.lit (.slice none 0 0), .lit (.slice none 0 0)]) h4 rfl rfl Z26 rfl (Nat.le_of_ble_eq_true rfl) rfl rfl rfl rfl ?_
 rintro S (h8 : Box (.ptr i2 0) [.lit (.slice none 0 0), .lit (.slice none 0 0)] _) u3
 have h9 := u3.sameP h5 ap3
 have h10 := u3.box h6 ap4
 have h11 := u3.box h7 ap5
 refine Opl.nil (Evr.sr rfl (Opl.p1 (n := Opl.nil (Evr.seq (Evr.sr rfl (Opl.p1 (n := ?_)))))))
 obtain ⟨r1, h_r1, H⟩ := Option.bind_eq_some_iff.1 H
 refine Opl.calls (spec_l40Rd_pick.evb hq0 h10 h_r1) rfl rfl rfl rfl rfl ?_
 rintro _ S ⟨rfl, h12, u4⟩
 have h13 := u4.sameP h9 OutT.box
 have h14 := u4.box h11 (ap2.symm).pt
 have h15 := u4.box h8 (ap4.symm).pt
 refine Opl.add (k := .i64) (a := 1) (b := r1.2) K3 rfl rfl rfl rfl (Opl.one (v := .lit (.int .i64 (wrap64 (1 + r1.2)))) rfl rfl rfl (Opl.nil (Evr.block ?_)))
 refine Evr.loop (Evr.rounds (n := k) (Inv := fun n tm S => n ≤ k ∧ ∃ (x0b1_1 : Int) (x5b0q3_1 : List IVar) (x6_1 : Int) (x7_1 : Int) (i3 : Abs.Id) (pv1 : PV) (i4 : Abs.Id), spec_l2System.l1 n x0b1_1 x5b0q3_1 x6_1 x7_1 l0_0 a1 = some r ∧ Has tm [(0, .ptr i0 0), (1, .lit (.int .i64 a1)), (4, .ptr i3 0), (5, .ptr i4 0), (6, .lit (.int .i64 x6_1)), (7, .lit (.int .i64 x7_1))] ∧ Box (.ptr i0 0) [q0, .lit (.int .i64 x0b1_1)] S ∧ Box (.ptr i3 0) [.lit (.slice none 0 0), .lit (.slice none 0 0)] S ∧ Vec cIVar x5b0q3_1 pv1 S ∧ Box (.ptr i4 0) [pv1, .lit (.slice none 0 0)] S ∧ Same S0 S [i0] ∧ OutT S0 [i0] (PV.ptr i3 0).id?.toList ∧ OutT S0 [i0] (PV.id? pv1).toList ∧ OutT S0 [i0] (PV.ptr i4 0).id?.toList ∧ Ap (.ptr i0 0) (.ptr i3 0) ∧ Ap (.ptr i0 0) pv1 ∧ Ap (.ptr i0 0) (.ptr i4 0) ∧ Ap (.ptr i3 0) pv1 ∧ Ap (.ptr i3 0) (.ptr i4 0) ∧ Ap pv1 (.ptr i4 0)) ?_ ?_ ?_)
 · exact ⟨Nat.le_refl _, _, _, _, _, _, _, _, H, ⟨rfl, rfl, rfl, rfl, rfl, rfl, trivial⟩, h12, h14, .nil, h15, h13, ap1, OutT.lit, ap3, ap2, Ap.nil.symm, ap4, Ap.nil.symm, ap5, .nil⟩
 ·
  rintro tm S ⟨_, _, _, _, _, _, _, _, H, -⟩
  simp [spec_l2System.l1] at H
 ·
  rintro n1 ih1 tm S ⟨hle, x0b1_1, x5b0q3_1, x6_1, x7_1, i3, pv1, i4, H, hh, h16, h17, h19, h18, h20, o1, o2, o3, ap6, ap7, ap8, ap9, ap10, ap11⟩
  simp only [spec_l2System.l1] at H
  rw [hh.eq]
  refine Evr.seq (Evr.sr rfl (Opl.p1 (n := Opl.p1 (n := Opl.nil ?_))))
  by_cases c1 : x7_1 > 0
  case pos =>
   rw [if_pos c1] at H
   have e1 : (decide (x7_1 > 0)) = true := by simpa using c1
   try rw [e1]
   refine Evr.condT rfl (Evr.skip (Evr.seq (Evr.block (Evr.sr rfl (Opl.p1 (n := Opl.litf (M := (cInt .i64)) (ys := [2, 3, 2, 4, 5]) [.const (.int .i64 2), .const (.int .i64 3), .const (.int .i64 2), .const (.int .i64 4), .const (.int .i64 5)] K29 T3 rfl rfl rfl (by exact ⟨rfl, rfl, rfl, rfl, rfl, trivial⟩) rfl (by decide) rfl rfl rfl ?_))))))
   rintro pv3 pv4 S h21 u5 w4
   have ap12 := w4.box h16
   have h22 := u5.box h16 ap12
   have ap13 := w4.box h17
   have h23 := u5.box h17 ap13
   have ap14 := w4.vec h19
   have h24 := u5.vec h19 ap14
   have ap15 := w4.box h18
   have h25 := u5.box h18 ap15
   have ap16 := w4.sameP h20
   have h26 := u5.sameP h20 ap16
   obtain ⟨r2, h_r2, H⟩ := Option.bind_eq_some_iff.1 H
   refine Opl.calls (spec_l40Rd_num.evb hq0 h22 h21 h_r2) rfl rfl rfl rfl rfl ?_
   rintro _ S ⟨rfl, h27, u6⟩
   have h28 := u6.box h23 (ap6.symm).pt
   have h29 := u6.vec h24 (ap7.symm).pt
   have h30 := u6.box h25 (ap8.symm).pt
   have h31 := u6.sameP h26 OutT.box
   refine Opl.p1 (n := Opl.nil (Evr.sr rfl (Opl.p1 (n := Opl.p1 (n := Opl.mul (k := .i64) (a := x6_1) (b := r2.2) K3 rfl rfl rfl rfl (Opl.one (v := .lit (.int .i64 a1)) rfl rfl rfl (Opl.leq (a := (wrap64 (x6_1 * r2.2))) (b := a1) K3 rfl rfl rfl rfl (Opl.nil ?_))))))))
   refine Evr.join (fun tm S => ∃ (kq1 : Nat) (x0b1_2 : Int) (x5b0q3_2 : List IVar) (x6_2 : Int) (i5 : Abs.Id) (pv5 : PV) (i6 : Abs.Id), spec_l2System.l1 kq1 x0b1_2 x5b0q3_2 x6_2 (wrap64 (x7_1 - 1)) l0_0 a1 = some r ∧ kq1 ≤ n1 ∧ Has tm [(0, .ptr i0 0), (1, .lit (.int .i64 a1)), (4, .ptr i5 0), (5, .ptr i6 0), (6, .lit (.int .i64 x6_2)), (7, .lit (.int .i64 x7_1))] ∧ Box (.ptr i0 0) [q0, .lit (.int .i64 x0b1_2)] S ∧ Box (.ptr i5 0) [.lit (.slice none 0 0), .lit (.slice none 0 0)] S ∧ Vec cIVar x5b0q3_2 pv5 S ∧ Box (.ptr i6 0) [pv5, .lit (.slice none 0 0)] S ∧ Same S0 S [i0] ∧ OutT S0 [i0] (PV.ptr i5 0).id?.toList ∧ OutT S0 [i0] (PV.id? pv5).toList ∧ OutT S0 [i0] (PV.ptr i6 0).id?.toList ∧ Ap (.ptr i0 0) (.ptr i5 0) ∧ Ap (.ptr i0 0) pv5 ∧ Ap (.ptr i0 0) (.ptr i6 0) ∧ Ap (.ptr i5 0) pv5 ∧ Ap (.ptr i5 0) (.ptr i6 0) ∧ Ap pv5 (.ptr i6 0)) ?_ fun hk1 => ?_
   ·
    rintro tm S ⟨kq1, x0b1_2, x5b0q3_2, x6_2, i5, pv5, i6, H, hle, hh, h32, h33, h35, h34, h36, o4, o5, o6, ap17, ap18, ap19, ap20, ap21, ap22⟩
    rw [hh.eq]
    refine Evr.inBlock (Evr.regionN rfl (Opl.p1 (n := Opl.subi (k := .i64) (a := x7_1) (b := 1) K3 rfl rfl rfl rfl (Opl.one (v := .lit (.int .i64 (wrap64 (x7_1 - 1)))) rfl rfl rfl (Opl.nil ?_)))))
    exact ih1 _ (by omega) _ _ ⟨by omega, _, _, _, _, _, _, _, H, ⟨rfl, rfl, rfl, rfl, rfl, rfl, trivial⟩, h32, h33, h35, h34, h36, o4, o5, o6, ap17, ap18, ap19, ap20, ap21, ap22⟩
   ·
    by_cases c2 : (wrap64 (x6_1 * r2.2)) ≤ a1
    case neg =>
     rw [if_neg c2] at H
     have e3 : (decide ((wrap64 (x6_1 * r2.2)) ≤ a1)) = false := by simpa using c2
     try rw [e3]
     refine Evr.condF rfl (Evr.skip ?_)
     exact hk1 _ _ ⟨_, _, _, _, _, _, _, H, by omega, ⟨rfl, rfl, rfl, rfl, rfl, rfl, trivial⟩, h27, h28, h29, h30, h31, o1, o2, o3, ap6, ap7, ap8, ap9, ap10, ap11⟩
    rw [if_pos c2] at H
    have e2 : (decide ((wrap64 (x6_1 * r2.2)) ≤ a1)) = true := by simpa using c2
    try rw [e2]
    refine Evr.condT rfl (Evr.sr rfl (Opl.one (v := .ptr i0 0) rfl rfl rfl (Opl.litf (M := (cInt .i64)) (ys := [0, 0, 0, (-1), 2]) [.const (.int .i64 0), .const (.int .i64 0), .const (.int .i64 0), .const (.int .i64 (-1)), .const (.int .i64 2)] K29 T3 rfl rfl rfl (by exact ⟨rfl, rfl, rfl, rfl, rfl, trivial⟩) rfl (by decide) rfl rfl rfl ?_)))
    rintro pv7 pv8 S h37 u7 w5
    have ap23 := w5.box h27
    have h38 := u7.box h27 ap23
    have ap24 := w5.box h28
    have h39 := u7.box h28 ap24
    have ap25 := w5.vec h29
    have h40 := u7.vec h29 ap25
    have ap26 := w5.box h30
    have h41 := u7.box h30 ap26
    have ap27 := w5.sameP h31
    have h42 := u7.sameP h31 ap27
    obtain ⟨r3, h_r3, H⟩ := Option.bind_eq_some_iff.1 H
    refine Opl.calls (spec_l40Rd_num.evb hq0 h38 h37 h_r3) rfl rfl rfl rfl rfl ?_
    rintro _ S ⟨rfl, h43, u8⟩
    have h44 := u8.box h39 (ap6.symm).pt
    have h45 := u8.vec h40 (ap7.symm).pt
    have h46 := u8.box h41 (ap8.symm).pt
    have h47 := u8.sameP h42 OutT.box
    refine Opl.one (v := .lit (.int .i64 r3.2)) rfl rfl rfl (Opl.nil (Evr.seq (Evr.regionL [(10, .m), (1, .q), (13, .m)] rfl (by kernel_rfl) (Opl.p1 (v := .ptr i4 0) (n := Opl.ldbk (v := pv1) h46 rfl rfl T23 rfl rfl rfl rfl (Opl.one (v := .lit (.int .i64 r3.2)) rfl rfl rfl (Opl.one (v := .lit (.int .i64 r3.2)) rfl rfl rfl (Opl.one (v := .lit (.int .i64 r2.2)) rfl rfl rfl (Opl.add (k := .i64) (a := r3.2) (b := r2.2) K3 rfl rfl rfl rfl (Opl.subi (k := .i64) (a := (wrap64 (r3.2 + r2.2))) (b := 1) K3 rfl rfl rfl rfl (Opl.one (v := .lit (.int .i64 r3.2)) rfl rfl rfl (Opl.one (v := .ptr i0 0) rfl rfl rfl (Opl.one (v := .lit (.int .i64 r2.2)) rfl rfl rfl ?_)))))))))))))
    obtain ⟨r4, h_r4, H⟩ := Option.bind_eq_some_iff.1 H
    refine Opl.callbm h43 (spec_l40Rd_pick.evb hq0 h43 h_r4) rfl rfl rfl rfl rfl ?_
    rintro _ S rfl h48 u9
    have h49 := u9.box h44 (ap6.symm).pt
    have h50 := u9.vec h45 (ap7.symm).pt
    have h51 := u9.box h46 (ap8.symm).pt
    have h52 := u9.sameP h47 OutT.box
    refine Opl.add (k := .i64) (a := r3.2) (b := r4.2) K3 rfl rfl rfl rfl (Opl.p1 (v := .agg [.lit (.int .i64 r3.2), .lit (.int .i64 (wrap64 ((wrap64 (r3.2 + r2.2)) - 1))), .lit (.int .i64 (wrap64 (r3.2 + r4.2)))]) (n := Opl.litm (M := cIVar) (ys := [(⟨r3.2, (wrap64 ((wrap64 (r3.2 + r2.2)) - 1)), (wrap64 (r3.2 + r4.2))⟩ : IVar)]) [.tmp 41] K23 T61 rfl rfl rfl (by exact ⟨cIVar_mk, trivial⟩) rfl (by decide) rfl rfl rfl ?_))
    rintro pv10 S h53 g1
    have h54 := g1.box h48
    have h55 := g1.box h49
    have h56 := g1.vec h50
    have h57 := g1.box h51
    have h58 := g1.sameP h52
    obtain ⟨c3, H⟩ := peel H
    refine Opl.app (M := cIVar) (xs := x5b0q3_1) (ys := [(⟨r3.2, (wrap64 ((wrap64 (r3.2 + r2.2)) - 1)), (wrap64 (r3.2 + r4.2))⟩ : IVar)]) (v := pv1) h56 (.sl h53) oIVar rfl rfl K23 T61 rfl rfl (by (try simp only [List.length_cons, List.length_nil]); omega) (by show (_ + _) * 24 ≤ 140737488355328; (try simp only [List.length_cons, List.length_nil]); omega) rfl rfl rfl rfl rfl ?_
    rintro pv11 S h59 u10 w6
    have ap28 := w6.box h54
    have h60 := u10.box h54 ap7
    have ap29 := w6.box h55
    have h61 := u10.box h55 ap9
    have ap30 := w6.box h57
    have h62 := u10.box h57 ap11.symm
    have ap31 := w6.sameP h58
    have h63 := u10.sameP h58 o2
    refine Opl.p1 (v := .ptr i4 0) (n := Opl.stb (vs := [pv11]) h62 rfl (by exact Vec.cells h59) Z23 rfl (Nat.le_of_ble_eq_true rfl) (by simp only [List.all_cons, List.all_nil, Vec.one h59, Bool.and_true, Bool.true_and] <;> rfl) rfl rfl rfl ?_)
    rintro S (h64 : Box (.ptr i4 0) [pv11, .lit (.slice none 0 0)] _) u11
    have h65 := u11.box h60 ap8
    have h66 := u11.box h61 ap10
    have h67 := u11.sameP h63 o3
    have h68 := u11.vec h59 ap30.symm
    refine Opl.nil (Evr.regionN rfl (Opl.one (v := .lit (.int .i64 x6_1)) rfl rfl rfl (Opl.one (v := .lit (.int .i64 r2.2)) rfl rfl rfl (Opl.mul (k := .i64) (a := x6_1) (b := r2.2) K3 rfl rfl rfl rfl (Opl.one (v := .lit (.int .i64 (wrap64 (x6_1 * r2.2)))) rfl rfl rfl (Opl.nil ?_))))))
    exact hk1 _ _ ⟨_, _, _, _, _, _, _, H, by omega, ⟨rfl, rfl, rfl, rfl, rfl, rfl, trivial⟩, h65, h66, h68, h64, h67, o1, ap31, o3, ap6, ap28, ap8, ap29, ap10, ap30.symm⟩
  rw [if_neg c1] at H
  have e4 : (decide (x7_1 > 0)) = false := by simpa using c1
  try rw [e4]
  refine Evr.condF rfl (Evr.exit rfl (Evr.seq (Evr.sr rfl (Opl.p1 (v := .ptr i4 0) (n := Opl.ldb (v := pv1) h18 rfl T23 rfl rfl rfl rfl (Opl.lenv (xs := x5b0q3_1) (by exact h19) K23 rfl rfl rfl rfl (Opl.p1 (n := Opl.nil ?_))))))))
  by_cases c4 : (x5b0q3_1.length : Int) = 0
  case neg =>
   rw [if_neg c4] at H
   have e6 : ((x5b0q3_1.length : Int) == 0) = false := by simpa using c4
   try rw [e6]
   refine Evr.condF rfl (Evr.skip (Evr.seq (Evr.regionL [(5, .m), (6, .n), (2, .q), (4, .m)] rfl (by kernel_rfl) (Opl.p1 (n := Opl.p1 (v := .ptr i4 0) (n := Opl.ldbk (v := pv1) h18 rfl rfl T23 rfl rfl rfl rfl (Opl.p1 (n := Opl.litm (M := (cInt .i64)) (ys := [1, 2, 3, 4, 2, 3, 0]) [.const (.int .i64 1), .const (.int .i64 2), .const (.int .i64 3), .const (.int .i64 4), .const (.int .i64 2), .const (.int .i64 3), .const (.int .i64 0)] K29 T3 rfl rfl rfl (by exact ⟨rfl, rfl, rfl, rfl, rfl, rfl, rfl, trivial⟩) rfl (by decide) rfl rfl rfl ?_))))))))
   rintro pv18 S h121 g3
   have h122 := g3.box h16
   have h123 := g3.box h17
   have h124 := g3.vec h19
   have h125 := g3.box h18
   have h126 := g3.sameP h20
   obtain _ | k2 := n1
   · simp [spec_l2System.j2] at H
   simp only [spec_l2System.j2] at H
   obtain ⟨r5, h_r5, H⟩ := Option.bind_eq_some_iff.1 H
   refine Opl.callbm h122 (spec_l40Rd_num.evb hq0 h122 h121 h_r5) rfl rfl rfl rfl rfl ?_
   rintro _ S rfl h127 u19
   have h128 := u19.box h123 (ap6.symm).pt
   have h129 := u19.vec h124 (ap7.symm).pt
   have h130 := u19.box h125 (ap8.symm).pt
   have h131 := u19.sameP h126 OutT.box
   obtain ⟨r6, h_r6, H⟩ := Option.bind_eq_some_iff.1 H
   refine Opl.calls (spec_l2Rules.evv hq0 h127 h129 ap7.symm h_r6) rfl rfl rfl rfl rfl ?_
   rintro pv19 S ⟨ids2, h132, f2, h133, u20⟩
   have h134 := u20.box h128 (ap6.symm).pt
   have h135 := u20.vec h129 (ap7.symm).pt
   have h136 := u20.box h130 (ap8.symm).pt
   have h137 := u20.sameP h131 OutT.box
   have ap48 := f2.box h127
   have ap49 := f2.box h128
   have ap50 := f2.vec h129
   have ap51 := f2.box h130
   have ap52 := f2.sameP h131
   refine Opl.p1 (v := .ptr i4 1) (n := Opl.stb (vs := [pv19]) h136 rfl (by exact oRow_cells h132) Z24 rfl (Nat.le_of_ble_eq_true rfl) (by simp only [List.all_cons, List.all_nil, oRow_p1 h132, Bool.and_true, Bool.true_and] <;> rfl) rfl rfl rfl ?_)
   rintro S (h138 : Box (.ptr i4 0) [pv1, pv19] _) u21
   have h139 := u21.box h133 ap8
   have h140 := u21.box h134 ap10
   have h141 := u21.vec h135 ap11
   have h142 := u21.sameP h137 o3
   have h143 := u21.tree h132 ap51
   refine Opl.nil (Evr.sr rfl (Opl.ldb (v := .agg [pv1, pv19]) h138 rfl T26 rfl rfl rfl rfl (Opl.stb (vs := [pv1, pv19]) h140 rfl rfl Z26 rfl (Nat.le_of_ble_eq_true rfl) (by simp only [List.all_cons, List.all_nil, Vec.one h141, oRow_p1 h143, Bool.and_true, Bool.true_and] <;> rfl) rfl rfl rfl ?_)))
   rintro S (h144 : Box (.ptr i3 0) [pv1, pv19] _) u22
   have h145 := u22.box h139 ap6
   have h146 := u22.vec h141 ap9.symm
   have h147 := u22.box h138 ap10.symm
   have h148 := u22.sameP h142 o1
   have h149 := u22.tree h143 ap49
   refine Opl.nil ?_
   obtain rfl := Option.some.inj H
   refine Evr.retb (v := .agg [pv1, pv19]) Try.func80 rfl h144 rfl T26 rfl ?_
   exact ⟨_, _, _, rfl, h146, (OutT.new (i := i0) o2 ap7.symm), h149, (OutT.fresh ap52 ap48), ap50, h145, h148⟩
  rw [if_pos c4] at H
  have e5 : ((x5b0q3_1.length : Int) == 0) = true := by simpa using c4
  try rw [e5]
  refine Evr.condT rfl (Evr.regionN rfl (Opl.p1 (v := .ptr i4 0) (n := Opl.ldb (v := pv1) h18 rfl T23 rfl rfl rfl rfl (Opl.p1 (v := .agg [.lit (.int .i64 0), .lit (.int .i64 1), .lit (.int .i64 0)]) (n := Opl.lits (M := cIVar) (ys := [(⟨0, 1, 0⟩ : IVar)]) [.tmp 54] K23 T61 rfl rfl rfl (by exact ⟨cIVar_mk, trivial⟩) rfl (by decide) rfl rfl rfl ?_)))))
  rintro pv12 S h69 u12 w8
  have ap32 := w8.box h16
  have h70 := u12.box h16 ap32
  have ap33 := w8.box h17
  have h71 := u12.box h17 ap33
  have ap34 := w8.vec h19
  have h72 := u12.vec h19 ap34
  have ap35 := w8.box h18
  have h73 := u12.box h18 ap35
  have ap36 := w8.sameP h20
  have h74 := u12.sameP h20 ap36
  obtain ⟨c5, H⟩ := peel H
  obtain _ | k1 := n1
  · simp [spec_l2System.j2] at H
  simp only [spec_l2System.j2] at H
  refine Opl.app (M := cIVar) (xs := x5b0q3_1) (ys := [(⟨0, 1, 0⟩ : IVar)]) (v := pv1) h72 (.vec h69) oIVar rfl rfl K23 T61 rfl rfl (by (try simp only [List.length_cons, List.length_nil]); omega) (by show (_ + _) * 24 ≤ 140737488355328; (try simp only [List.length_cons, List.length_nil]); omega) rfl rfl rfl rfl rfl ?_
  rintro pv13 S h75 u13 w9
  have ap37 := w9.box h70
  have h76 := u13.box h70 ap7
  have ap38 := w9.box h71
  have h77 := u13.box h71 ap9
  have ap39 := w9.box h73
  have h78 := u13.box h73 ap11.symm
  have ap40 := w9.sameP h74
  have h79 := u13.sameP h74 o2
  have ap41 := w9.vec h69
  have h80 := u13.vec h69 ap34.symm
  refine Opl.p1 (v := .ptr i4 0) (n := Opl.stb (vs := [pv13]) h78 rfl (by exact Vec.cells h75) Z23 rfl (Nat.le_of_ble_eq_true rfl) (by simp only [List.all_cons, List.all_nil, Vec.one h75, Bool.and_true, Bool.true_and] <;> rfl) rfl rfl rfl ?_)
  rintro S (h81 : Box (.ptr i4 0) [pv13, .lit (.slice none 0 0)] _) u14
  have h82 := u14.box h76 ap8
  have h83 := u14.box h77 ap10
  have h84 := u14.sameP h79 o3
  have h85 := u14.vec h80 ap35.symm
  have h86 := u14.vec h75 ap39.symm
  refine Opl.nil (Evr.seq (Evr.regionL [(5, .m), (6, .n), (2, .q), (4, .m)] rfl (by kernel_rfl) (Opl.p1 (n := Opl.p1 (v := .ptr i4 0) (n := Opl.ldbk (v := pv13) h81 rfl rfl T23 rfl rfl rfl rfl (Opl.p1 (n := Opl.litm (M := (cInt .i64)) (ys := [1, 2, 3, 4, 2, 3, 0]) [.const (.int .i64 1), .const (.int .i64 2), .const (.int .i64 3), .const (.int .i64 4), .const (.int .i64 2), .const (.int .i64 3), .const (.int .i64 0)] K29 T3 rfl rfl rfl (by exact ⟨rfl, rfl, rfl, rfl, rfl, rfl, rfl, trivial⟩) rfl (by decide) rfl rfl rfl ?_)))))))
  rintro pv15 S h87 g2
  have h88 := g2.box h82
  have h89 := g2.box h83
  have h90 := g2.box h81
  have h91 := g2.sameP h84
  have h92 := g2.vec h85
  have h93 := g2.vec h86
  obtain ⟨r5, h_r5, H⟩ := Option.bind_eq_some_iff.1 H
  refine Opl.callbm h88 (spec_l40Rd_num.evb hq0 h88 h87 h_r5) rfl rfl rfl rfl rfl ?_
  rintro _ S rfl h94 u15
  have h95 := u15.box h89 (ap6.symm).pt
  have h96 := u15.box h90 (ap8.symm).pt
  have h97 := u15.sameP h91 OutT.box
  have h98 := u15.vec h92 (ap32.symm).pt
  have h99 := u15.vec h93 (ap37.symm).pt
  obtain ⟨r6, h_r6, H⟩ := Option.bind_eq_some_iff.1 H
  refine Opl.calls (spec_l2Rules.evv hq0 h94 h99 ap37.symm h_r6) rfl rfl rfl rfl rfl ?_
  rintro pv16 S ⟨ids1, h100, f1, h101, u16⟩
  have h102 := u16.box h95 (ap6.symm).pt
  have h103 := u16.box h96 (ap8.symm).pt
  have h104 := u16.sameP h97 OutT.box
  have h105 := u16.vec h98 (ap32.symm).pt
  have h106 := u16.vec h99 (ap37.symm).pt
  have ap42 := f1.box h94
  have ap43 := f1.box h95
  have ap44 := f1.box h96
  have ap45 := f1.sameP h97
  have ap46 := f1.vec h98
  have ap47 := f1.vec h99
  refine Opl.p1 (v := .ptr i4 1) (n := Opl.stb (vs := [pv16]) h103 rfl (by exact oRow_cells h100) Z24 rfl (Nat.le_of_ble_eq_true rfl) (by simp only [List.all_cons, List.all_nil, oRow_p1 h100, Bool.and_true, Bool.true_and] <;> rfl) rfl rfl rfl ?_)
  rintro S (h107 : Box (.ptr i4 0) [pv13, pv16] _) u17
  have h108 := u17.box h101 ap8
  have h109 := u17.box h102 ap10
  have h110 := u17.sameP h104 o3
  have h111 := u17.vec h105 ap35.symm
  have h112 := u17.vec h106 ap39.symm
  have h113 := u17.tree h100 ap44
  refine Opl.nil (Evr.sr rfl (Opl.ldb (v := .agg [pv13, pv16]) h107 rfl T26 rfl rfl rfl rfl (Opl.stb (vs := [pv13, pv16]) h109 rfl rfl Z26 rfl (Nat.le_of_ble_eq_true rfl) (by simp only [List.all_cons, List.all_nil, Vec.one h112, oRow_p1 h113, Bool.and_true, Bool.true_and] <;> rfl) rfl rfl rfl ?_)))
  rintro S (h114 : Box (.ptr i3 0) [pv13, pv16] _) u18
  have h115 := u18.box h108 ap6
  have h116 := u18.box h107 ap10.symm
  have h117 := u18.sameP h110 o1
  have h118 := u18.vec h111 ap33.symm
  have h119 := u18.vec h112 ap38.symm
  have h120 := u18.tree h113 ap43
  refine Opl.nil ?_
  obtain rfl := Option.some.inj H
  refine Evr.retb (v := .agg [pv13, pv16]) Try.func80 rfl h114 rfl T26 rfl ?_
  exact ⟨_, _, _, rfl, h119, (OutT.new (i := i0) ap40 ap37.symm), h120, (OutT.fresh ap45 ap42), ap47, h115, h117⟩
theorem spec_l2Any.evb {k : Nat} {S0 : Sto} {l0_0 : List Int} {a0_1 : Int} {i0 : Abs.Id} {q0 : PV} (hq0 : Sl (cInt .u8) l0_0 q0) (hb0 : Box (.ptr i0 0) [q0, .lit (.int .i64 a0_1)] S0) {a1 : Int} {r : Int × (List IVar × List IRule)} (H : spec_l2Any.f k l0_0 a0_1 a1 = some r) : RetS Try.prog 48 [.ptr i0 0, .lit (.int .i64 a1)] S0 fun v S => ∃ v_0 v_1, v = .agg [v_0, v_1] ∧ Sl cIVar r.2.1 v_0 ∧ Sl cIRule r.2.2 v_1 ∧ Box (.ptr i0 0) [q0, .lit (.int .i64 r.1)] S ∧ Same S0 S [i0] := by
 have hs0 : Same S0 S0 [i0] := .refl _ _
 unfold spec_l2Any.f at H
 refine RetS.intro Try.func48 rfl (Nat.le_of_ble_eq_true rfl) rfl ?_
 rw [tm2]
 refine Evr.sr rfl (Opl.alloc T26 rfl rfl rfl ?_)
 rintro i1 S h1 u1 w1
 have ap1 := w1.sameP hs0
 have h2 := u1.sameP hs0 ap1
 have ap2 := w1.box hb0
 have h3 := u1.box hb0 ap2
 refine Opl.nil (Evr.sr rfl (Opl.p1 (n := Opl.p1 (n := ?_))))
 obtain ⟨r1, h_r1, H⟩ := Option.bind_eq_some_iff.1 H
 refine Opl.calls (spec_l2System.evb hq0 h3 h_r1) rfl rfl rfl rfl rfl ?_
 rintro _ S ⟨pv1, pv2, ids1, rfl, h4, w2, h5, f1, ap3, h6, u2⟩
 have h7 := u2.sameP h2 OutT.box
 have h8 := u2.box h1 (ap2.symm).pt
 have ap4 := w2.sameP h2
 have ap5 := w2.box h3
 have ap6 := w2.box h1
 have ap7 := f1.sameP h2
 have ap8 := f1.box h3
 have ap9 := f1.box h1
 refine Opl.alloc T26 rfl rfl rfl ?_
 rintro i2 S h9 u3 w3
 have ap10 := w3.sameP h7
 have h10 := u3.sameP h7 ap10
 have ap11 := w3.box h6
 have h11 := u3.box h6 ap11
 have ap12 := w3.box h8
 have h12 := u3.box h8 ap12
 have ap13 := w3.vec h4
 have h13 := u3.vec h4 ap13
 have ap14 := w3.tree h5
 have h14 := u3.tree h5 ap14
 refine Opl.stb (vs := [pv1, pv2]) h9 rfl rfl Z26 rfl (Nat.le_of_ble_eq_true rfl) (by simp only [List.all_cons, List.all_nil, Vec.one h13, oRow_p1 h14, Bool.and_true, Bool.true_and] <;> rfl) rfl rfl rfl ?_
 rintro S (h15 : Box (.ptr i2 0) [pv1, pv2] _) u4
 have h16 := u4.sameP h10 ap10
 have h17 := u4.box h11 ap11
 have h18 := u4.box h12 ap12
 have h19 := u4.vec h13 ap13
 have h20 := u4.tree h14 ap14
 refine Opl.nil (Evr.seq (Evr.sr rfl (Opl.p1 (n := ?_))))
 obtain ⟨r2, h_r2, H⟩ := Option.bind_eq_some_iff.1 H
 refine Opl.calls (spec_l40Rd_pick.evb hq0 h17 h_r2) rfl rfl rfl rfl rfl ?_
 rintro _ S ⟨rfl, h21, u5⟩
 have h22 := u5.sameP h16 OutT.box
 have h23 := u5.box h18 (ap2.symm).pt
 have h24 := u5.vec h19 (ap5.symm).pt
 have h25 := u5.tree h20 (ap8).pt
 have h26 := u5.box h15 (ap11.symm).pt
 refine Opl.p1 (n := Opl.nil ?_)
 by_cases c1 : r2.2 = 0
 case neg =>
  rw [if_neg c1] at H
  have e34 : (r2.2 == 0) = false := by simpa using c1
  try rw [e34]
  refine Evr.condF rfl (Evr.skip (Evr.seq (Evr.frzc [] [pv2] h26 h24 ap13 ?_)))
  rintro pv89 S1_ S h665 u104 u105 h666
  have h667 := u105.sameP (u104.sameP h22 ap4) ap10
  have h668 := u105.box (u104.box h21 ap5) ap11
  have h669 := u105.box (u104.box h23 ap6) ap12
  have h670 := u105.tree (u104.tree h25 ap3) ap14
  have h671 : Sl cIVar r1.2.1 pv89 := h665
  have h672 : Box (.ptr i2 0) [pv89, pv2] S := h666
  refine Evr.frzcT [pv89] [] h672 h670 ap14 ?_
  rintro pv90 S1_ S h673 u106 u107 h674
  have h675 := u107.sameP (u106.sameP h667 ap7) ap10
  have h676 := u107.box (u106.box h668 ap8) ap11
  have h677 := u107.box (u106.box h669 ap9) ap12
  have h678 : Sl cIRule r1.2.2 pv90 := h673
  have h679 : Box (.ptr i2 0) [pv89, pv90] S := h674
  refine Evr.regionN rfl (Opl.ldb (v := .agg [pv89, pv90]) h679 rfl T26 rfl rfl rfl rfl (Opl.stb (vs := [pv89, pv90]) h677 rfl rfl Z26 rfl (Nat.le_of_ble_eq_true rfl) (by simp only [List.all_cons, List.all_nil, h671.one, h678.one, Bool.and_true, Bool.true_and] <;> rfl) rfl rfl rfl ?_))
  rintro S (h680 : Box (.ptr i1 0) [pv89, pv90] _) u108
  have h681 := u108.sameP h675 ap1
  have h682 := u108.box h676 ap2
  have h683 := u108.box h679 ap12.symm
  refine Opl.nil ?_
  obtain rfl := Option.some.inj H
  refine Evr.retb (v := .agg [pv89, pv90]) Try.func48 rfl h680 rfl T26 rfl ?_
  exact ⟨_, _, rfl, h671, h678, h682, h681⟩
 rw [if_pos c1] at H
 have e1 : (r2.2 == 0) = true := by simpa using c1
 try rw [e1]
 refine Evr.condT rfl (Evr.sr rfl (Opl.p1 (n := ?_)))
 obtain ⟨r3, h_r3, H⟩ := Option.bind_eq_some_iff.1 H
 refine Opl.calls (spec_l40Rd_pick.evb hq0 h21 h_r3) rfl rfl rfl rfl rfl ?_
 rintro _ S ⟨rfl, h27, u6⟩
 have h28 := u6.sameP h22 OutT.box
 have h29 := u6.box h23 (ap2.symm).pt
 have h30 := u6.vec h24 (ap5.symm).pt
 have h31 := u6.tree h25 (ap8).pt
 have h32 := u6.box h26 (ap11.symm).pt
 refine Opl.p1 (n := Opl.nil (Evr.sr rfl (Opl.p1 (n := Opl.p1 (n := Opl.nil ?_)))))
 by_cases c2 : r3.2 = 0
 case pos =>
  rw [if_pos c2] at H
  have e2 : (r3.2 == 0) = true := by simpa using c2
  try rw [e2]
  refine Evr.condT rfl (Evr.regionD rfl (by kernel_rfl) (Opl.p1 (v := .ptr i2 0) (n := Opl.ldb (v := pv1) h32 rfl T23 rfl rfl rfl rfl (Opl.p1 (v := .ptr i2 0) (n := Opl.ldb (v := pv1) h32 rfl T23 rfl rfl rfl rfl ?_)))))
  obtain ⟨c3, H⟩ := peel H
  obtain ⟨c4, H⟩ := peel H
  refine Opl.idv (M := cIVar) (xs := r1.2.1) (j := (0 : Int)) (v := pv1) h30 rfl rfl (by first | omega | (simp only [List.length_set] at *; omega)) (by first | omega | (simp only [List.length_set] at *; omega)) K23 Z61 rfl rfl ?_
  rintro d1 z1 q1 h33 h34
  refine Opl.p1 (v := .ptr d1 ((0 : Int).toNat * cIVar.n + 1)) (n := Opl.ldvf (M := cIVar) (xs := r1.2.1) (j := (0 : Int)) 1 zIVar h33 h34 (by first | omega | (simp only [List.length_set] at *; omega)) (by first | omega | (simp only [List.length_set] at *; omega)) rfl T3 rfl rfl rfl ?_)
  rintro p1 q2 h35
  obtain rfl := cIVar_R (x := (rd_IVar r1.2.1 (0 : Int))) h35
  refine ⟨.lit (.int .i64 ((rd_IVar r1.2.1 (0 : Int)).f1)), rfl, ?_⟩
  refine Opl.add (k := .i64) (a := ((rd_IVar r1.2.1 (0 : Int)).f1)) (b := 1) K3 rfl rfl rfl rfl (Opl.idv (M := cIVar) (xs := r1.2.1) (j := (0 : Int)) (v := pv1) h30 rfl rfl (by first | omega | (simp only [List.length_set] at *; omega)) (by first | omega | (simp only [List.length_set] at *; omega)) K23 Z61 rfl rfl ?_)
  rintro d2 z2 q3 h36 h37
  refine Opl.p1 (v := .ptr d2 ((0 : Int).toNat * cIVar.n + 2)) (n := Opl.stvf (M := cIVar) (xs := r1.2.1) (j := (0 : Int)) (y := (⟨(rd_IVar r1.2.1 (0 : Int)).f0, (rd_IVar r1.2.1 (0 : Int)).f1, (wrap64 (((rd_IVar r1.2.1 (0 : Int)).f1) + 1))⟩ : IVar)) (vs := [.lit (.int .i64 (wrap64 (((rd_IVar r1.2.1 (0 : Int)).f1) + 1)))]) 2 zIVar h36 h37 (by first | omega | (simp only [List.length_set] at *; omega)) (by first | omega | (simp only [List.length_set] at *; omega)) rfl rfl (by intro c hc; obtain rfl := cIVar_R (x := (rd_IVar r1.2.1 (0 : Int))) hc; exact cIVar_mk) Z3 rfl (by decide) rfl rfl rfl rfl ?_)
  rw [← q3]
  rintro S h38 u7
  have h39 := u7.sameP h28 ap4
  have h40 := u7.box h27 ap5
  have h41 := u7.box h29 ap6
  have h42 := u7.tree h31 ap3
  have h43 := u7.box h32 ap13.symm
  refine Opl.nil (Evr.seq (Evr.frzc [] [pv2] h43 h38 ap13 ?_))
  rintro pv3 S1_ S h44 u8 u9 h45
  have h46 := u9.sameP (u8.sameP h39 ap4) ap10
  have h47 := u9.box (u8.box h40 ap5) ap11
  have h48 := u9.box (u8.box h41 ap6) ap12
  have h49 := u9.tree (u8.tree h42 ap3) ap14
  have h50 : Sl cIVar (r1.2.1.set (0 : Int).toNat (⟨(rd_IVar r1.2.1 (0 : Int)).f0, (rd_IVar r1.2.1 (0 : Int)).f1, (wrap64 (((rd_IVar r1.2.1 (0 : Int)).f1) + 1))⟩ : IVar)) pv3 := h44
  have h51 : Box (.ptr i2 0) [pv3, pv2] S := h45
  refine Evr.frzcT [pv3] [] h51 h49 ap14 ?_
  rintro pv4 S1_ S h52 u10 u11 h53
  have h54 := u11.sameP (u10.sameP h46 ap7) ap10
  have h55 := u11.box (u10.box h47 ap8) ap11
  have h56 := u11.box (u10.box h48 ap9) ap12
  have h57 : Sl cIRule r1.2.2 pv4 := h52
  have h58 : Box (.ptr i2 0) [pv3, pv4] S := h53
  refine Evr.regionN rfl (Opl.ldb (v := .agg [pv3, pv4]) h58 rfl T26 rfl rfl rfl rfl (Opl.stb (vs := [pv3, pv4]) h56 rfl rfl Z26 rfl (Nat.le_of_ble_eq_true rfl) (by simp only [List.all_cons, List.all_nil, h50.one, h57.one, Bool.and_true, Bool.true_and] <;> rfl) rfl rfl rfl ?_))
  rintro S (h59 : Box (.ptr i1 0) [pv3, pv4] _) u12
  have h60 := u12.sameP h54 ap1
  have h61 := u12.box h55 ap2
  have h62 := u12.box h58 ap12.symm
  refine Opl.nil ?_
  obtain rfl := Option.some.inj H
  refine Evr.retb (v := .agg [pv3, pv4]) Try.func48 rfl h59 rfl T26 rfl ?_
  exact ⟨_, _, rfl, h50, h57, h61, h60⟩
 rw [if_neg c2] at H
 have e3 : (r3.2 == 0) = false := by simpa using c2
 try rw [e3]
 refine Evr.condF rfl (Evr.sr rfl (Opl.p1 (n := Opl.p1 (n := Opl.nil ?_))))
 by_cases c5 : r3.2 = 1
 case pos =>
  rw [if_pos c5] at H
  have e4 : (r3.2 == 1) = true := by simpa using c5
  try rw [e4]
  refine Evr.condT rfl (Evr.regionL [(9, .m), (1, .q), (3, .q), (6, .q), (8, .m)] rfl (by kernel_rfl) (Opl.p1 (v := .ptr i2 0) (n := Opl.ldbk (v := pv1) h32 (rd_tre h31) rfl T23 rfl rfl rfl rfl (Opl.p1 (v := .ptr i2 0) (n := Opl.ldbk (v := pv1) h32 (rd_tre h31) rfl T23 rfl rfl rfl rfl ?_)))))
  obtain ⟨c6, H⟩ := peel H
  refine Opl.idv (M := cIVar) (xs := r1.2.1) (j := (0 : Int)) (v := pv1) h30 rfl rfl (by first | omega | (simp only [List.length_set] at *; omega)) (by first | omega | (simp only [List.length_set] at *; omega)) K23 Z61 rfl rfl ?_
  rintro d3 z3 q4 h63 h64
  refine Opl.p1 (v := .ptr d3 ((0 : Int).toNat * cIVar.n + 0)) (n := Opl.ldvk (M := cIVar) (xs := r1.2.1) (j := (0 : Int)) 0 zIVar h63 h64 (by first | omega | (simp only [List.length_set] at *; omega)) (by first | omega | (simp only [List.length_set] at *; omega)) (by decide) rfl T3 rfl rfl rfl ?_)
  rintro p2 q5 h65
  obtain rfl := cIVar_R (x := (rd_IVar r1.2.1 (0 : Int))) h65
  refine ⟨.lit (.int .i64 ((rd_IVar r1.2.1 (0 : Int)).f0)), rfl, ?_⟩
  refine Opl.p1 (n := Opl.litm (M := (cInt .i64)) (ys := [(-1), 20, 19]) [.const (.int .i64 (-1)), .const (.int .i64 20), .const (.int .i64 19)] K29 T3 rfl rfl rfl (by exact ⟨rfl, rfl, rfl, trivial⟩) rfl (by decide) rfl rfl rfl ?_)
  rintro pv6 S h66 g1
  have h67 := g1.sameP h28
  have h68 := g1.box h27
  have h69 := g1.box h29
  have h70 := g1.vec h30
  have h71 := g1.tree h31
  have h72 := g1.box h32
  obtain ⟨r4, h_r4, H⟩ := Option.bind_eq_some_iff.1 H
  refine Opl.callbm h68 (spec_l40Rd_num.evb hq0 h68 h66 h_r4) rfl rfl rfl rfl rfl ?_
  rintro _ S rfl h73 u13
  have h74 := u13.sameP h67 OutT.box
  have h75 := u13.box h69 (ap2.symm).pt
  have h76 := u13.vec h70 (ap5.symm).pt
  have h77 := u13.tree h71 (ap8).pt
  have h78 := u13.box h72 (ap11.symm).pt
  refine Opl.add (k := .i64) (a := ((rd_IVar r1.2.1 (0 : Int)).f0)) (b := r4.2) K3 rfl rfl rfl rfl ?_
  obtain ⟨c7, H⟩ := peel H
  refine Opl.idv (M := cIVar) (xs := r1.2.1) (j := (0 : Int)) (v := pv1) h76 rfl rfl (by first | omega | (simp only [List.length_set] at *; omega)) (by first | omega | (simp only [List.length_set] at *; omega)) K23 Z61 rfl rfl ?_
  rintro d4 z4 q6 h79 h80
  refine Opl.p1 (v := .ptr d4 ((0 : Int).toNat * cIVar.n + 1)) (n := Opl.stvf (M := cIVar) (xs := r1.2.1) (j := (0 : Int)) (y := (⟨(rd_IVar r1.2.1 (0 : Int)).f0, (wrap64 (((rd_IVar r1.2.1 (0 : Int)).f0) + r4.2)), (rd_IVar r1.2.1 (0 : Int)).f2⟩ : IVar)) (vs := [.lit (.int .i64 (wrap64 (((rd_IVar r1.2.1 (0 : Int)).f0) + r4.2)))]) 1 zIVar h79 h80 (by first | omega | (simp only [List.length_set] at *; omega)) (by first | omega | (simp only [List.length_set] at *; omega)) rfl rfl (by intro c hc; obtain rfl := cIVar_R (x := (rd_IVar r1.2.1 (0 : Int))) hc; exact cIVar_mk) Z3 rfl (by decide) rfl rfl rfl rfl ?_)
  rw [← q6]
  rintro S h81 u14
  have h82 := u14.sameP h74 ap4
  have h83 := u14.box h73 ap5
  have h84 := u14.box h75 ap6
  have h85 := u14.tree h77 ap3
  have h86 := u14.box h78 ap13.symm
  refine Opl.nil (Evr.seq (Evr.frzc [] [pv2] h86 h81 ap13 ?_))
  rintro pv7 S1_ S h87 u15 u16 h88
  have h89 := u16.sameP (u15.sameP h82 ap4) ap10
  have h90 := u16.box (u15.box h83 ap5) ap11
  have h91 := u16.box (u15.box h84 ap6) ap12
  have h92 := u16.tree (u15.tree h85 ap3) ap14
  have h93 : Sl cIVar (r1.2.1.set (0 : Int).toNat (⟨(rd_IVar r1.2.1 (0 : Int)).f0, (wrap64 (((rd_IVar r1.2.1 (0 : Int)).f0) + r4.2)), (rd_IVar r1.2.1 (0 : Int)).f2⟩ : IVar)) pv7 := h87
  have h94 : Box (.ptr i2 0) [pv7, pv2] S := h88
  refine Evr.frzcT [pv7] [] h94 h92 ap14 ?_
  rintro pv8 S1_ S h95 u17 u18 h96
  have h97 := u18.sameP (u17.sameP h89 ap7) ap10
  have h98 := u18.box (u17.box h90 ap8) ap11
  have h99 := u18.box (u17.box h91 ap9) ap12
  have h100 : Sl cIRule r1.2.2 pv8 := h95
  have h101 : Box (.ptr i2 0) [pv7, pv8] S := h96
  refine Evr.regionN rfl (Opl.ldb (v := .agg [pv7, pv8]) h101 rfl T26 rfl rfl rfl rfl (Opl.stb (vs := [pv7, pv8]) h99 rfl rfl Z26 rfl (Nat.le_of_ble_eq_true rfl) (by simp only [List.all_cons, List.all_nil, h93.one, h100.one, Bool.and_true, Bool.true_and] <;> rfl) rfl rfl rfl ?_))
  rintro S (h102 : Box (.ptr i1 0) [pv7, pv8] _) u19
  have h103 := u19.sameP h97 ap1
  have h104 := u19.box h98 ap2
  have h105 := u19.box h101 ap12.symm
  refine Opl.nil ?_
  obtain rfl := Option.some.inj H
  refine Evr.retb (v := .agg [pv7, pv8]) Try.func48 rfl h102 rfl T26 rfl ?_
  exact ⟨_, _, rfl, h93, h100, h104, h103⟩
 rw [if_neg c5] at H
 have e5 : (r3.2 == 1) = false := by simpa using c5
 try rw [e5]
 refine Evr.condF rfl (Evr.sr rfl (Opl.p1 (n := Opl.p1 (n := Opl.p1 (n := ?_)))))
 by_cases c8 : r3.2 = 2
 case neg =>
  rw [if_neg c8] at H
  have e21 : (r3.2 == 2) = false := by simpa using c8
  try rw [e21]
  refine Opl.skp rfl (Opl.skp rfl (Opl.skp rfl (Opl.skp rfl (Opl.p1 (n := Opl.nil (Evr.condF rfl (Evr.sr rfl (Opl.p1 (n := Opl.p1 (n := Opl.p1 (n := ?_)))))))))))
  by_cases c19 : r3.2 = 3
  case neg =>
   rw [if_neg c19] at H
   have e29 : (r3.2 == 3) = false := by simpa using c19
   try rw [e29]
   refine Opl.skp rfl (Opl.skp rfl (Opl.skp rfl (Opl.skp rfl (Opl.p1 (n := Opl.nil (Evr.condF rfl (Evr.sr rfl (Opl.p1 (n := Opl.p1 (n := Opl.nil ?_))))))))))
   by_cases c25 : r3.2 = 4
   case pos =>
    rw [if_pos c25] at H
    have e30 : (r3.2 == 4) = true := by simpa using c25
    try rw [e30]
    refine Evr.condT rfl (Evr.regionN rfl (Opl.p1 (v := .ptr i2 0) (n := Opl.stb (vs := [.lit (.slice none 0 0)]) h32 rfl rfl Z23 rfl (Nat.le_of_ble_eq_true rfl) rfl rfl rfl rfl ?_)))
    rintro S (h563 : Box (.ptr i2 0) [.lit (.slice none 0 0), pv2] _) u88
    have h564 := u88.sameP h28 ap10
    have h565 := u88.box h27 ap11
    have h566 := u88.box h29 ap12
    have h567 := u88.vec h30 ap13
    have h568 := u88.tree h31 ap14
    refine Opl.nil (Evr.seq (Evr.frzcT [.lit (.slice none 0 0)] [] h563 h568 ap14 ?_))
    rintro pv75 S1_ S h569 u89 u90 h570
    have h571 := u90.sameP (u89.sameP h564 ap7) ap10
    have h572 := u90.box (u89.box h565 ap8) ap11
    have h573 := u90.box (u89.box h566 ap9) ap12
    have h574 := u90.vec (u89.vec h567 ap3) ap13
    have h575 : Sl cIRule r1.2.2 pv75 := h569
    have h576 : Box (.ptr i2 0) [.lit (.slice none 0 0), pv75] S := h570
    refine Evr.regionN rfl (Opl.ldb (v := .agg [.lit (.slice none 0 0), pv75]) h576 rfl T26 rfl rfl rfl rfl (Opl.stb (vs := [.lit (.slice none 0 0), pv75]) h573 rfl rfl Z26 rfl (Nat.le_of_ble_eq_true rfl) (by simp only [List.all_cons, List.all_nil, h575.one, Bool.and_true, Bool.true_and] <;> rfl) rfl rfl rfl ?_))
    rintro S (h577 : Box (.ptr i1 0) [.lit (.slice none 0 0), pv75] _) u91
    have h578 := u91.sameP h571 ap1
    have h579 := u91.box h572 ap2
    have h580 := u91.vec h574 ap6.symm
    have h581 := u91.box h576 ap12.symm
    refine Opl.nil ?_
    obtain rfl := Option.some.inj H
    refine Evr.retb (v := .agg [.lit (.slice none 0 0), pv75]) Try.func48 rfl h577 rfl T26 rfl ?_
    exact ⟨_, _, rfl, .nil, h575, h579, h578⟩
   rw [if_neg c25] at H
   have e31 : (r3.2 == 4) = false := by simpa using c25
   try rw [e31]
   refine Evr.condF rfl (Evr.sr rfl (Opl.p1 (v := .ptr i2 1) (n := Opl.ldb (v := pv2) h32 rfl T24 rfl rfl rfl rfl (Opl.leno (by exact oRow_len h31) K24 rfl rfl rfl rfl (Opl.p1 (n := Opl.nil ?_))))))
   by_cases c26 : (r1.2.2.length : Int) > 0
   case neg =>
    rw [if_neg c26] at H
    have e33 : (decide ((r1.2.2.length : Int) > 0)) = false := by simpa using c26
    try rw [e33]
    refine Evr.condF rfl (Evr.skip (Evr.seq (Evr.frzc [] [pv2] h32 h30 ap13 ?_)))
    rintro pv87 S1_ S h646 u99 u100 h647
    have h648 := u100.sameP (u99.sameP h28 ap4) ap10
    have h649 := u100.box (u99.box h27 ap5) ap11
    have h650 := u100.box (u99.box h29 ap6) ap12
    have h651 := u100.tree (u99.tree h31 ap3) ap14
    have h652 : Sl cIVar r1.2.1 pv87 := h646
    have h653 : Box (.ptr i2 0) [pv87, pv2] S := h647
    refine Evr.frzcT [pv87] [] h653 h651 ap14 ?_
    rintro pv88 S1_ S h654 u101 u102 h655
    have h656 := u102.sameP (u101.sameP h648 ap7) ap10
    have h657 := u102.box (u101.box h649 ap8) ap11
    have h658 := u102.box (u101.box h650 ap9) ap12
    have h659 : Sl cIRule r1.2.2 pv88 := h654
    have h660 : Box (.ptr i2 0) [pv87, pv88] S := h655
    refine Evr.regionN rfl (Opl.ldb (v := .agg [pv87, pv88]) h660 rfl T26 rfl rfl rfl rfl (Opl.stb (vs := [pv87, pv88]) h658 rfl rfl Z26 rfl (Nat.le_of_ble_eq_true rfl) (by simp only [List.all_cons, List.all_nil, h652.one, h659.one, Bool.and_true, Bool.true_and] <;> rfl) rfl rfl rfl ?_))
    rintro S (h661 : Box (.ptr i1 0) [pv87, pv88] _) u103
    have h662 := u103.sameP h656 ap1
    have h663 := u103.box h657 ap2
    have h664 := u103.box h660 ap12.symm
    refine Opl.nil ?_
    obtain rfl := Option.some.inj H
    refine Evr.retb (v := .agg [pv87, pv88]) Try.func48 rfl h661 rfl T26 rfl ?_
    exact ⟨_, _, rfl, h652, h659, h663, h662⟩
   rw [if_pos c26] at H
   have e32 : (decide ((r1.2.2.length : Int) > 0)) = true := by simpa using c26
   try rw [e32]
   refine Evr.condT rfl ?_
   obtain ⟨d11, pv76, pv77, pv78, q13, j7, rfl, h582, h583, h584, h585, h586, ap91, ap92, ap93, ap94, ap95, ap96, z29, z30, z31, z32⟩ := od3_open0 h31 (zIRule : IRule) (by omega)
   refine Evr.regionL [(1, .q), (3, .q), (6, .q), (8, .m), (9, .m), (10, .m)] rfl (by kernel_rfl) (Opl.p1 (v := .ptr i2 1) (n := Opl.ldbk (v := .loc d11 0 r1.2.2.length) h32 rfl rfl T24 rfl rfl rfl rfl (Opl.p1 (v := .ptr i2 1) (n := Opl.ldbk (v := .loc d11 0 r1.2.2.length) h32 rfl rfl T24 rfl rfl rfl rfl (Opl.id0 rfl rfl (by omega) K24 Z72 rfl rfl (Opl.p1 (v := .ptr d11 2) (n := Opl.ldok (v := pv78) h582 (rd_row (by decide)) rfl T70 rfl rfl rfl rfl ?_)))))))
   obtain ⟨r9, h_r9, H⟩ := Option.bind_eq_some_iff.1 H
   refine Opl.call (spec_l2Const.ev h_r9) rfl rfl rfl rfl ⟨(.lit _), trivial⟩ (by decide) ?_
   rintro _ ⟨_, _, _, _, rfl, rfl, rfl, rfl, rfl⟩
   refine Opl.litm (M := cITerm) (ys := [(⟨r9.1, r9.2.1, r9.2.2.1, r9.2.2.2⟩ : ITerm)]) [.tmp 92] K44 T95 rfl rfl rfl (by exact ⟨cITerm_mk, trivial⟩) rfl (by decide) rfl rfl rfl ?_
   rintro pv81 S h588 g11
   have h589 := g11.sameP h28
   have h590 := g11.box h27
   have h591 := g11.box h29
   have h592 := g11.vec h30
   have h593 := g11.box h32
   have h594 := g11.vec h584
   have h595 := g11.vec h585
   have h596 := g11.rows h586
   have h597 := g11.obj h582
   refine Opl.litm (M := (cSl cITerm)) (ys := [[(⟨r9.1, r9.2.1, r9.2.2.1, r9.2.2.2⟩ : ITerm)]]) [.tmp 93] K70 T44 rfl rfl rfl (by exact ⟨⟨_, by first | rfl | exact h588.cells, h588⟩, trivial⟩) rfl (by decide) rfl rfl rfl ?_
   rintro pv83 S h598 g12
   have h599 := g12.sameP h589
   have h600 := g12.box h590
   have h601 := g12.box h591
   have h602 := g12.vec h592
   have h603 := g12.box h593
   have h604 := g12.vec h594
   have h605 := g12.vec h595
   have h606 := g12.rows h596
   have h607 := g12.obj h597
   obtain ⟨c27, H⟩ := peel H
   refine Opl.appm rfl (M := (cSl cITerm)) (xs := ((r1.2.2.getD 0 (zIRule : IRule)).f2)) (ys := [[(⟨r9.1, r9.2.1, r9.2.2.1, r9.2.2.2⟩ : ITerm)]]) (v := pv78) h605 (.sl h598) (oSl cITerm) rfl rfl K70 T44 rfl rfl (by (try simp only [List.length_cons, List.length_nil]); omega) (by show (_ + _) * 24 ≤ 140737488355328; (try simp only [List.length_cons, List.length_nil]); omega) rfl rfl rfl rfl rfl ?_
   rintro pv84 S h608 u92 w35
   have ap97 := w35.sameP h599
   have h609 := u92.sameP h599 (OutT.sub ap7 z30)
   have ap98 := w35.box h600
   have h610 := u92.box h600 (ApT.sub ap8 z30).ap
   have ap99 := w35.box h601
   have h611 := u92.box h601 (ApT.sub ap9 z30).ap
   have ap100 := w35.vec h602
   have h612 := u92.vec h602 (ApT.sub ap3 z30).ap
   have ap101 := w35.box h603
   have h613 := u92.box h603 (ApT.sub ap14 z30).ap
   have ap102 := w35.vec h604
   have h614 := u92.vec h604 ap91
   have ap103 := w35.rows h606
   have h615 := u92.rows h606 ap95
   have ap104 := w35.obj h607
   have h616 := u92.obj h607 ap93.symm
   refine Opl.id0 rfl rfl (by omega) K24 Z72 rfl rfl (Opl.p1 (v := .ptr d11 2) (n := Opl.stob (cs' := pv76 :: pv77 :: pv84 :: q13) (vs := [pv84]) h616 rfl (by exact Vec.cells h608) rfl Z70 rfl (by simp only [List.length_cons]; omega) (by simp only [List.all_cons, List.all_nil, Vec.one h608, Bool.and_true, Bool.true_and] <;> rfl) rfl rfl rfl ?_))
   rintro S h617 u93
   have h618 := u93.sameP h609 (OutT.sub ap7 z31)
   have h619 := u93.box h610 (ApT.sub ap8 z31).ap
   have h620 := u93.box h611 (ApT.sub ap9 z31).ap
   have h621 := u93.vec h612 (ApT.sub ap3 z31).ap
   have h622 := u93.box h613 (ApT.sub ap14 z31).ap
   have h623 := u93.vec h614 ap92
   have h624 := u93.rows h615 ap96
   have h625 := u93.vec h608 ap104.symm
   have h626 : (oRow odIRule).R S (d11 :: ((pv77.id?.toList ++ pv84.id?.toList) ++ j7)) ((⟨(r1.2.2.getD 0 (zIRule : IRule)).f0, (r1.2.2.getD 0 (zIRule : IRule)).f1, (((r1.2.2.getD 0 (zIRule : IRule)).f2) ++ [[(⟨r9.1, r9.2.1, r9.2.2.1, r9.2.2.2⟩ : ITerm)]])⟩ : IRule) :: r1.2.2.tail) [(PV.loc d11 0 r1.2.2.length)] := od3_close0 (l := r1.2.2) rfl (by rw [List.length_tail]; omega) h617 h583 h623 h625 h624 ap102 ap92 ap104.symm ap94 ap103 ap96
   refine Opl.nil (Evr.seq (Evr.frzc [] [(PV.loc d11 0 r1.2.2.length)] h622 h621 ap13 ?_))
   rintro pv85 S1_ S h627 u94 u95 h628
   have h629 := u95.sameP (u94.sameP h618 ap4) ap10
   have h630 := u95.box (u94.box h619 ap5) ap11
   have h631 := u95.box (u94.box h620 ap6) ap12
   have h632 := u95.tree (u94.tree h626 (ApT.cons (ApT.sub ap3 z31).ap ((ApT.app (Ap.apT (ApT.sub ap3 z29).ap) (Ap.apT ap100)).app (ApT.sub ap3 z32)))) (ApT.cons (ApT.sub ap14 z31).ap ((ApT.app (Ap.apT (ApT.sub ap14 z29).ap) (Ap.apT ap101)).app (ApT.sub ap14 z32)))
   have h633 : Sl cIVar r1.2.1 pv85 := h627
   have h634 : Box (.ptr i2 0) [pv85, (PV.loc d11 0 r1.2.2.length)] S := h628
   refine Evr.frzcT [pv85] [] h634 h632 (ApT.cons (ApT.sub ap14 z31).ap ((ApT.app (Ap.apT (ApT.sub ap14 z29).ap) (Ap.apT ap101)).app (ApT.sub ap14 z32))) ?_
   rintro pv86 S1_ S h635 u96 u97 h636
   have h637 := u97.sameP (u96.sameP h629 (OutT.cons (OutT.sub ap7 z31) ((OutT.app (OutT.sub ap7 z29) ap97).app (OutT.sub ap7 z32)))) ap10
   have h638 := u97.box (u96.box h630 (ApT.cons (ApT.sub ap8 z31).ap ((ApT.app (Ap.apT (ApT.sub ap8 z29).ap) (Ap.apT ap98)).app (ApT.sub ap8 z32)))) ap11
   have h639 := u97.box (u96.box h631 (ApT.cons (ApT.sub ap9 z31).ap ((ApT.app (Ap.apT (ApT.sub ap9 z29).ap) (Ap.apT ap99)).app (ApT.sub ap9 z32)))) ap12
   have h640 : Sl cIRule ((⟨(r1.2.2.getD 0 (zIRule : IRule)).f0, (r1.2.2.getD 0 (zIRule : IRule)).f1, (((r1.2.2.getD 0 (zIRule : IRule)).f2) ++ [[(⟨r9.1, r9.2.1, r9.2.2.1, r9.2.2.2⟩ : ITerm)]])⟩ : IRule) :: r1.2.2.tail) pv86 := h635
   have h641 : Box (.ptr i2 0) [pv85, pv86] S := h636
   refine Evr.regionN rfl (Opl.ldb (v := .agg [pv85, pv86]) h641 rfl T26 rfl rfl rfl rfl (Opl.stb (vs := [pv85, pv86]) h639 rfl rfl Z26 rfl (Nat.le_of_ble_eq_true rfl) (by simp only [List.all_cons, List.all_nil, h633.one, h640.one, Bool.and_true, Bool.true_and] <;> rfl) rfl rfl rfl ?_))
   rintro S (h642 : Box (.ptr i1 0) [pv85, pv86] _) u98
   have h643 := u98.sameP h637 ap1
   have h644 := u98.box h638 ap2
   have h645 := u98.box h641 ap12.symm
   refine Opl.nil ?_
   obtain rfl := Option.some.inj H
   refine Evr.retb (v := .agg [pv85, pv86]) Try.func48 rfl h642 rfl T26 rfl ?_
   exact ⟨_, _, rfl, h633, h640, h644, h643⟩
  rw [if_pos c19] at H
  have e22 : (r3.2 == 3) = true := by simpa using c19
  try rw [e22]
  refine Opl.p1 (v := .ptr i2 1) (n := Opl.ldb (v := pv2) h32 rfl T24 rfl rfl rfl rfl (Opl.leno (by exact oRow_len h31) K24 rfl rfl rfl rfl (Opl.p1 (n := Opl.p1 (n := Opl.nil ?_)))))
  by_cases c20 : (r1.2.2.length : Int) > 0
  case pos =>
   rw [if_pos c20] at H
   have e23 : (decide ((r1.2.2.length : Int) > 0)) = true := by simpa using c20
   try rw [e23]
   refine Evr.condT rfl ?_
   obtain ⟨d9, pv53, pv54, pv55, q11, j5, rfl, h408, h409, h410, h411, h412, ap63, ap64, ap65, ap66, ap67, ap68, z21, z22, z23, z24⟩ := od3_open0 h31 (zIRule : IRule) (by omega)
   refine Evr.regionL [(1, .q), (3, .q), (6, .q), (8, .q), (10, .m), (11, .m)] rfl (by kernel_rfl) (Opl.p1 (v := .ptr i2 1) (n := Opl.ldbk (v := .loc d9 0 r1.2.2.length) h32 rfl rfl T24 rfl rfl rfl rfl (Opl.p1 (v := .ptr i2 1) (n := Opl.ldbk (v := .loc d9 0 r1.2.2.length) h32 rfl rfl T24 rfl rfl rfl rfl ?_))))
   obtain ⟨c21, H⟩ := peel H
   refine Opl.id0 rfl rfl (by omega) K24 Z72 rfl rfl (Opl.p1 (v := .ptr d9 1) (n := Opl.ldok (v := pv54) h408 (rd_row (by decide)) rfl T29 rfl rfl rfl rfl (Opl.p1 (v := .ptr i2 0) (n := Opl.ldbk (v := pv1) h32 rfl rfl T23 rfl rfl rfl rfl (Opl.lenv (xs := r1.2.1) (by exact h30) K23 rfl rfl rfl rfl (Opl.litm (M := (cInt .i64)) (ys := [(r1.2.1.length : Int)]) [.tmp 73] K29 T3 rfl rfl rfl (by exact ⟨rfl, trivial⟩) rfl (by decide) rfl rfl rfl ?_))))))
   rintro pv57 S h413 g8
   have h414 := g8.sameP h28
   have h415 := g8.box h27
   have h416 := g8.box h29
   have h417 := g8.vec h30
   have h418 := g8.box h32
   have h419 := g8.vec h410
   have h420 := g8.vec h411
   have h421 := g8.rows h412
   have h422 := g8.obj h408
   refine Opl.appm rfl (M := (cInt .i64)) (xs := ((r1.2.2.getD 0 (zIRule : IRule)).f1)) (ys := [(r1.2.1.length : Int)]) (v := pv54) h419 (.sl h413) (oInt .i64) rfl rfl K29 T3 rfl rfl (by (try simp only [List.length_cons, List.length_nil]); omega) (by show (_ + _) * 8 ≤ 140737488355328; (try simp only [List.length_cons, List.length_nil]); omega) rfl rfl rfl rfl rfl ?_
   rintro pv58 S h423 u65 w24
   have ap69 := w24.sameP h414
   have h424 := u65.sameP h414 (OutT.sub ap7 z21)
   have ap70 := w24.box h415
   have h425 := u65.box h415 (ApT.sub ap8 z21).ap
   have ap71 := w24.box h416
   have h426 := u65.box h416 (ApT.sub ap9 z21).ap
   have ap72 := w24.vec h417
   have h427 := u65.vec h417 (ApT.sub ap3 z21).ap
   have ap73 := w24.box h418
   have h428 := u65.box h418 (ApT.sub ap14 z21).ap
   have ap74 := w24.vec h420
   have h429 := u65.vec h420 ap63.symm
   have ap75 := w24.rows h421
   have h430 := u65.rows h421 ap66
   have ap76 := w24.obj h422
   have h431 := u65.obj h422 ap64.symm
   refine Opl.id0 rfl rfl (by omega) K24 Z72 rfl rfl (Opl.p1 (v := .ptr d9 1) (n := Opl.stob (cs' := pv53 :: pv58 :: pv55 :: q11) (vs := [pv58]) h431 rfl (by exact Vec.cells h423) rfl Z29 rfl (by simp only [List.length_cons]; omega) (by simp only [List.all_cons, List.all_nil, Vec.one h423, Bool.and_true, Bool.true_and] <;> rfl) rfl rfl rfl ?_))
   rintro S h432 u66
   have h433 := u66.sameP h424 (OutT.sub ap7 z23)
   have h434 := u66.box h425 (ApT.sub ap8 z23).ap
   have h435 := u66.box h426 (ApT.sub ap9 z23).ap
   have h436 := u66.vec h427 (ApT.sub ap3 z23).ap
   have h437 := u66.box h428 (ApT.sub ap14 z23).ap
   have h438 := u66.vec h429 ap65
   have h439 := u66.rows h430 ap68
   have h440 := u66.vec h423 ap76.symm
   have h441 : (oRow odIRule).R S (d9 :: ((pv58.id?.toList ++ pv55.id?.toList) ++ j5)) ((⟨(r1.2.2.getD 0 (zIRule : IRule)).f0, (((r1.2.2.getD 0 (zIRule : IRule)).f1) ++ [(r1.2.1.length : Int)]), (r1.2.2.getD 0 (zIRule : IRule)).f2⟩ : IRule) :: r1.2.2.tail) [(PV.loc d9 0 r1.2.2.length)] := od3_close0 (l := r1.2.2) rfl (by rw [List.length_tail]; omega) h432 h409 h440 h438 h439 ap74.symm ap76.symm ap65 ap75 ap67 ap68
   refine Opl.nil (Evr.seq (Evr.frzc [] [(PV.loc d9 0 r1.2.2.length)] h437 h436 ap13 ?_))
   rintro pv59 S1_ S h442 u67 u68 h443
   have h444 := u68.sameP (u67.sameP h433 ap4) ap10
   have h445 := u68.box (u67.box h434 ap5) ap11
   have h446 := u68.box (u67.box h435 ap6) ap12
   have h447 := u68.tree (u67.tree h441 (ApT.cons (ApT.sub ap3 z23).ap ((ApT.app (Ap.apT ap72) (Ap.apT (ApT.sub ap3 z22).ap)).app (ApT.sub ap3 z24)))) (ApT.cons (ApT.sub ap14 z23).ap ((ApT.app (Ap.apT ap73) (Ap.apT (ApT.sub ap14 z22).ap)).app (ApT.sub ap14 z24)))
   have h448 : Sl cIVar r1.2.1 pv59 := h442
   have h449 : Box (.ptr i2 0) [pv59, (PV.loc d9 0 r1.2.2.length)] S := h443
   refine Evr.frzcT [pv59] [] h449 h447 (ApT.cons (ApT.sub ap14 z23).ap ((ApT.app (Ap.apT ap73) (Ap.apT (ApT.sub ap14 z22).ap)).app (ApT.sub ap14 z24))) ?_
   rintro pv60 S1_ S h450 u69 u70 h451
   have h452 := u70.sameP (u69.sameP h444 (OutT.cons (OutT.sub ap7 z23) ((OutT.app ap69 (OutT.sub ap7 z22)).app (OutT.sub ap7 z24)))) ap10
   have h453 := u70.box (u69.box h445 (ApT.cons (ApT.sub ap8 z23).ap ((ApT.app (Ap.apT ap70) (Ap.apT (ApT.sub ap8 z22).ap)).app (ApT.sub ap8 z24)))) ap11
   have h454 := u70.box (u69.box h446 (ApT.cons (ApT.sub ap9 z23).ap ((ApT.app (Ap.apT ap71) (Ap.apT (ApT.sub ap9 z22).ap)).app (ApT.sub ap9 z24)))) ap12
   have h455 : Sl cIRule ((⟨(r1.2.2.getD 0 (zIRule : IRule)).f0, (((r1.2.2.getD 0 (zIRule : IRule)).f1) ++ [(r1.2.1.length : Int)]), (r1.2.2.getD 0 (zIRule : IRule)).f2⟩ : IRule) :: r1.2.2.tail) pv60 := h450
   have h456 : Box (.ptr i2 0) [pv59, pv60] S := h451
   refine Evr.regionN rfl (Opl.ldb (v := .agg [pv59, pv60]) h456 rfl T26 rfl rfl rfl rfl (Opl.stb (vs := [pv59, pv60]) h454 rfl rfl Z26 rfl (Nat.le_of_ble_eq_true rfl) (by simp only [List.all_cons, List.all_nil, h448.one, h455.one, Bool.and_true, Bool.true_and] <;> rfl) rfl rfl rfl ?_))
   rintro S (h457 : Box (.ptr i1 0) [pv59, pv60] _) u71
   have h458 := u71.sameP h452 ap1
   have h459 := u71.box h453 ap2
   have h460 := u71.box h456 ap12.symm
   refine Opl.nil ?_
   obtain rfl := Option.some.inj H
   refine Evr.retb (v := .agg [pv59, pv60]) Try.func48 rfl h457 rfl T26 rfl ?_
   exact ⟨_, _, rfl, h448, h455, h459, h458⟩
  rw [if_neg c20] at H
  have e24 : (decide ((r1.2.2.length : Int) > 0)) = false := by simpa using c20
  try rw [e24]
  refine Evr.condF rfl (Evr.sr rfl (Opl.p1 (n := Opl.p1 (n := Opl.nil ?_))))
  by_cases c22 : r3.2 = 4
  case pos =>
   rw [if_pos c22] at H
   have e25 : (r3.2 == 4) = true := by simpa using c22
   try rw [e25]
   refine Evr.condT rfl (Evr.regionN rfl (Opl.p1 (v := .ptr i2 0) (n := Opl.stb (vs := [.lit (.slice none 0 0)]) h32 rfl rfl Z23 rfl (Nat.le_of_ble_eq_true rfl) rfl rfl rfl rfl ?_)))
   rintro S (h461 : Box (.ptr i2 0) [.lit (.slice none 0 0), pv2] _) u72
   have h462 := u72.sameP h28 ap10
   have h463 := u72.box h27 ap11
   have h464 := u72.box h29 ap12
   have h465 := u72.vec h30 ap13
   have h466 := u72.tree h31 ap14
   refine Opl.nil (Evr.seq (Evr.frzcT [.lit (.slice none 0 0)] [] h461 h466 ap14 ?_))
   rintro pv61 S1_ S h467 u73 u74 h468
   have h469 := u74.sameP (u73.sameP h462 ap7) ap10
   have h470 := u74.box (u73.box h463 ap8) ap11
   have h471 := u74.box (u73.box h464 ap9) ap12
   have h472 := u74.vec (u73.vec h465 ap3) ap13
   have h473 : Sl cIRule r1.2.2 pv61 := h467
   have h474 : Box (.ptr i2 0) [.lit (.slice none 0 0), pv61] S := h468
   refine Evr.regionN rfl (Opl.ldb (v := .agg [.lit (.slice none 0 0), pv61]) h474 rfl T26 rfl rfl rfl rfl (Opl.stb (vs := [.lit (.slice none 0 0), pv61]) h471 rfl rfl Z26 rfl (Nat.le_of_ble_eq_true rfl) (by simp only [List.all_cons, List.all_nil, h473.one, Bool.and_true, Bool.true_and] <;> rfl) rfl rfl rfl ?_))
   rintro S (h475 : Box (.ptr i1 0) [.lit (.slice none 0 0), pv61] _) u75
   have h476 := u75.sameP h469 ap1
   have h477 := u75.box h470 ap2
   have h478 := u75.vec h472 ap6.symm
   have h479 := u75.box h474 ap12.symm
   refine Opl.nil ?_
   obtain rfl := Option.some.inj H
   refine Evr.retb (v := .agg [.lit (.slice none 0 0), pv61]) Try.func48 rfl h475 rfl T26 rfl ?_
   exact ⟨_, _, rfl, .nil, h473, h477, h476⟩
  rw [if_neg c22] at H
  have e26 : (r3.2 == 4) = false := by simpa using c22
  try rw [e26]
  refine Evr.condF rfl (Evr.sr rfl (Opl.p1 (v := .ptr i2 1) (n := Opl.ldb (v := pv2) h32 rfl T24 rfl rfl rfl rfl (Opl.leno (by exact oRow_len h31) K24 rfl rfl rfl rfl (Opl.p1 (n := Opl.nil ?_))))))
  by_cases c23 : (r1.2.2.length : Int) > 0
  case neg =>
   rw [if_neg c23] at H
   have e28 : (decide ((r1.2.2.length : Int) > 0)) = false := by simpa using c23
   try rw [e28]
   refine Evr.condF rfl (Evr.skip (Evr.seq (Evr.frzc [] [pv2] h32 h30 ap13 ?_)))
   rintro pv73 S1_ S h544 u83 u84 h545
   have h546 := u84.sameP (u83.sameP h28 ap4) ap10
   have h547 := u84.box (u83.box h27 ap5) ap11
   have h548 := u84.box (u83.box h29 ap6) ap12
   have h549 := u84.tree (u83.tree h31 ap3) ap14
   have h550 : Sl cIVar r1.2.1 pv73 := h544
   have h551 : Box (.ptr i2 0) [pv73, pv2] S := h545
   refine Evr.frzcT [pv73] [] h551 h549 ap14 ?_
   rintro pv74 S1_ S h552 u85 u86 h553
   have h554 := u86.sameP (u85.sameP h546 ap7) ap10
   have h555 := u86.box (u85.box h547 ap8) ap11
   have h556 := u86.box (u85.box h548 ap9) ap12
   have h557 : Sl cIRule r1.2.2 pv74 := h552
   have h558 : Box (.ptr i2 0) [pv73, pv74] S := h553
   refine Evr.regionN rfl (Opl.ldb (v := .agg [pv73, pv74]) h558 rfl T26 rfl rfl rfl rfl (Opl.stb (vs := [pv73, pv74]) h556 rfl rfl Z26 rfl (Nat.le_of_ble_eq_true rfl) (by simp only [List.all_cons, List.all_nil, h550.one, h557.one, Bool.and_true, Bool.true_and] <;> rfl) rfl rfl rfl ?_))
   rintro S (h559 : Box (.ptr i1 0) [pv73, pv74] _) u87
   have h560 := u87.sameP h554 ap1
   have h561 := u87.box h555 ap2
   have h562 := u87.box h558 ap12.symm
   refine Opl.nil ?_
   obtain rfl := Option.some.inj H
   refine Evr.retb (v := .agg [pv73, pv74]) Try.func48 rfl h559 rfl T26 rfl ?_
   exact ⟨_, _, rfl, h550, h557, h561, h560⟩
  rw [if_pos c23] at H
  have e27 : (decide ((r1.2.2.length : Int) > 0)) = true := by simpa using c23
  try rw [e27]
  refine Evr.condT rfl ?_
  obtain ⟨d10, pv62, pv63, pv64, q12, j6, rfl, h480, h481, h482, h483, h484, ap77, ap78, ap79, ap80, ap81, ap82, z25, z26, z27, z28⟩ := od3_open0 h31 (zIRule : IRule) (by omega)
  refine Evr.regionL [(1, .q), (3, .q), (6, .q), (8, .m), (9, .m), (10, .m)] rfl (by kernel_rfl) (Opl.p1 (v := .ptr i2 1) (n := Opl.ldbk (v := .loc d10 0 r1.2.2.length) h32 rfl rfl T24 rfl rfl rfl rfl (Opl.p1 (v := .ptr i2 1) (n := Opl.ldbk (v := .loc d10 0 r1.2.2.length) h32 rfl rfl T24 rfl rfl rfl rfl (Opl.id0 rfl rfl (by omega) K24 Z72 rfl rfl (Opl.p1 (v := .ptr d10 2) (n := Opl.ldok (v := pv64) h480 (rd_row (by decide)) rfl T70 rfl rfl rfl rfl ?_)))))))
  obtain ⟨r8, h_r8, H⟩ := Option.bind_eq_some_iff.1 H
  refine Opl.call (spec_l2Const.ev h_r8) rfl rfl rfl rfl ⟨(.lit _), trivial⟩ (by decide) ?_
  rintro _ ⟨_, _, _, _, rfl, rfl, rfl, rfl, rfl⟩
  refine Opl.litm (M := cITerm) (ys := [(⟨r8.1, r8.2.1, r8.2.2.1, r8.2.2.2⟩ : ITerm)]) [.tmp 92] K44 T95 rfl rfl rfl (by exact ⟨cITerm_mk, trivial⟩) rfl (by decide) rfl rfl rfl ?_
  rintro pv67 S h486 g9
  have h487 := g9.sameP h28
  have h488 := g9.box h27
  have h489 := g9.box h29
  have h490 := g9.vec h30
  have h491 := g9.box h32
  have h492 := g9.vec h482
  have h493 := g9.vec h483
  have h494 := g9.rows h484
  have h495 := g9.obj h480
  refine Opl.litm (M := (cSl cITerm)) (ys := [[(⟨r8.1, r8.2.1, r8.2.2.1, r8.2.2.2⟩ : ITerm)]]) [.tmp 93] K70 T44 rfl rfl rfl (by exact ⟨⟨_, by first | rfl | exact h486.cells, h486⟩, trivial⟩) rfl (by decide) rfl rfl rfl ?_
  rintro pv69 S h496 g10
  have h497 := g10.sameP h487
  have h498 := g10.box h488
  have h499 := g10.box h489
  have h500 := g10.vec h490
  have h501 := g10.box h491
  have h502 := g10.vec h492
  have h503 := g10.vec h493
  have h504 := g10.rows h494
  have h505 := g10.obj h495
  obtain ⟨c24, H⟩ := peel H
  refine Opl.appm rfl (M := (cSl cITerm)) (xs := ((r1.2.2.getD 0 (zIRule : IRule)).f2)) (ys := [[(⟨r8.1, r8.2.1, r8.2.2.1, r8.2.2.2⟩ : ITerm)]]) (v := pv64) h503 (.sl h496) (oSl cITerm) rfl rfl K70 T44 rfl rfl (by (try simp only [List.length_cons, List.length_nil]); omega) (by show (_ + _) * 24 ≤ 140737488355328; (try simp only [List.length_cons, List.length_nil]); omega) rfl rfl rfl rfl rfl ?_
  rintro pv70 S h506 u76 w29
  have ap83 := w29.sameP h497
  have h507 := u76.sameP h497 (OutT.sub ap7 z26)
  have ap84 := w29.box h498
  have h508 := u76.box h498 (ApT.sub ap8 z26).ap
  have ap85 := w29.box h499
  have h509 := u76.box h499 (ApT.sub ap9 z26).ap
  have ap86 := w29.vec h500
  have h510 := u76.vec h500 (ApT.sub ap3 z26).ap
  have ap87 := w29.box h501
  have h511 := u76.box h501 (ApT.sub ap14 z26).ap
  have ap88 := w29.vec h502
  have h512 := u76.vec h502 ap77
  have ap89 := w29.rows h504
  have h513 := u76.rows h504 ap81
  have ap90 := w29.obj h505
  have h514 := u76.obj h505 ap79.symm
  refine Opl.id0 rfl rfl (by omega) K24 Z72 rfl rfl (Opl.p1 (v := .ptr d10 2) (n := Opl.stob (cs' := pv62 :: pv63 :: pv70 :: q12) (vs := [pv70]) h514 rfl (by exact Vec.cells h506) rfl Z70 rfl (by simp only [List.length_cons]; omega) (by simp only [List.all_cons, List.all_nil, Vec.one h506, Bool.and_true, Bool.true_and] <;> rfl) rfl rfl rfl ?_))
  rintro S h515 u77
  have h516 := u77.sameP h507 (OutT.sub ap7 z27)
  have h517 := u77.box h508 (ApT.sub ap8 z27).ap
  have h518 := u77.box h509 (ApT.sub ap9 z27).ap
  have h519 := u77.vec h510 (ApT.sub ap3 z27).ap
  have h520 := u77.box h511 (ApT.sub ap14 z27).ap
  have h521 := u77.vec h512 ap78
  have h522 := u77.rows h513 ap82
  have h523 := u77.vec h506 ap90.symm
  have h524 : (oRow odIRule).R S (d10 :: ((pv63.id?.toList ++ pv70.id?.toList) ++ j6)) ((⟨(r1.2.2.getD 0 (zIRule : IRule)).f0, (r1.2.2.getD 0 (zIRule : IRule)).f1, (((r1.2.2.getD 0 (zIRule : IRule)).f2) ++ [[(⟨r8.1, r8.2.1, r8.2.2.1, r8.2.2.2⟩ : ITerm)]])⟩ : IRule) :: r1.2.2.tail) [(PV.loc d10 0 r1.2.2.length)] := od3_close0 (l := r1.2.2) rfl (by rw [List.length_tail]; omega) h515 h481 h521 h523 h522 ap88 ap78 ap90.symm ap80 ap89 ap82
  refine Opl.nil (Evr.seq (Evr.frzc [] [(PV.loc d10 0 r1.2.2.length)] h520 h519 ap13 ?_))
  rintro pv71 S1_ S h525 u78 u79 h526
  have h527 := u79.sameP (u78.sameP h516 ap4) ap10
  have h528 := u79.box (u78.box h517 ap5) ap11
  have h529 := u79.box (u78.box h518 ap6) ap12
  have h530 := u79.tree (u78.tree h524 (ApT.cons (ApT.sub ap3 z27).ap ((ApT.app (Ap.apT (ApT.sub ap3 z25).ap) (Ap.apT ap86)).app (ApT.sub ap3 z28)))) (ApT.cons (ApT.sub ap14 z27).ap ((ApT.app (Ap.apT (ApT.sub ap14 z25).ap) (Ap.apT ap87)).app (ApT.sub ap14 z28)))
  have h531 : Sl cIVar r1.2.1 pv71 := h525
  have h532 : Box (.ptr i2 0) [pv71, (PV.loc d10 0 r1.2.2.length)] S := h526
  refine Evr.frzcT [pv71] [] h532 h530 (ApT.cons (ApT.sub ap14 z27).ap ((ApT.app (Ap.apT (ApT.sub ap14 z25).ap) (Ap.apT ap87)).app (ApT.sub ap14 z28))) ?_
  rintro pv72 S1_ S h533 u80 u81 h534
  have h535 := u81.sameP (u80.sameP h527 (OutT.cons (OutT.sub ap7 z27) ((OutT.app (OutT.sub ap7 z25) ap83).app (OutT.sub ap7 z28)))) ap10
  have h536 := u81.box (u80.box h528 (ApT.cons (ApT.sub ap8 z27).ap ((ApT.app (Ap.apT (ApT.sub ap8 z25).ap) (Ap.apT ap84)).app (ApT.sub ap8 z28)))) ap11
  have h537 := u81.box (u80.box h529 (ApT.cons (ApT.sub ap9 z27).ap ((ApT.app (Ap.apT (ApT.sub ap9 z25).ap) (Ap.apT ap85)).app (ApT.sub ap9 z28)))) ap12
  have h538 : Sl cIRule ((⟨(r1.2.2.getD 0 (zIRule : IRule)).f0, (r1.2.2.getD 0 (zIRule : IRule)).f1, (((r1.2.2.getD 0 (zIRule : IRule)).f2) ++ [[(⟨r8.1, r8.2.1, r8.2.2.1, r8.2.2.2⟩ : ITerm)]])⟩ : IRule) :: r1.2.2.tail) pv72 := h533
  have h539 : Box (.ptr i2 0) [pv71, pv72] S := h534
  refine Evr.regionN rfl (Opl.ldb (v := .agg [pv71, pv72]) h539 rfl T26 rfl rfl rfl rfl (Opl.stb (vs := [pv71, pv72]) h537 rfl rfl Z26 rfl (Nat.le_of_ble_eq_true rfl) (by simp only [List.all_cons, List.all_nil, h531.one, h538.one, Bool.and_true, Bool.true_and] <;> rfl) rfl rfl rfl ?_))
  rintro S (h540 : Box (.ptr i1 0) [pv71, pv72] _) u82
  have h541 := u82.sameP h535 ap1
  have h542 := u82.box h536 ap2
  have h543 := u82.box h539 ap12.symm
  refine Opl.nil ?_
  obtain rfl := Option.some.inj H
  refine Evr.retb (v := .agg [pv71, pv72]) Try.func48 rfl h540 rfl T26 rfl ?_
  exact ⟨_, _, rfl, h531, h538, h542, h541⟩
 rw [if_pos c8] at H
 have e6 : (r3.2 == 2) = true := by simpa using c8
 try rw [e6]
 refine Opl.p1 (v := .ptr i2 1) (n := Opl.ldb (v := pv2) h32 rfl T24 rfl rfl rfl rfl (Opl.leno (by exact oRow_len h31) K24 rfl rfl rfl rfl (Opl.p1 (n := Opl.p1 (n := Opl.nil ?_)))))
 by_cases c9 : (r1.2.2.length : Int) > 0
 case pos =>
  rw [if_pos c9] at H
  have e7 : (decide ((r1.2.2.length : Int) > 0)) = true := by simpa using c9
  try rw [e7]
  refine Evr.condT rfl ?_
  obtain ⟨d5, pv9, pv10, pv11, q7, j1, rfl, h106, h107, h108, h109, h110, ap15, ap16, ap17, ap18, ap19, ap20, z5, z6, z7, z8⟩ := od3_open0 h31 (zIRule : IRule) (by omega)
  refine Evr.regionL [(1, .q), (3, .m)] rfl (by kernel_rfl) (Opl.p1 (v := .ptr i2 1) (n := Opl.ldbk (v := .loc d5 0 r1.2.2.length) h32 rfl rfl T24 rfl rfl rfl rfl ?_))
  obtain ⟨r5, h_r5, H⟩ := Option.bind_eq_some_iff.1 H
  refine Opl.call (spec_l2Const.ev h_r5) rfl rfl rfl rfl ⟨(.lit _), trivial⟩ (by decide) ?_
  rintro _ ⟨_, _, _, _, rfl, rfl, rfl, rfl, rfl⟩
  refine Opl.litm (M := cITerm) (ys := [(⟨r5.1, r5.2.1, r5.2.2.1, r5.2.2.2⟩ : ITerm)]) [.tmp 52] K44 T95 rfl rfl rfl (by exact ⟨cITerm_mk, trivial⟩) rfl (by decide) rfl rfl rfl ?_
  rintro pv14 S h112 g2
  have h113 := g2.sameP h28
  have h114 := g2.box h27
  have h115 := g2.box h29
  have h116 := g2.vec h30
  have h117 := g2.box h32
  have h118 := g2.vec h108
  have h119 := g2.vec h109
  have h120 := g2.rows h110
  have h121 := g2.obj h106
  refine Opl.id0 rfl rfl (by omega) K24 Z72 rfl rfl (Opl.p1 (v := .ptr d5 0) (n := Opl.stob (cs' := pv14 :: pv10 :: pv11 :: q7) (vs := [pv14]) h121 rfl (by exact h112.cells) rfl Z44 rfl (by simp only [List.length_cons]; omega) (by simp only [List.all_cons, List.all_nil, h112.one, Bool.and_true, Bool.true_and] <;> rfl) rfl rfl rfl ?_))
  rintro S h122 u20
  have h123 := u20.sameP h113 (OutT.sub ap7 z7)
  have h124 := u20.box h114 (ApT.sub ap8 z7).ap
  have h125 := u20.box h115 (ApT.sub ap9 z7).ap
  have h126 := u20.vec h116 (ApT.sub ap3 z7).ap
  have h127 := u20.box h117 (ApT.sub ap14 z7).ap
  have h128 := u20.vec h118 ap16
  have h129 := u20.vec h119 ap17
  have h130 := u20.rows h120 ap20
  have h131 : (oRow odIRule).R S (d5 :: ((pv10.id?.toList ++ pv11.id?.toList) ++ j1)) ((⟨[(⟨r5.1, r5.2.1, r5.2.2.1, r5.2.2.2⟩ : ITerm)], (r1.2.2.getD 0 (zIRule : IRule)).f1, (r1.2.2.getD 0 (zIRule : IRule)).f2⟩ : IRule) :: r1.2.2.tail) [(PV.loc d5 0 r1.2.2.length)] := od3_close0 (l := r1.2.2) rfl (by rw [List.length_tail]; omega) h122 h112 h128 h129 h130 ap15 ap16 ap17 ap18 ap19 ap20
  refine Opl.nil (Evr.seq (Evr.frzc [] [(PV.loc d5 0 r1.2.2.length)] h127 h126 ap13 ?_))
  rintro pv15 S1_ S h132 u21 u22 h133
  have h134 := u22.sameP (u21.sameP h123 ap4) ap10
  have h135 := u22.box (u21.box h124 ap5) ap11
  have h136 := u22.box (u21.box h125 ap6) ap12
  have h137 := u22.tree (u21.tree h131 (ApT.cons (ApT.sub ap3 z7).ap ((ApT.app (Ap.apT (ApT.sub ap3 z5).ap) (Ap.apT (ApT.sub ap3 z6).ap)).app (ApT.sub ap3 z8)))) (ApT.cons (ApT.sub ap14 z7).ap ((ApT.app (Ap.apT (ApT.sub ap14 z5).ap) (Ap.apT (ApT.sub ap14 z6).ap)).app (ApT.sub ap14 z8)))
  have h138 : Sl cIVar r1.2.1 pv15 := h132
  have h139 : Box (.ptr i2 0) [pv15, (PV.loc d5 0 r1.2.2.length)] S := h133
  refine Evr.frzcT [pv15] [] h139 h137 (ApT.cons (ApT.sub ap14 z7).ap ((ApT.app (Ap.apT (ApT.sub ap14 z5).ap) (Ap.apT (ApT.sub ap14 z6).ap)).app (ApT.sub ap14 z8))) ?_
  rintro pv16 S1_ S h140 u23 u24 h141
  have h142 := u24.sameP (u23.sameP h134 (OutT.cons (OutT.sub ap7 z7) ((OutT.app (OutT.sub ap7 z5) (OutT.sub ap7 z6)).app (OutT.sub ap7 z8)))) ap10
  have h143 := u24.box (u23.box h135 (ApT.cons (ApT.sub ap8 z7).ap ((ApT.app (Ap.apT (ApT.sub ap8 z5).ap) (Ap.apT (ApT.sub ap8 z6).ap)).app (ApT.sub ap8 z8)))) ap11
  have h144 := u24.box (u23.box h136 (ApT.cons (ApT.sub ap9 z7).ap ((ApT.app (Ap.apT (ApT.sub ap9 z5).ap) (Ap.apT (ApT.sub ap9 z6).ap)).app (ApT.sub ap9 z8)))) ap12
  have h145 : Sl cIRule ((⟨[(⟨r5.1, r5.2.1, r5.2.2.1, r5.2.2.2⟩ : ITerm)], (r1.2.2.getD 0 (zIRule : IRule)).f1, (r1.2.2.getD 0 (zIRule : IRule)).f2⟩ : IRule) :: r1.2.2.tail) pv16 := h140
  have h146 : Box (.ptr i2 0) [pv15, pv16] S := h141
  refine Evr.regionN rfl (Opl.ldb (v := .agg [pv15, pv16]) h146 rfl T26 rfl rfl rfl rfl (Opl.stb (vs := [pv15, pv16]) h144 rfl rfl Z26 rfl (Nat.le_of_ble_eq_true rfl) (by simp only [List.all_cons, List.all_nil, h138.one, h145.one, Bool.and_true, Bool.true_and] <;> rfl) rfl rfl rfl ?_))
  rintro S (h147 : Box (.ptr i1 0) [pv15, pv16] _) u25
  have h148 := u25.sameP h142 ap1
  have h149 := u25.box h143 ap2
  have h150 := u25.box h146 ap12.symm
  refine Opl.nil ?_
  obtain rfl := Option.some.inj H
  refine Evr.retb (v := .agg [pv15, pv16]) Try.func48 rfl h147 rfl T26 rfl ?_
  exact ⟨_, _, rfl, h138, h145, h149, h148⟩
 rw [if_neg c9] at H
 have e8 : (decide ((r1.2.2.length : Int) > 0)) = false := by simpa using c9
 try rw [e8]
 refine Evr.condF rfl (Evr.sr rfl (Opl.p1 (n := Opl.p1 (n := Opl.p1 (n := ?_)))))
 by_cases c10 : r3.2 = 3
 case neg =>
  rw [if_neg c10] at H
  have e16 : (r3.2 == 3) = false := by simpa using c10
  try rw [e16]
  refine Opl.skp rfl (Opl.skp rfl (Opl.skp rfl (Opl.skp rfl (Opl.p1 (n := Opl.nil (Evr.condF rfl (Evr.sr rfl (Opl.p1 (n := Opl.p1 (n := Opl.nil ?_))))))))))
  by_cases c16 : r3.2 = 4
  case pos =>
   rw [if_pos c16] at H
   have e17 : (r3.2 == 4) = true := by simpa using c16
   try rw [e17]
   refine Evr.condT rfl (Evr.regionN rfl (Opl.p1 (v := .ptr i2 0) (n := Opl.stb (vs := [.lit (.slice none 0 0)]) h32 rfl rfl Z23 rfl (Nat.le_of_ble_eq_true rfl) rfl rfl rfl rfl ?_)))
   rintro S (h306 : Box (.ptr i2 0) [.lit (.slice none 0 0), pv2] _) u49
   have h307 := u49.sameP h28 ap10
   have h308 := u49.box h27 ap11
   have h309 := u49.box h29 ap12
   have h310 := u49.vec h30 ap13
   have h311 := u49.tree h31 ap14
   refine Opl.nil (Evr.seq (Evr.frzcT [.lit (.slice none 0 0)] [] h306 h311 ap14 ?_))
   rintro pv39 S1_ S h312 u50 u51 h313
   have h314 := u51.sameP (u50.sameP h307 ap7) ap10
   have h315 := u51.box (u50.box h308 ap8) ap11
   have h316 := u51.box (u50.box h309 ap9) ap12
   have h317 := u51.vec (u50.vec h310 ap3) ap13
   have h318 : Sl cIRule r1.2.2 pv39 := h312
   have h319 : Box (.ptr i2 0) [.lit (.slice none 0 0), pv39] S := h313
   refine Evr.regionN rfl (Opl.ldb (v := .agg [.lit (.slice none 0 0), pv39]) h319 rfl T26 rfl rfl rfl rfl (Opl.stb (vs := [.lit (.slice none 0 0), pv39]) h316 rfl rfl Z26 rfl (Nat.le_of_ble_eq_true rfl) (by simp only [List.all_cons, List.all_nil, h318.one, Bool.and_true, Bool.true_and] <;> rfl) rfl rfl rfl ?_))
   rintro S (h320 : Box (.ptr i1 0) [.lit (.slice none 0 0), pv39] _) u52
   have h321 := u52.sameP h314 ap1
   have h322 := u52.box h315 ap2
   have h323 := u52.vec h317 ap6.symm
   have h324 := u52.box h319 ap12.symm
   refine Opl.nil ?_
   obtain rfl := Option.some.inj H
   refine Evr.retb (v := .agg [.lit (.slice none 0 0), pv39]) Try.func48 rfl h320 rfl T26 rfl ?_
   exact ⟨_, _, rfl, .nil, h318, h322, h321⟩
  rw [if_neg c16] at H
  have e18 : (r3.2 == 4) = false := by simpa using c16
  try rw [e18]
  refine Evr.condF rfl (Evr.sr rfl (Opl.p1 (v := .ptr i2 1) (n := Opl.ldb (v := pv2) h32 rfl T24 rfl rfl rfl rfl (Opl.leno (by exact oRow_len h31) K24 rfl rfl rfl rfl (Opl.p1 (n := Opl.nil ?_))))))
  by_cases c17 : (r1.2.2.length : Int) > 0
  case neg =>
   rw [if_neg c17] at H
   have e20 : (decide ((r1.2.2.length : Int) > 0)) = false := by simpa using c17
   try rw [e20]
   refine Evr.condF rfl (Evr.skip (Evr.seq (Evr.frzc [] [pv2] h32 h30 ap13 ?_)))
   rintro pv51 S1_ S h389 u60 u61 h390
   have h391 := u61.sameP (u60.sameP h28 ap4) ap10
   have h392 := u61.box (u60.box h27 ap5) ap11
   have h393 := u61.box (u60.box h29 ap6) ap12
   have h394 := u61.tree (u60.tree h31 ap3) ap14
   have h395 : Sl cIVar r1.2.1 pv51 := h389
   have h396 : Box (.ptr i2 0) [pv51, pv2] S := h390
   refine Evr.frzcT [pv51] [] h396 h394 ap14 ?_
   rintro pv52 S1_ S h397 u62 u63 h398
   have h399 := u63.sameP (u62.sameP h391 ap7) ap10
   have h400 := u63.box (u62.box h392 ap8) ap11
   have h401 := u63.box (u62.box h393 ap9) ap12
   have h402 : Sl cIRule r1.2.2 pv52 := h397
   have h403 : Box (.ptr i2 0) [pv51, pv52] S := h398
   refine Evr.regionN rfl (Opl.ldb (v := .agg [pv51, pv52]) h403 rfl T26 rfl rfl rfl rfl (Opl.stb (vs := [pv51, pv52]) h401 rfl rfl Z26 rfl (Nat.le_of_ble_eq_true rfl) (by simp only [List.all_cons, List.all_nil, h395.one, h402.one, Bool.and_true, Bool.true_and] <;> rfl) rfl rfl rfl ?_))
   rintro S (h404 : Box (.ptr i1 0) [pv51, pv52] _) u64
   have h405 := u64.sameP h399 ap1
   have h406 := u64.box h400 ap2
   have h407 := u64.box h403 ap12.symm
   refine Opl.nil ?_
   obtain rfl := Option.some.inj H
   refine Evr.retb (v := .agg [pv51, pv52]) Try.func48 rfl h404 rfl T26 rfl ?_
   exact ⟨_, _, rfl, h395, h402, h406, h405⟩
  rw [if_pos c17] at H
  have e19 : (decide ((r1.2.2.length : Int) > 0)) = true := by simpa using c17
  try rw [e19]
  refine Evr.condT rfl ?_
  obtain ⟨d8, pv40, pv41, pv42, q10, j4, rfl, h325, h326, h327, h328, h329, ap49, ap50, ap51, ap52, ap53, ap54, z17, z18, z19, z20⟩ := od3_open0 h31 (zIRule : IRule) (by omega)
  refine Evr.regionL [(1, .q), (3, .q), (6, .q), (8, .m), (9, .m), (10, .m)] rfl (by kernel_rfl) (Opl.p1 (v := .ptr i2 1) (n := Opl.ldbk (v := .loc d8 0 r1.2.2.length) h32 rfl rfl T24 rfl rfl rfl rfl (Opl.p1 (v := .ptr i2 1) (n := Opl.ldbk (v := .loc d8 0 r1.2.2.length) h32 rfl rfl T24 rfl rfl rfl rfl (Opl.id0 rfl rfl (by omega) K24 Z72 rfl rfl (Opl.p1 (v := .ptr d8 2) (n := Opl.ldok (v := pv42) h325 (rd_row (by decide)) rfl T70 rfl rfl rfl rfl ?_)))))))
  obtain ⟨r7, h_r7, H⟩ := Option.bind_eq_some_iff.1 H
  refine Opl.call (spec_l2Const.ev h_r7) rfl rfl rfl rfl ⟨(.lit _), trivial⟩ (by decide) ?_
  rintro _ ⟨_, _, _, _, rfl, rfl, rfl, rfl, rfl⟩
  refine Opl.litm (M := cITerm) (ys := [(⟨r7.1, r7.2.1, r7.2.2.1, r7.2.2.2⟩ : ITerm)]) [.tmp 92] K44 T95 rfl rfl rfl (by exact ⟨cITerm_mk, trivial⟩) rfl (by decide) rfl rfl rfl ?_
  rintro pv45 S h331 g6
  have h332 := g6.sameP h28
  have h333 := g6.box h27
  have h334 := g6.box h29
  have h335 := g6.vec h30
  have h336 := g6.box h32
  have h337 := g6.vec h327
  have h338 := g6.vec h328
  have h339 := g6.rows h329
  have h340 := g6.obj h325
  refine Opl.litm (M := (cSl cITerm)) (ys := [[(⟨r7.1, r7.2.1, r7.2.2.1, r7.2.2.2⟩ : ITerm)]]) [.tmp 93] K70 T44 rfl rfl rfl (by exact ⟨⟨_, by first | rfl | exact h331.cells, h331⟩, trivial⟩) rfl (by decide) rfl rfl rfl ?_
  rintro pv47 S h341 g7
  have h342 := g7.sameP h332
  have h343 := g7.box h333
  have h344 := g7.box h334
  have h345 := g7.vec h335
  have h346 := g7.box h336
  have h347 := g7.vec h337
  have h348 := g7.vec h338
  have h349 := g7.rows h339
  have h350 := g7.obj h340
  obtain ⟨c18, H⟩ := peel H
  refine Opl.appm rfl (M := (cSl cITerm)) (xs := ((r1.2.2.getD 0 (zIRule : IRule)).f2)) (ys := [[(⟨r7.1, r7.2.1, r7.2.2.1, r7.2.2.2⟩ : ITerm)]]) (v := pv42) h348 (.sl h341) (oSl cITerm) rfl rfl K70 T44 rfl rfl (by (try simp only [List.length_cons, List.length_nil]); omega) (by show (_ + _) * 24 ≤ 140737488355328; (try simp only [List.length_cons, List.length_nil]); omega) rfl rfl rfl rfl rfl ?_
  rintro pv48 S h351 u53 w20
  have ap55 := w20.sameP h342
  have h352 := u53.sameP h342 (OutT.sub ap7 z18)
  have ap56 := w20.box h343
  have h353 := u53.box h343 (ApT.sub ap8 z18).ap
  have ap57 := w20.box h344
  have h354 := u53.box h344 (ApT.sub ap9 z18).ap
  have ap58 := w20.vec h345
  have h355 := u53.vec h345 (ApT.sub ap3 z18).ap
  have ap59 := w20.box h346
  have h356 := u53.box h346 (ApT.sub ap14 z18).ap
  have ap60 := w20.vec h347
  have h357 := u53.vec h347 ap49
  have ap61 := w20.rows h349
  have h358 := u53.rows h349 ap53
  have ap62 := w20.obj h350
  have h359 := u53.obj h350 ap51.symm
  refine Opl.id0 rfl rfl (by omega) K24 Z72 rfl rfl (Opl.p1 (v := .ptr d8 2) (n := Opl.stob (cs' := pv40 :: pv41 :: pv48 :: q10) (vs := [pv48]) h359 rfl (by exact Vec.cells h351) rfl Z70 rfl (by simp only [List.length_cons]; omega) (by simp only [List.all_cons, List.all_nil, Vec.one h351, Bool.and_true, Bool.true_and] <;> rfl) rfl rfl rfl ?_))
  rintro S h360 u54
  have h361 := u54.sameP h352 (OutT.sub ap7 z19)
  have h362 := u54.box h353 (ApT.sub ap8 z19).ap
  have h363 := u54.box h354 (ApT.sub ap9 z19).ap
  have h364 := u54.vec h355 (ApT.sub ap3 z19).ap
  have h365 := u54.box h356 (ApT.sub ap14 z19).ap
  have h366 := u54.vec h357 ap50
  have h367 := u54.rows h358 ap54
  have h368 := u54.vec h351 ap62.symm
  have h369 : (oRow odIRule).R S (d8 :: ((pv41.id?.toList ++ pv48.id?.toList) ++ j4)) ((⟨(r1.2.2.getD 0 (zIRule : IRule)).f0, (r1.2.2.getD 0 (zIRule : IRule)).f1, (((r1.2.2.getD 0 (zIRule : IRule)).f2) ++ [[(⟨r7.1, r7.2.1, r7.2.2.1, r7.2.2.2⟩ : ITerm)]])⟩ : IRule) :: r1.2.2.tail) [(PV.loc d8 0 r1.2.2.length)] := od3_close0 (l := r1.2.2) rfl (by rw [List.length_tail]; omega) h360 h326 h366 h368 h367 ap60 ap50 ap62.symm ap52 ap61 ap54
  refine Opl.nil (Evr.seq (Evr.frzc [] [(PV.loc d8 0 r1.2.2.length)] h365 h364 ap13 ?_))
  rintro pv49 S1_ S h370 u55 u56 h371
  have h372 := u56.sameP (u55.sameP h361 ap4) ap10
  have h373 := u56.box (u55.box h362 ap5) ap11
  have h374 := u56.box (u55.box h363 ap6) ap12
  have h375 := u56.tree (u55.tree h369 (ApT.cons (ApT.sub ap3 z19).ap ((ApT.app (Ap.apT (ApT.sub ap3 z17).ap) (Ap.apT ap58)).app (ApT.sub ap3 z20)))) (ApT.cons (ApT.sub ap14 z19).ap ((ApT.app (Ap.apT (ApT.sub ap14 z17).ap) (Ap.apT ap59)).app (ApT.sub ap14 z20)))
  have h376 : Sl cIVar r1.2.1 pv49 := h370
  have h377 : Box (.ptr i2 0) [pv49, (PV.loc d8 0 r1.2.2.length)] S := h371
  refine Evr.frzcT [pv49] [] h377 h375 (ApT.cons (ApT.sub ap14 z19).ap ((ApT.app (Ap.apT (ApT.sub ap14 z17).ap) (Ap.apT ap59)).app (ApT.sub ap14 z20))) ?_
  rintro pv50 S1_ S h378 u57 u58 h379
  have h380 := u58.sameP (u57.sameP h372 (OutT.cons (OutT.sub ap7 z19) ((OutT.app (OutT.sub ap7 z17) ap55).app (OutT.sub ap7 z20)))) ap10
  have h381 := u58.box (u57.box h373 (ApT.cons (ApT.sub ap8 z19).ap ((ApT.app (Ap.apT (ApT.sub ap8 z17).ap) (Ap.apT ap56)).app (ApT.sub ap8 z20)))) ap11
  have h382 := u58.box (u57.box h374 (ApT.cons (ApT.sub ap9 z19).ap ((ApT.app (Ap.apT (ApT.sub ap9 z17).ap) (Ap.apT ap57)).app (ApT.sub ap9 z20)))) ap12
  have h383 : Sl cIRule ((⟨(r1.2.2.getD 0 (zIRule : IRule)).f0, (r1.2.2.getD 0 (zIRule : IRule)).f1, (((r1.2.2.getD 0 (zIRule : IRule)).f2) ++ [[(⟨r7.1, r7.2.1, r7.2.2.1, r7.2.2.2⟩ : ITerm)]])⟩ : IRule) :: r1.2.2.tail) pv50 := h378
  have h384 : Box (.ptr i2 0) [pv49, pv50] S := h379
  refine Evr.regionN rfl (Opl.ldb (v := .agg [pv49, pv50]) h384 rfl T26 rfl rfl rfl rfl (Opl.stb (vs := [pv49, pv50]) h382 rfl rfl Z26 rfl (Nat.le_of_ble_eq_true rfl) (by simp only [List.all_cons, List.all_nil, h376.one, h383.one, Bool.and_true, Bool.true_and] <;> rfl) rfl rfl rfl ?_))
  rintro S (h385 : Box (.ptr i1 0) [pv49, pv50] _) u59
  have h386 := u59.sameP h380 ap1
  have h387 := u59.box h381 ap2
  have h388 := u59.box h384 ap12.symm
  refine Opl.nil ?_
  obtain rfl := Option.some.inj H
  refine Evr.retb (v := .agg [pv49, pv50]) Try.func48 rfl h385 rfl T26 rfl ?_
  exact ⟨_, _, rfl, h376, h383, h387, h386⟩
 rw [if_pos c10] at H
 have e9 : (r3.2 == 3) = true := by simpa using c10
 try rw [e9]
 refine Opl.p1 (v := .ptr i2 1) (n := Opl.ldb (v := pv2) h32 rfl T24 rfl rfl rfl rfl (Opl.leno (by exact oRow_len h31) K24 rfl rfl rfl rfl (Opl.p1 (n := Opl.p1 (n := Opl.nil ?_)))))
 by_cases c11 : (r1.2.2.length : Int) > 0
 case pos =>
  rw [if_pos c11] at H
  have e10 : (decide ((r1.2.2.length : Int) > 0)) = true := by simpa using c11
  try rw [e10]
  refine Evr.condT rfl ?_
  obtain ⟨d6, pv17, pv18, pv19, q8, j2, rfl, h151, h152, h153, h154, h155, ap21, ap22, ap23, ap24, ap25, ap26, z9, z10, z11, z12⟩ := od3_open0 h31 (zIRule : IRule) (by omega)
  refine Evr.regionL [(1, .q), (3, .q), (6, .q), (8, .q), (10, .m), (11, .m)] rfl (by kernel_rfl) (Opl.p1 (v := .ptr i2 1) (n := Opl.ldbk (v := .loc d6 0 r1.2.2.length) h32 rfl rfl T24 rfl rfl rfl rfl (Opl.p1 (v := .ptr i2 1) (n := Opl.ldbk (v := .loc d6 0 r1.2.2.length) h32 rfl rfl T24 rfl rfl rfl rfl ?_))))
  obtain ⟨c12, H⟩ := peel H
  refine Opl.id0 rfl rfl (by omega) K24 Z72 rfl rfl (Opl.p1 (v := .ptr d6 1) (n := Opl.ldok (v := pv18) h151 (rd_row (by decide)) rfl T29 rfl rfl rfl rfl (Opl.p1 (v := .ptr i2 0) (n := Opl.ldbk (v := pv1) h32 rfl rfl T23 rfl rfl rfl rfl (Opl.lenv (xs := r1.2.1) (by exact h30) K23 rfl rfl rfl rfl (Opl.litm (M := (cInt .i64)) (ys := [(r1.2.1.length : Int)]) [.tmp 73] K29 T3 rfl rfl rfl (by exact ⟨rfl, trivial⟩) rfl (by decide) rfl rfl rfl ?_))))))
  rintro pv21 S h156 g3
  have h157 := g3.sameP h28
  have h158 := g3.box h27
  have h159 := g3.box h29
  have h160 := g3.vec h30
  have h161 := g3.box h32
  have h162 := g3.vec h153
  have h163 := g3.vec h154
  have h164 := g3.rows h155
  have h165 := g3.obj h151
  refine Opl.appm rfl (M := (cInt .i64)) (xs := ((r1.2.2.getD 0 (zIRule : IRule)).f1)) (ys := [(r1.2.1.length : Int)]) (v := pv18) h162 (.sl h156) (oInt .i64) rfl rfl K29 T3 rfl rfl (by (try simp only [List.length_cons, List.length_nil]); omega) (by show (_ + _) * 8 ≤ 140737488355328; (try simp only [List.length_cons, List.length_nil]); omega) rfl rfl rfl rfl rfl ?_
  rintro pv22 S h166 u26 w9
  have ap27 := w9.sameP h157
  have h167 := u26.sameP h157 (OutT.sub ap7 z9)
  have ap28 := w9.box h158
  have h168 := u26.box h158 (ApT.sub ap8 z9).ap
  have ap29 := w9.box h159
  have h169 := u26.box h159 (ApT.sub ap9 z9).ap
  have ap30 := w9.vec h160
  have h170 := u26.vec h160 (ApT.sub ap3 z9).ap
  have ap31 := w9.box h161
  have h171 := u26.box h161 (ApT.sub ap14 z9).ap
  have ap32 := w9.vec h163
  have h172 := u26.vec h163 ap21.symm
  have ap33 := w9.rows h164
  have h173 := u26.rows h164 ap24
  have ap34 := w9.obj h165
  have h174 := u26.obj h165 ap22.symm
  refine Opl.id0 rfl rfl (by omega) K24 Z72 rfl rfl (Opl.p1 (v := .ptr d6 1) (n := Opl.stob (cs' := pv17 :: pv22 :: pv19 :: q8) (vs := [pv22]) h174 rfl (by exact Vec.cells h166) rfl Z29 rfl (by simp only [List.length_cons]; omega) (by simp only [List.all_cons, List.all_nil, Vec.one h166, Bool.and_true, Bool.true_and] <;> rfl) rfl rfl rfl ?_))
  rintro S h175 u27
  have h176 := u27.sameP h167 (OutT.sub ap7 z11)
  have h177 := u27.box h168 (ApT.sub ap8 z11).ap
  have h178 := u27.box h169 (ApT.sub ap9 z11).ap
  have h179 := u27.vec h170 (ApT.sub ap3 z11).ap
  have h180 := u27.box h171 (ApT.sub ap14 z11).ap
  have h181 := u27.vec h172 ap23
  have h182 := u27.rows h173 ap26
  have h183 := u27.vec h166 ap34.symm
  have h184 : (oRow odIRule).R S (d6 :: ((pv22.id?.toList ++ pv19.id?.toList) ++ j2)) ((⟨(r1.2.2.getD 0 (zIRule : IRule)).f0, (((r1.2.2.getD 0 (zIRule : IRule)).f1) ++ [(r1.2.1.length : Int)]), (r1.2.2.getD 0 (zIRule : IRule)).f2⟩ : IRule) :: r1.2.2.tail) [(PV.loc d6 0 r1.2.2.length)] := od3_close0 (l := r1.2.2) rfl (by rw [List.length_tail]; omega) h175 h152 h183 h181 h182 ap32.symm ap34.symm ap23 ap33 ap25 ap26
  refine Opl.nil (Evr.seq (Evr.frzc [] [(PV.loc d6 0 r1.2.2.length)] h180 h179 ap13 ?_))
  rintro pv23 S1_ S h185 u28 u29 h186
  have h187 := u29.sameP (u28.sameP h176 ap4) ap10
  have h188 := u29.box (u28.box h177 ap5) ap11
  have h189 := u29.box (u28.box h178 ap6) ap12
  have h190 := u29.tree (u28.tree h184 (ApT.cons (ApT.sub ap3 z11).ap ((ApT.app (Ap.apT ap30) (Ap.apT (ApT.sub ap3 z10).ap)).app (ApT.sub ap3 z12)))) (ApT.cons (ApT.sub ap14 z11).ap ((ApT.app (Ap.apT ap31) (Ap.apT (ApT.sub ap14 z10).ap)).app (ApT.sub ap14 z12)))
  have h191 : Sl cIVar r1.2.1 pv23 := h185
  have h192 : Box (.ptr i2 0) [pv23, (PV.loc d6 0 r1.2.2.length)] S := h186
  refine Evr.frzcT [pv23] [] h192 h190 (ApT.cons (ApT.sub ap14 z11).ap ((ApT.app (Ap.apT ap31) (Ap.apT (ApT.sub ap14 z10).ap)).app (ApT.sub ap14 z12))) ?_
  rintro pv24 S1_ S h193 u30 u31 h194
  have h195 := u31.sameP (u30.sameP h187 (OutT.cons (OutT.sub ap7 z11) ((OutT.app ap27 (OutT.sub ap7 z10)).app (OutT.sub ap7 z12)))) ap10
  have h196 := u31.box (u30.box h188 (ApT.cons (ApT.sub ap8 z11).ap ((ApT.app (Ap.apT ap28) (Ap.apT (ApT.sub ap8 z10).ap)).app (ApT.sub ap8 z12)))) ap11
  have h197 := u31.box (u30.box h189 (ApT.cons (ApT.sub ap9 z11).ap ((ApT.app (Ap.apT ap29) (Ap.apT (ApT.sub ap9 z10).ap)).app (ApT.sub ap9 z12)))) ap12
  have h198 : Sl cIRule ((⟨(r1.2.2.getD 0 (zIRule : IRule)).f0, (((r1.2.2.getD 0 (zIRule : IRule)).f1) ++ [(r1.2.1.length : Int)]), (r1.2.2.getD 0 (zIRule : IRule)).f2⟩ : IRule) :: r1.2.2.tail) pv24 := h193
  have h199 : Box (.ptr i2 0) [pv23, pv24] S := h194
  refine Evr.regionN rfl (Opl.ldb (v := .agg [pv23, pv24]) h199 rfl T26 rfl rfl rfl rfl (Opl.stb (vs := [pv23, pv24]) h197 rfl rfl Z26 rfl (Nat.le_of_ble_eq_true rfl) (by simp only [List.all_cons, List.all_nil, h191.one, h198.one, Bool.and_true, Bool.true_and] <;> rfl) rfl rfl rfl ?_))
  rintro S (h200 : Box (.ptr i1 0) [pv23, pv24] _) u32
  have h201 := u32.sameP h195 ap1
  have h202 := u32.box h196 ap2
  have h203 := u32.box h199 ap12.symm
  refine Opl.nil ?_
  obtain rfl := Option.some.inj H
  refine Evr.retb (v := .agg [pv23, pv24]) Try.func48 rfl h200 rfl T26 rfl ?_
  exact ⟨_, _, rfl, h191, h198, h202, h201⟩
 rw [if_neg c11] at H
 have e11 : (decide ((r1.2.2.length : Int) > 0)) = false := by simpa using c11
 try rw [e11]
 refine Evr.condF rfl (Evr.sr rfl (Opl.p1 (n := Opl.p1 (n := Opl.nil ?_))))
 by_cases c13 : r3.2 = 4
 case pos =>
  rw [if_pos c13] at H
  have e12 : (r3.2 == 4) = true := by simpa using c13
  try rw [e12]
  refine Evr.condT rfl (Evr.regionN rfl (Opl.p1 (v := .ptr i2 0) (n := Opl.stb (vs := [.lit (.slice none 0 0)]) h32 rfl rfl Z23 rfl (Nat.le_of_ble_eq_true rfl) rfl rfl rfl rfl ?_)))
  rintro S (h204 : Box (.ptr i2 0) [.lit (.slice none 0 0), pv2] _) u33
  have h205 := u33.sameP h28 ap10
  have h206 := u33.box h27 ap11
  have h207 := u33.box h29 ap12
  have h208 := u33.vec h30 ap13
  have h209 := u33.tree h31 ap14
  refine Opl.nil (Evr.seq (Evr.frzcT [.lit (.slice none 0 0)] [] h204 h209 ap14 ?_))
  rintro pv25 S1_ S h210 u34 u35 h211
  have h212 := u35.sameP (u34.sameP h205 ap7) ap10
  have h213 := u35.box (u34.box h206 ap8) ap11
  have h214 := u35.box (u34.box h207 ap9) ap12
  have h215 := u35.vec (u34.vec h208 ap3) ap13
  have h216 : Sl cIRule r1.2.2 pv25 := h210
  have h217 : Box (.ptr i2 0) [.lit (.slice none 0 0), pv25] S := h211
  refine Evr.regionN rfl (Opl.ldb (v := .agg [.lit (.slice none 0 0), pv25]) h217 rfl T26 rfl rfl rfl rfl (Opl.stb (vs := [.lit (.slice none 0 0), pv25]) h214 rfl rfl Z26 rfl (Nat.le_of_ble_eq_true rfl) (by simp only [List.all_cons, List.all_nil, h216.one, Bool.and_true, Bool.true_and] <;> rfl) rfl rfl rfl ?_))
  rintro S (h218 : Box (.ptr i1 0) [.lit (.slice none 0 0), pv25] _) u36
  have h219 := u36.sameP h212 ap1
  have h220 := u36.box h213 ap2
  have h221 := u36.vec h215 ap6.symm
  have h222 := u36.box h217 ap12.symm
  refine Opl.nil ?_
  obtain rfl := Option.some.inj H
  refine Evr.retb (v := .agg [.lit (.slice none 0 0), pv25]) Try.func48 rfl h218 rfl T26 rfl ?_
  exact ⟨_, _, rfl, .nil, h216, h220, h219⟩
 rw [if_neg c13] at H
 have e13 : (r3.2 == 4) = false := by simpa using c13
 try rw [e13]
 refine Evr.condF rfl (Evr.sr rfl (Opl.p1 (v := .ptr i2 1) (n := Opl.ldb (v := pv2) h32 rfl T24 rfl rfl rfl rfl (Opl.leno (by exact oRow_len h31) K24 rfl rfl rfl rfl (Opl.p1 (n := Opl.nil ?_))))))
 by_cases c14 : (r1.2.2.length : Int) > 0
 case neg =>
  rw [if_neg c14] at H
  have e15 : (decide ((r1.2.2.length : Int) > 0)) = false := by simpa using c14
  try rw [e15]
  refine Evr.condF rfl (Evr.skip (Evr.seq (Evr.frzc [] [pv2] h32 h30 ap13 ?_)))
  rintro pv37 S1_ S h287 u44 u45 h288
  have h289 := u45.sameP (u44.sameP h28 ap4) ap10
  have h290 := u45.box (u44.box h27 ap5) ap11
  have h291 := u45.box (u44.box h29 ap6) ap12
  have h292 := u45.tree (u44.tree h31 ap3) ap14
  have h293 : Sl cIVar r1.2.1 pv37 := h287
  have h294 : Box (.ptr i2 0) [pv37, pv2] S := h288
  refine Evr.frzcT [pv37] [] h294 h292 ap14 ?_
  rintro pv38 S1_ S h295 u46 u47 h296
  have h297 := u47.sameP (u46.sameP h289 ap7) ap10
  have h298 := u47.box (u46.box h290 ap8) ap11
  have h299 := u47.box (u46.box h291 ap9) ap12
  have h300 : Sl cIRule r1.2.2 pv38 := h295
  have h301 : Box (.ptr i2 0) [pv37, pv38] S := h296
  refine Evr.regionN rfl (Opl.ldb (v := .agg [pv37, pv38]) h301 rfl T26 rfl rfl rfl rfl (Opl.stb (vs := [pv37, pv38]) h299 rfl rfl Z26 rfl (Nat.le_of_ble_eq_true rfl) (by simp only [List.all_cons, List.all_nil, h293.one, h300.one, Bool.and_true, Bool.true_and] <;> rfl) rfl rfl rfl ?_))
  rintro S (h302 : Box (.ptr i1 0) [pv37, pv38] _) u48
  have h303 := u48.sameP h297 ap1
  have h304 := u48.box h298 ap2
  have h305 := u48.box h301 ap12.symm
  refine Opl.nil ?_
  obtain rfl := Option.some.inj H
  refine Evr.retb (v := .agg [pv37, pv38]) Try.func48 rfl h302 rfl T26 rfl ?_
  exact ⟨_, _, rfl, h293, h300, h304, h303⟩
 rw [if_pos c14] at H
 have e14 : (decide ((r1.2.2.length : Int) > 0)) = true := by simpa using c14
 try rw [e14]
 refine Evr.condT rfl ?_
 obtain ⟨d7, pv26, pv27, pv28, q9, j3, rfl, h223, h224, h225, h226, h227, ap35, ap36, ap37, ap38, ap39, ap40, z13, z14, z15, z16⟩ := od3_open0 h31 (zIRule : IRule) (by omega)
 refine Evr.regionL [(1, .q), (3, .q), (6, .q), (8, .m), (9, .m), (10, .m)] rfl (by kernel_rfl) (Opl.p1 (v := .ptr i2 1) (n := Opl.ldbk (v := .loc d7 0 r1.2.2.length) h32 rfl rfl T24 rfl rfl rfl rfl (Opl.p1 (v := .ptr i2 1) (n := Opl.ldbk (v := .loc d7 0 r1.2.2.length) h32 rfl rfl T24 rfl rfl rfl rfl (Opl.id0 rfl rfl (by omega) K24 Z72 rfl rfl (Opl.p1 (v := .ptr d7 2) (n := Opl.ldok (v := pv28) h223 (rd_row (by decide)) rfl T70 rfl rfl rfl rfl ?_)))))))
 obtain ⟨r6, h_r6, H⟩ := Option.bind_eq_some_iff.1 H
 refine Opl.call (spec_l2Const.ev h_r6) rfl rfl rfl rfl ⟨(.lit _), trivial⟩ (by decide) ?_
 rintro _ ⟨_, _, _, _, rfl, rfl, rfl, rfl, rfl⟩
 refine Opl.litm (M := cITerm) (ys := [(⟨r6.1, r6.2.1, r6.2.2.1, r6.2.2.2⟩ : ITerm)]) [.tmp 92] K44 T95 rfl rfl rfl (by exact ⟨cITerm_mk, trivial⟩) rfl (by decide) rfl rfl rfl ?_
 rintro pv31 S h229 g4
 have h230 := g4.sameP h28
 have h231 := g4.box h27
 have h232 := g4.box h29
 have h233 := g4.vec h30
 have h234 := g4.box h32
 have h235 := g4.vec h225
 have h236 := g4.vec h226
 have h237 := g4.rows h227
 have h238 := g4.obj h223
 refine Opl.litm (M := (cSl cITerm)) (ys := [[(⟨r6.1, r6.2.1, r6.2.2.1, r6.2.2.2⟩ : ITerm)]]) [.tmp 93] K70 T44 rfl rfl rfl (by exact ⟨⟨_, by first | rfl | exact h229.cells, h229⟩, trivial⟩) rfl (by decide) rfl rfl rfl ?_
 rintro pv33 S h239 g5
 have h240 := g5.sameP h230
 have h241 := g5.box h231
 have h242 := g5.box h232
 have h243 := g5.vec h233
 have h244 := g5.box h234
 have h245 := g5.vec h235
 have h246 := g5.vec h236
 have h247 := g5.rows h237
 have h248 := g5.obj h238
 obtain ⟨c15, H⟩ := peel H
 refine Opl.appm rfl (M := (cSl cITerm)) (xs := ((r1.2.2.getD 0 (zIRule : IRule)).f2)) (ys := [[(⟨r6.1, r6.2.1, r6.2.2.1, r6.2.2.2⟩ : ITerm)]]) (v := pv28) h246 (.sl h239) (oSl cITerm) rfl rfl K70 T44 rfl rfl (by (try simp only [List.length_cons, List.length_nil]); omega) (by show (_ + _) * 24 ≤ 140737488355328; (try simp only [List.length_cons, List.length_nil]); omega) rfl rfl rfl rfl rfl ?_
 rintro pv34 S h249 u37 w14
 have ap41 := w14.sameP h240
 have h250 := u37.sameP h240 (OutT.sub ap7 z14)
 have ap42 := w14.box h241
 have h251 := u37.box h241 (ApT.sub ap8 z14).ap
 have ap43 := w14.box h242
 have h252 := u37.box h242 (ApT.sub ap9 z14).ap
 have ap44 := w14.vec h243
 have h253 := u37.vec h243 (ApT.sub ap3 z14).ap
 have ap45 := w14.box h244
 have h254 := u37.box h244 (ApT.sub ap14 z14).ap
 have ap46 := w14.vec h245
 have h255 := u37.vec h245 ap35
 have ap47 := w14.rows h247
 have h256 := u37.rows h247 ap39
 have ap48 := w14.obj h248
 have h257 := u37.obj h248 ap37.symm
 refine Opl.id0 rfl rfl (by omega) K24 Z72 rfl rfl (Opl.p1 (v := .ptr d7 2) (n := Opl.stob (cs' := pv26 :: pv27 :: pv34 :: q9) (vs := [pv34]) h257 rfl (by exact Vec.cells h249) rfl Z70 rfl (by simp only [List.length_cons]; omega) (by simp only [List.all_cons, List.all_nil, Vec.one h249, Bool.and_true, Bool.true_and] <;> rfl) rfl rfl rfl ?_))
 rintro S h258 u38
 have h259 := u38.sameP h250 (OutT.sub ap7 z15)
 have h260 := u38.box h251 (ApT.sub ap8 z15).ap
 have h261 := u38.box h252 (ApT.sub ap9 z15).ap
 have h262 := u38.vec h253 (ApT.sub ap3 z15).ap
 have h263 := u38.box h254 (ApT.sub ap14 z15).ap
 have h264 := u38.vec h255 ap36
 have h265 := u38.rows h256 ap40
 have h266 := u38.vec h249 ap48.symm
 have h267 : (oRow odIRule).R S (d7 :: ((pv27.id?.toList ++ pv34.id?.toList) ++ j3)) ((⟨(r1.2.2.getD 0 (zIRule : IRule)).f0, (r1.2.2.getD 0 (zIRule : IRule)).f1, (((r1.2.2.getD 0 (zIRule : IRule)).f2) ++ [[(⟨r6.1, r6.2.1, r6.2.2.1, r6.2.2.2⟩ : ITerm)]])⟩ : IRule) :: r1.2.2.tail) [(PV.loc d7 0 r1.2.2.length)] := od3_close0 (l := r1.2.2) rfl (by rw [List.length_tail]; omega) h258 h224 h264 h266 h265 ap46 ap36 ap48.symm ap38 ap47 ap40
 refine Opl.nil (Evr.seq (Evr.frzc [] [(PV.loc d7 0 r1.2.2.length)] h263 h262 ap13 ?_))
 rintro pv35 S1_ S h268 u39 u40 h269
 have h270 := u40.sameP (u39.sameP h259 ap4) ap10
 have h271 := u40.box (u39.box h260 ap5) ap11
 have h272 := u40.box (u39.box h261 ap6) ap12
 have h273 := u40.tree (u39.tree h267 (ApT.cons (ApT.sub ap3 z15).ap ((ApT.app (Ap.apT (ApT.sub ap3 z13).ap) (Ap.apT ap44)).app (ApT.sub ap3 z16)))) (ApT.cons (ApT.sub ap14 z15).ap ((ApT.app (Ap.apT (ApT.sub ap14 z13).ap) (Ap.apT ap45)).app (ApT.sub ap14 z16)))
 have h274 : Sl cIVar r1.2.1 pv35 := h268
 have h275 : Box (.ptr i2 0) [pv35, (PV.loc d7 0 r1.2.2.length)] S := h269
 refine Evr.frzcT [pv35] [] h275 h273 (ApT.cons (ApT.sub ap14 z15).ap ((ApT.app (Ap.apT (ApT.sub ap14 z13).ap) (Ap.apT ap45)).app (ApT.sub ap14 z16))) ?_
 rintro pv36 S1_ S h276 u41 u42 h277
 have h278 := u42.sameP (u41.sameP h270 (OutT.cons (OutT.sub ap7 z15) ((OutT.app (OutT.sub ap7 z13) ap41).app (OutT.sub ap7 z16)))) ap10
 have h279 := u42.box (u41.box h271 (ApT.cons (ApT.sub ap8 z15).ap ((ApT.app (Ap.apT (ApT.sub ap8 z13).ap) (Ap.apT ap42)).app (ApT.sub ap8 z16)))) ap11
 have h280 := u42.box (u41.box h272 (ApT.cons (ApT.sub ap9 z15).ap ((ApT.app (Ap.apT (ApT.sub ap9 z13).ap) (Ap.apT ap43)).app (ApT.sub ap9 z16)))) ap12
 have h281 : Sl cIRule ((⟨(r1.2.2.getD 0 (zIRule : IRule)).f0, (r1.2.2.getD 0 (zIRule : IRule)).f1, (((r1.2.2.getD 0 (zIRule : IRule)).f2) ++ [[(⟨r6.1, r6.2.1, r6.2.2.1, r6.2.2.2⟩ : ITerm)]])⟩ : IRule) :: r1.2.2.tail) pv36 := h276
 have h282 : Box (.ptr i2 0) [pv35, pv36] S := h277
 refine Evr.regionN rfl (Opl.ldb (v := .agg [pv35, pv36]) h282 rfl T26 rfl rfl rfl rfl (Opl.stb (vs := [pv35, pv36]) h280 rfl rfl Z26 rfl (Nat.le_of_ble_eq_true rfl) (by simp only [List.all_cons, List.all_nil, h274.one, h281.one, Bool.and_true, Bool.true_and] <;> rfl) rfl rfl rfl ?_))
 rintro S (h283 : Box (.ptr i1 0) [pv35, pv36] _) u43
 have h284 := u43.sameP h278 ap1
 have h285 := u43.box h279 ap2
 have h286 := u43.box h282 ap12.symm
 refine Opl.nil ?_
 obtain rfl := Option.some.inj H
 refine Evr.retb (v := .agg [pv35, pv36]) Try.func48 rfl h283 rfl T26 rfl ?_
 exact ⟨_, _, rfl, h274, h281, h285, h284⟩
theorem spec_l40Open.evb {k : Nat} {S0 : Sto} {l0 : List Int} {v0 : PV} (hv0 : Sl (cInt .u8) l0 v0) {r : (List Int × Int)} (H : spec_l40Open.f k l0 = some r) : RetS Try.prog 47 [v0] S0 fun v S => ∃ jv zv, v = .ptr jv 0 ∧ Sl (cInt .u8) r.1 zv ∧ Box v [zv, .lit (.int .i64 r.2)] S ∧ New S0 v ∧ Same S0 S [] := by
 have hs0 : Same S0 S0 [] := .refl _ _
 unfold spec_l40Open.f at H
 refine RetS.intro Try.func47 rfl (Nat.le_of_ble_eq_true rfl) rfl ?_
 rw [tm1]
 refine Evr.sr rfl (Opl.p1 (n := Opl.nil (Evr.seq (Evr.sr rfl (Opl.p1 (n := Opl.len (xs := l0) (by exact hv0) K22 rfl rfl rfl rfl (Opl.p1 (n := Opl.nil ?_))))))))
 by_cases c1 : (l0.length : Int) > 2000
 case neg =>
  rw [if_neg c1] at H
  have e2 : (decide ((l0.length : Int) > 2000)) = false := by simpa using c1
  try rw [e2]
  refine Evr.condF rfl (Evr.skip (Evr.sr rfl (Opl.p1 (n := Opl.one (v := .agg [v0, .lit (.int .i64 0)]) rfl rfl (by simp only [go_sem]; simp only [fillL, Sl.cells hv0]; rfl) (Opl.box (cs := [v0, .lit (.int .i64 0)]) rfl rfl rfl rfl ?_)))))
  rintro i2 S h4 u2 w2
  have ap2 := w2.sameP hs0
  have h5 := u2.sameP hs0 ap2
  refine Opl.p1 (n := Opl.nil ?_)
  obtain rfl := Option.some.inj H
  refine Evr.ret1 Try.func47 rfl ?_
  exact ⟨_, _, rfl, hv0, h4, (OutT.new0 ap2), h5⟩
 rw [if_pos c1] at H
 have e1 : (decide ((l0.length : Int) > 2000)) = true := by simpa using c1
 try rw [e1]
 refine Evr.condT rfl (Evr.regionN rfl (Opl.p1 (n := ?_)))
 obtain ⟨c2, H⟩ := peel H
 refine Opl.slcT (M := (cInt .u8)) (b := 2000) (by exact hv0) rfl  (by omega) (by omega) K22 Z5 rfl rfl rfl ?_
 rintro pv1 h1
 refine Opl.p1 (n := Opl.nil (Evr.sr rfl (Opl.p1 (n := Opl.one (v := .agg [pv1, .lit (.int .i64 0)]) rfl rfl (by simp only [go_sem]; simp only [fillL, Sl.cells h1]; rfl) (Opl.box (cs := [pv1, .lit (.int .i64 0)]) rfl rfl rfl rfl ?_)))))
 rintro i1 S h2 u1 w1
 have ap1 := w1.sameP hs0
 have h3 := u1.sameP hs0 ap1
 refine Opl.p1 (n := Opl.nil ?_)
 obtain rfl := Option.some.inj H
 refine Evr.ret1 Try.func47 rfl ?_
 exact ⟨_, _, rfl, h1, h2, (OutT.new0 ap1), h3⟩
end Go.Proofs.Ytjgonefohfldjaa.PA
