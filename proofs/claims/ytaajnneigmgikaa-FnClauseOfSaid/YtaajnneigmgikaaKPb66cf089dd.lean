/- Walks of Go functions: each is shown to answer as the Lean function beside it tells, under the conditions that its theorem names. -/
import Derived.Test.YtaajnneigmgikaaProg
import Derived.KernelRfl
import Derived.Below
import Derived.Deep.Draws
import Derived.Deep.AppendLies
import Derived.Maps.AppendAt
import Derived.OwnWalk
import Derived.Laws.BytesArg
import Derived.Laws.MakeOwn
import Derived.Laws.OwnMore
import Derived.Deep.OwnRows
import Derived.Tactics
import Derived.Lib.ConvBytes
import Derived.Laws.Slices
import Derived.WalkKit
import Derived.RowKit3
import Derived.Deep.LoopGhost
import Derived.Deep.QuietTactic
import Derived.BigQuiet
import Derived.WideLaws
import Derived.Deep.DeepCutAuto
import Derived.Deep.CutBlock
import Derived.Deep.RegionHeld3
import Derived.Laws.Rows
import Derived.Lib.AppendStr
import Derived.ArgAppend
import Derived.Laws.IdiomCopy
import Derived.OrdersHeld
import Derived.Laws.BitsLemmas
import Derived.RowKit
import Derived.Laws.StructEq
import Derived.Lib.SliceRun
import Derived.WalkSpells
import Derived.ChangeArms
import Derived.ChangeSlices
import Derived.Deep.Slices
import Derived.Attr
import Derived.Laws.Append
import Derived.Laws.AppendOwn
import Derived.Laws.Entries
import Derived.Calls
import Derived.Laws.Sem
import Derived.Test.YtaajnneigmgikaaKPd47eae1238
namespace Go.Proofs.Ytaajnneigmgikaa.PA
open Go Go.Abs Go.RowKit Go.Proofs Go.Proofs.YtaajnneigmgikaaW.PrintWords Go.Proofs.YtaajnneigmgikaaW.PrintLast Go.Proofs.YtaajnneigmgikaaW.PrintMore
set_option maxRecDepth 100000
set_option maxHeartbeats 4000000
set_option linter.unusedVariables false
set_option linter.unusedSimpArgs false
theorem spec_l11Abs.ev {a0 : Int} {r : Int} (H : spec_l11Abs.f a0 = some r) : Ret Try.prog 77 [.lit (.int .i64 a0)] fun v S => v = .lit (.int .i64 r) := by
 unfold spec_l11Abs.f at H
 refine Ret.intro Try.func77 rfl (Nat.le_of_ble_eq_true rfl) rfl ?_
 rw [tm1]
 refine Evr.sr rfl (Opl.p1 (n := Opl.nil (Evr.seq (Evr.sr rfl (Opl.p1 (n := Opl.p1 (n := Opl.nil ?_)))))))
 by_cases c1 : a0 < 0
 case neg =>
  rw [if_neg c1] at H
  have e2 : (decide (a0 < 0)) = false := by simpa using c1
  try rw [e2]
  refine Evr.condF rfl (Evr.skip (Evr.sr rfl (Opl.p1 (n := Opl.p1 (n := Opl.nil ?_)))))
  obtain rfl := Option.some.inj H
  refine Evr.ret1 Try.func77 rfl ?_
  show (.lit (.int .i64 a0) : PV) = _
  first | rfl | (simp only [go_sem]; rfl)
 rw [if_pos c1] at H
 have e1 : (decide (a0 < 0)) = true := by simpa using c1
 try rw [e1]
 refine Evr.condT rfl (Evr.sr rfl (Opl.p1 (n := Opl.one (v := .lit (.int .i64 (wrap64 (-a0)))) rfl rfl (by simp only [go_sem, Int.zero_sub, w64]; rfl) (Opl.one (v := .lit (.int .i64 (wrap64 (-a0)))) rfl rfl rfl (Opl.nil ?_)))))
 obtain rfl := Option.some.inj H
 refine Evr.ret1 Try.func77 rfl ?_
 show (.lit (.int .i64 (wrap64 (-a0))) : PV) = _
 first | rfl | (simp only [go_sem]; rfl)
theorem spec_l11Clause.ev {k : Nat} {l0 : List Int} {v0 : PV} (hv0 : Sl (cInt .i64) l0 v0) {a1 : Int} {r : (List Int) × Bool} (H : spec_l11Clause.f k l0 a1 = some r) : Ret Try.prog 71 [v0, .lit (.int .i64 a1)] fun v S => Out (fun q => ∃ q1 q2, q = .tup [q1, q2] ∧ Sl (cInt .i64) r.1 q1 ∧ q2 = .lit (.bool r.2)) v S := by
 unfold spec_l11Clause.f at H
 refine Ret.intro Try.func71 rfl (Nat.le_of_ble_eq_true rfl) rfl ?_
 rw [tm2]
 refine Evr.sr rfl (Opl.p1 (n := Opl.p1 (n := Opl.nil (Evr.sr rfl (Opl.p1 (n := Opl.add (k := .i64) (a := a1) (b := 1) K3 rfl rfl rfl rfl ?_))))))
 obtain ⟨c1, H⟩ := peel H
 obtain ⟨c2, H⟩ := peel H
 refine Opl.make (M := (cInt .i64)) (m := (wrap64 (a1 + 1))) (0 : Int) (by exact rfl) rfl rfl K41 T3 rfl (by omega) (by show ((wrap64 (a1 + 1))).toNat * 8 ≤ 281474976710656; omega) (by omega) rfl rfl rfl ?_
 rintro pv1 S h1 u1 w1
 refine Opl.one (v := pv1) rfl rfl rfl (Opl.nil (Evr.seq (Evr.sr rfl (Opl.one (v := .lit (.int .i64 0)) rfl rfl rfl (Opl.nil (Evr.block ?_))))))
 refine Evr.loop (Evr.rounds (n := k) (Inv := fun n tm S => n ≤ k ∧ ∃ (x6_1 : List Int) (x7_1 : Int) (pv2 : PV), spec_l11Clause.l1 n x6_1 x7_1 l0 a1 = some r ∧ Has tm [(0, v0), (1, .lit (.int .i64 a1)), (6, pv2), (7, .lit (.int .i64 x7_1))] ∧ Vec (cInt .i64) x6_1 pv2 S) ?_ ?_ ?_)
 · exact ⟨Nat.le_refl _, _, _, _, H, ⟨rfl, rfl, rfl, rfl, trivial⟩, h1⟩
 ·
  rintro tm S ⟨_, _, _, _, H, -⟩
  simp [spec_l11Clause.l1] at H
 ·
  rintro n1 ih1 tm S ⟨hle, x6_1, x7_1, pv2, H, hh, h2⟩
  simp only [spec_l11Clause.l1] at H
  rw [hh.eq]
  refine Evr.seq (Evr.sr rfl (Opl.p1 (n := Opl.p1 (n := Opl.len (xs := l0) (by exact hv0) K41 rfl rfl rfl rfl (Opl.p1 (n := Opl.nil ?_))))))
  by_cases c3 : x7_1 < (l0.length : Int)
  case neg =>
   rw [if_neg c3] at H
   have e6 : (decide (x7_1 < (l0.length : Int))) = false := by simpa using c3
   try rw [e6]
   refine Evr.condF rfl (Evr.exit rfl (Evr.sr rfl (Opl.lits (M := (cInt .i64)) (ys := []) [] K41 T3 rfl rfl rfl trivial rfl (by decide) rfl rfl rfl ?_)))
   rintro pv4 S h16 u3 w2
   have ap1 := w2.vec h2
   have h17 := u3.vec h2 ap1
   refine Opl.p1 (n := Opl.nil (Evr.seq (Evr.sr rfl (Opl.p1 (n := Opl.nil (Evr.block ?_))))))
   refine Evr.loop (Evr.rounds (n := n1) (Inv := fun n tm S => n ≤ n1 ∧ ∃ (x9q4_1 : List Int) (x10q4_1 : Int) (pv5 : PV) (pv6 : PV), spec_l11Clause.l3 n x9q4_1 x10q4_1 a1 x6_1 = some r ∧ Has tm [(1, .lit (.int .i64 a1)), (6, pv5), (9, pv6), (10, .lit (.int .i64 x10q4_1))] ∧ Vec (cInt .i64) x6_1 pv5 S ∧ Vec (cInt .i64) x9q4_1 pv6 S ∧ Ap pv5 pv6) ?_ ?_ ?_)
   · exact ⟨Nat.le_refl _, _, _, _, _, H, ⟨rfl, rfl, rfl, rfl, trivial⟩, h17, h16, ap1⟩
   ·
    rintro tm S ⟨_, _, _, _, _, H, -⟩
    simp [spec_l11Clause.l3] at H
   ·
    rintro n2 ih2 tm S ⟨hle, x9q4_1, x10q4_1, pv5, pv6, H, hh, h18, h19, ap2⟩
    simp only [spec_l11Clause.l3] at H
    rw [hh.eq]
    refine Evr.seq (Evr.sr rfl (Opl.p1 (n := Opl.p1 (n := Opl.p1 (n := Opl.nil ?_)))))
    by_cases c18 : x10q4_1 ≤ a1
    case neg =>
     rw [if_neg c18] at H
     have e10 : (decide (x10q4_1 ≤ a1)) = false := by simpa using c18
     try rw [e10]
     refine Evr.condF rfl (Evr.exit rfl (Evr.sr rfl (Opl.p1 (n := Opl.p1 (n := Opl.p1 (n := Opl.nil ?_))))))
     obtain rfl := Option.some.inj H
     refine Evr.ret2 Try.func71 rfl ?_
     show Out _ (.tup [pv6, .lit (.bool true)]) _
     exact .tup2 (.vec h19) .lit
    rw [if_pos c18] at H
    have e7 : (decide (x10q4_1 ≤ a1)) = true := by simpa using c18
    try rw [e7]
    refine Evr.condT rfl (Evr.skip (Evr.seq (Evr.block (Evr.sr rfl (Opl.p1 (n := Opl.p1 (n := ?_)))))))
    obtain ⟨c19, H⟩ := peel H
    obtain ⟨c20, H⟩ := peel H
    refine Opl.idv (M := (cInt .i64)) (xs := x6_1) (j := x10q4_1) (v := pv5) h18 rfl rfl (by omega) (by omega) K41 Z3 rfl rfl ?_
    rintro d4 z4 q9 h20 h21
    refine Opl.ldv (M := (cInt .i64)) (xs := x6_1) (j := x10q4_1) (0 : Int) h20 h21 (by omega) (by omega) rfl T3 rfl rfl rfl ?_
    rintro p6 q10 h22
    obtain rfl : p6 = [.lit (.int .i64 (rd x6_1 x10q4_1))] := h22
    refine ⟨.lit (.int .i64 (rd x6_1 x10q4_1)), rfl, ?_⟩
    refine Opl.p1 (n := Opl.nil ?_)
    refine Evr.join (fun tm S => ∃ (kq2 : Nat) (x9q4_2 : List Int) (pv7 : PV) (pv8 : PV), spec_l11Clause.l3 kq2 x9q4_2 (wrap64 (x10q4_1 + 1)) a1 x6_1 = some r ∧ kq2 ≤ n2 ∧ Has tm [(1, .lit (.int .i64 a1)), (6, pv7), (9, pv8), (10, .lit (.int .i64 x10q4_1))] ∧ Vec (cInt .i64) x6_1 pv7 S ∧ Vec (cInt .i64) x9q4_2 pv8 S ∧ Ap pv7 pv8) ?_ fun hk2 => ?_
    ·
     rintro tm S ⟨kq2, x9q4_2, pv7, pv8, H, hle, hh, h23, h24, ap3⟩
     rw [hh.eq]
     refine Evr.inBlock (Evr.regionN rfl (Opl.p1 (n := Opl.add (k := .i64) (a := x10q4_1) (b := 1) K3 rfl rfl rfl rfl (Opl.one (v := .lit (.int .i64 (wrap64 (x10q4_1 + 1)))) rfl rfl rfl (Opl.nil ?_)))))
     exact ih2 _ (by omega) _ _ ⟨by omega, _, _, _, _, H, ⟨rfl, rfl, rfl, rfl, trivial⟩, h23, h24, ap3⟩
    ·
     by_cases c21 : (rd x6_1 x10q4_1) ≠ 0
     case neg =>
      rw [if_neg c21] at H
      have e9 : ((rd x6_1 x10q4_1) != 0) = false := by simpa using c21
      try rw [e9]
      refine Evr.condF rfl (Evr.skip ?_)
      exact hk2 _ _ ⟨_, _, _, _, H, by omega, ⟨rfl, rfl, rfl, rfl, trivial⟩, h18, h19, ap2⟩
     rw [if_pos c21] at H
     have e8 : ((rd x6_1 x10q4_1) != 0) = true := by simpa using c21
     try rw [e8]
     refine Evr.condT rfl (Evr.regionN rfl (Opl.p1 (n := Opl.p1 (n := Opl.p1 (n := ?_)))))
     obtain ⟨c22, H⟩ := peel H
     obtain ⟨c23, H⟩ := peel H
     obtain ⟨c24, H⟩ := peel H
     refine Opl.idv (M := (cInt .i64)) (xs := x6_1) (j := x10q4_1) (v := pv5) h18 rfl rfl (by omega) (by omega) K41 Z3 rfl rfl ?_
     rintro d5 z5 q11 h25 h26
     refine Opl.ldv (M := (cInt .i64)) (xs := x6_1) (j := x10q4_1) (0 : Int) h25 h26 (by omega) (by omega) rfl T3 rfl rfl rfl ?_
     rintro p7 q12 h27
     obtain rfl : p7 = [.lit (.int .i64 (rd x6_1 x10q4_1))] := h27
     refine ⟨.lit (.int .i64 (rd x6_1 x10q4_1)), rfl, ?_⟩
     refine Opl.liti (M := (cInt .i64)) (ys := [(rd x6_1 x10q4_1)]) [.tmp 63] K41 T3 rfl rfl rfl (by exact ⟨rfl, trivial⟩) rfl (by decide) rfl rfl ?_
     rintro pv10 h28
     refine Opl.app (M := (cInt .i64)) (xs := x9q4_1) (ys := [(rd x6_1 x10q4_1)]) (v := pv6) h19 (.sl h28) (oInt .i64) rfl rfl K41 T3 rfl rfl (by (try simp only [List.length_cons, List.length_nil]); omega) (by show (_ + _) * 8 ≤ 140737488355328; (try simp only [List.length_cons, List.length_nil]); omega) rfl rfl rfl rfl rfl ?_
     rintro pv11 S h29 u4 w3
     have ap4 := w3.vec h18
     have h30 := u4.vec h18 ap2
     refine Opl.p1 (n := Opl.nil ?_)
     exact hk2 _ _ ⟨_, _, _, _, H, by omega, ⟨rfl, rfl, rfl, rfl, trivial⟩, h30, h29, ap4⟩
  rw [if_pos c3] at H
  have e1 : (decide (x7_1 < (l0.length : Int))) = true := by simpa using c3
  try rw [e1]
  refine Evr.condT rfl (Evr.skip (Evr.seq (Evr.block (Evr.sr rfl (Opl.p1 (n := Opl.p1 (n := ?_)))))))
  obtain ⟨c4, H⟩ := peel H
  obtain ⟨c5, H⟩ := peel H
  refine Opl.idx (M := (cInt .i64)) (xs := l0) (j := x7_1) (0 : Int) (by exact hv0) rfl (by omega) (by omega) K41 Z3 rfl rfl ?_
  rintro p1 q1 h3
  obtain rfl : p1 = [.lit (.int .i64 (rd l0 x7_1))] := h3
  refine Opl.lda (.lit (.int .i64 (rd l0 x7_1))) rfl T3 rfl rfl rfl rfl ?_
  obtain ⟨r1, h_r1, H⟩ := Option.bind_eq_some_iff.1 H
  refine Opl.callc (spec_l11Abs.ev h_r1) rfl rfl rfl rfl ⟨(.lit _), trivial⟩ (by decide) (Opl.p1 (n := Opl.nil (Evr.seq (Evr.seq ?_))))
  refine Evr.join2 (fun tm S => ∃ (kq1 : Nat) (pv3 : PV), spec_l11Clause.j2 kq1 l0 a1 x6_1 x7_1 r1 = some r ∧ kq1 ≤ n1 ∧ Has tm [(0, v0), (1, .lit (.int .i64 a1)), (6, pv3), (7, .lit (.int .i64 x7_1)), (8, .lit (.int .i64 r1))] ∧ Vec (cInt .i64) x6_1 pv3 S) ?_ fun hk1 => ?_
  ·
   rintro tm S ⟨kq1, pv3, H, hle, hh, h4⟩
   rw [hh.eq]
   refine Evr.regionN rfl (Opl.p1 (n := Opl.p1 (n := Opl.p1 (n := Opl.p1 (n := ?_)))))
   obtain _ | k1 := kq1
   · simp [spec_l11Clause.j2] at H
   simp only [spec_l11Clause.j2] at H
   obtain ⟨c6, H⟩ := peel H
   obtain ⟨c7, H⟩ := peel H
   obtain ⟨c8, H⟩ := peel H
   obtain ⟨c9, H⟩ := peel H
   refine Opl.idx (M := (cInt .i64)) (xs := l0) (j := x7_1) (0 : Int) (by exact hv0) rfl (by omega) (by omega) K41 Z3 rfl rfl ?_
   rintro p2 q2 h5
   obtain rfl : p2 = [.lit (.int .i64 (rd l0 x7_1))] := h5
   refine Opl.lda (.lit (.int .i64 (rd l0 x7_1))) rfl T3 rfl rfl rfl rfl (Opl.idv (M := (cInt .i64)) (xs := x6_1) (j := r1) (v := pv3) h4 rfl rfl (by omega) (by omega) K41 Z3 rfl rfl ?_)
   rintro d1 z1 q3 h6 h7
   refine Opl.stv (M := (cInt .i64)) (xs := x6_1) (j := r1) (y := (rd l0 x7_1)) (vs := [.lit (.int .i64 (rd l0 x7_1))]) h6 h7 (by omega) (by omega) rfl rfl (by exact rfl) Z3 rfl rfl rfl rfl ?_
   rw [← q3]
   rintro S h8 u2
   refine Opl.nil (Evr.inBlock (Evr.regionN rfl (Opl.p1 (n := Opl.add (k := .i64) (a := x7_1) (b := 1) K3 rfl rfl rfl rfl (Opl.one (v := .lit (.int .i64 (wrap64 (x7_1 + 1)))) rfl rfl rfl (Opl.nil ?_))))))
   exact ih1 _ (by omega) _ _ ⟨by omega, _, _, _, H, ⟨rfl, rfl, rfl, rfl, trivial⟩, h8⟩
  ·
   refine Evr.regionD rfl (by kernel_rfl) (Opl.p1 (n := Opl.p1 (n := ?_)))
   obtain ⟨c10, H⟩ := peel H
   obtain ⟨c11, H⟩ := peel H
   refine Opl.idv (M := (cInt .i64)) (xs := x6_1) (j := r1) (v := pv2) h2 rfl rfl (by omega) (by omega) K41 Z3 rfl rfl ?_
   rintro d2 z2 q4 h9 h10
   refine Opl.ldv (M := (cInt .i64)) (xs := x6_1) (j := r1) (0 : Int) h9 h10 (by omega) (by omega) rfl T3 rfl rfl rfl ?_
   rintro p3 q5 h11
   obtain rfl : p3 = [.lit (.int .i64 (rd x6_1 r1))] := h11
   refine ⟨.lit (.int .i64 (rd x6_1 r1)), rfl, ?_⟩
   refine Opl.p1 (n := Opl.p1 (n := ?_))
   by_cases c12 : (rd x6_1 r1) ≠ 0
   case neg =>
    rw [if_neg c12] at H
    have e5 : ((rd x6_1 r1) != 0) = false := by simpa using c12
    try rw [e5]
    refine Opl.skp rfl (Opl.skp rfl (Opl.skp rfl (Opl.skp rfl (Opl.skp rfl (Opl.skp rfl (Opl.skp rfl (Opl.skp rfl (Opl.skp rfl (Opl.p1 (n := Opl.nil (Evr.condF rfl (Evr.skip ?_))))))))))))
    exact hk1 _ _ ⟨_, _, H, by omega, ⟨rfl, rfl, rfl, rfl, rfl, trivial⟩, h2⟩
   rw [if_pos c12] at H
   have e2 : ((rd x6_1 r1) != 0) = true := by simpa using c12
   try rw [e2]
   refine Opl.p1 (n := Opl.p1 (n := ?_))
   obtain ⟨c13, H⟩ := peel H
   obtain ⟨c14, H⟩ := peel H
   obtain ⟨c15, H⟩ := peel H
   obtain ⟨c16, H⟩ := peel H
   refine Opl.idv (M := (cInt .i64)) (xs := x6_1) (j := r1) (v := pv2) h2 rfl rfl (by omega) (by omega) K41 Z3 rfl rfl ?_
   rintro d3 z3 q6 h12 h13
   refine Opl.ldv (M := (cInt .i64)) (xs := x6_1) (j := r1) (0 : Int) h12 h13 (by omega) (by omega) rfl T3 rfl rfl rfl ?_
   rintro p4 q7 h14
   obtain rfl : p4 = [.lit (.int .i64 (rd x6_1 r1))] := h14
   refine ⟨.lit (.int .i64 (rd x6_1 r1)), rfl, ?_⟩
   refine Opl.p1 (n := Opl.p1 (n := Opl.idx (M := (cInt .i64)) (xs := l0) (j := x7_1) (0 : Int) (by exact hv0) rfl (by omega) (by omega) K41 Z3 rfl rfl ?_))
   rintro p5 q8 h15
   obtain rfl : p5 = [.lit (.int .i64 (rd l0 x7_1))] := h15
   refine Opl.lda (.lit (.int .i64 (rd l0 x7_1))) rfl T3 rfl rfl rfl rfl (Opl.p1 (n := Opl.p1 (n := Opl.nil ?_)))
   by_cases c17 : (rd x6_1 r1) ≠ (rd l0 x7_1)
   case neg =>
    rw [if_neg c17] at H
    have e4 : ((rd x6_1 r1) != (rd l0 x7_1)) = false := by simpa using c17
    try rw [e4]
    refine Evr.condF rfl (Evr.skip ?_)
    exact hk1 _ _ ⟨_, _, H, by omega, ⟨rfl, rfl, rfl, rfl, rfl, trivial⟩, h2⟩
   rw [if_pos c17] at H
   have e3 : ((rd x6_1 r1) != (rd l0 x7_1)) = true := by simpa using c17
   try rw [e3]
   refine Evr.condT rfl (Evr.sr rfl (Opl.p1 (n := Opl.p1 (n := Opl.nil ?_))))
   obtain rfl := Option.some.inj H
   refine Evr.ret2 Try.func71 rfl ?_
   show Out _ (.tup [.lit (.slice none 0 0), .lit (.bool false)]) _
   exact .tup2 (.sl .nil) .lit
theorem spec_l1In.ev {a0 : Int} {a1 : Int} {a2 : Int} {r : Bool} (H : spec_l1In.f a0 a1 a2 = some r) : Ret Try.prog 69 [.lit (.int .i64 a0), .lit (.int .i64 a1), .lit (.int .i64 a2)] fun v S => v = .lit (.bool r) := by
 unfold spec_l1In.f at H
 refine Ret.intro Try.func69 rfl (Nat.le_of_ble_eq_true rfl) rfl ?_
 rw [tm3]
 refine Evr.sr rfl (Opl.p1 (n := Opl.nil (Evr.sr rfl (Opl.p1 (n := Opl.p1 (n := Opl.p1 (n := Opl.p1 (n := ?_))))))))
 by_cases c1 : a0 ≥ a1
 case neg =>
  rw [if_neg c1] at H
  have e2 : (decide (a0 ≥ a1)) = false := by simpa using c1
  try rw [e2]
  refine Opl.skp rfl (Opl.skp rfl (Opl.skp rfl (Opl.p1 (n := Opl.p1 (n := Opl.nil ?_)))))
  obtain rfl := Option.some.inj H
  refine Evr.ret1 Try.func69 rfl ?_
  show (.lit (.bool false) : PV) = _
  first | rfl | (simp only [go_sem]; rfl)
 rw [if_pos c1] at H
 have e1 : (decide (a0 ≥ a1)) = true := by simpa using c1
 try rw [e1]
 refine Opl.p1 (n := Opl.p1 (n := Opl.p1 (n := Opl.p1 (n := Opl.p1 (n := Opl.nil ?_)))))
 obtain rfl := Option.some.inj H
 refine Evr.ret1 Try.func69 rfl ?_
 show (.lit (.bool (decide (a0 ≤ a2))) : PV) = _
 first | rfl | (simp only [go_sem]; rfl)
theorem spec_l11Lit.ev {a0 : Int} {a1 : Int} {r : Bool} (H : spec_l11Lit.f a0 a1 = some r) : Ret Try.prog 70 [.lit (.int .i64 a0), .lit (.int .i64 a1)] fun v S => v = .lit (.bool r) := by
 unfold spec_l11Lit.f at H
 refine Ret.intro Try.func70 rfl (Nat.le_of_ble_eq_true rfl) rfl ?_
 rw [tm2]
 refine Evr.sr rfl (Opl.p1 (n := Opl.nil (Evr.sr rfl (Opl.p1 (n := Opl.p1 (n := Opl.p1 (n := ?_)))))))
 by_cases c1 : a0 = 0
 case pos =>
  rw [if_pos c1] at H
  have e1 : (a0 != 0) = false := by simpa using c1
  try rw [e1]
  refine Opl.skp rfl (Opl.skp rfl (Opl.skp rfl (Opl.skp rfl (Opl.skp rfl (Opl.p1 (n := Opl.p1 (n := Opl.nil ?_)))))))
  obtain rfl := Option.some.inj H
  refine Evr.ret1 Try.func70 rfl ?_
  show (.lit (.bool false) : PV) = _
  first | rfl | (simp only [go_sem]; rfl)
 rw [if_neg c1] at H
 have e2 : (a0 != 0) = true := by simpa using c1
 try rw [e2]
 refine Opl.p1 (n := Opl.p1 (n := Opl.one (v := .lit (.int .i64 (wrap64 (-a1)))) rfl rfl (by simp only [go_sem, Int.zero_sub, w64]; rfl) (Opl.one (v := .lit (.int .i64 a1)) rfl rfl rfl ?_)))
 obtain ⟨t107, h_t107, H⟩ := Option.bind_eq_some_iff.1 H
 refine Opl.callc (spec_l1In.ev h_t107) rfl rfl rfl rfl ⟨(.lit _), (.lit _), (.lit _), trivial⟩ (by decide) (Opl.p1 (n := Opl.one (v := .lit (.bool t107)) rfl rfl rfl (Opl.nil ?_)))
 obtain rfl := Option.some.inj H
 refine Evr.ret1 Try.func70 rfl ?_
 show (.lit (.bool t107) : PV) = _
 first | rfl | (simp only [go_sem]; rfl)
theorem spec_ClauseOf.ev {k : Nat} {l0 : List Int} {v0 : PV} (hv0 : Sl (cInt .i64) l0 v0) {a1 : Int} {r : (List Int) × Bool} (H : spec_ClauseOf.f k l0 a1 = some r) : Ret Try.prog 18 [v0, .lit (.int .i64 a1)] fun v S => Out (fun q => ∃ q1 q2, q = .tup [q1, q2] ∧ Sl (cInt .i64) r.1 q1 ∧ q2 = .lit (.bool r.2)) v S := by
 unfold spec_ClauseOf.f at H
 refine Ret.intro Try.func18 rfl (Nat.le_of_ble_eq_true rfl) rfl ?_
 rw [tm2]
 refine Evr.sr rfl (Opl.p1 (n := Opl.p1 (n := Opl.nil (Evr.seq (Evr.sr rfl (Opl.p1 (n := ?_)))))))
 obtain ⟨r1, h_r1, H⟩ := Option.bind_eq_some_iff.1 H
 refine Opl.callc (spec_l1In.ev h_r1) rfl rfl rfl rfl ⟨(.lit _), (.lit _), (.lit _), trivial⟩ (by decide) (Opl.p1 (n := Opl.nil ?_))
 by_cases c1 : r1 = true
 case neg =>
  rw [if_neg c1] at H
  have e6 : (!r1) = true := by simpa using c1
  try rw [e6]
  refine Evr.condT rfl (Evr.sr rfl (Opl.p1 (n := Opl.p1 (n := Opl.nil ?_))))
  obtain rfl := Option.some.inj H
  refine Evr.ret2 Try.func18 rfl ?_
  show Out _ (.tup [.lit (.slice none 0 0), .lit (.bool false)]) _
  exact .tup2 (.sl .nil) .lit
 rw [if_pos c1] at H
 have e1 : (!r1) = false := by simpa using c1
 try rw [e1]
 refine Evr.condF rfl (Evr.skip (Evr.seq (Evr.sr rfl (Opl.p1 (n := Opl.nil (Evr.block ?_))))))
 refine Evr.loop (Evr.rounds (n := k) (Inv := fun n tm S => n ≤ k ∧ ∃ (x6_1 : Int), spec_ClauseOf.l1 n x6_1 l0 a1 = some r ∧ Has tm [(0, v0), (1, .lit (.int .i64 a1)), (6, .lit (.int .i64 x6_1))]) ?_ ?_ ?_)
 · exact ⟨Nat.le_refl _, _, H, ⟨rfl, rfl, rfl, trivial⟩⟩
 ·
  rintro tm S ⟨_, _, H, -⟩
  simp [spec_ClauseOf.l1] at H
 ·
  rintro n1 ih1 tm S ⟨hle, x6_1, H, hh⟩
  simp only [spec_ClauseOf.l1] at H
  rw [hh.eq]
  refine Evr.seq (Evr.sr rfl (Opl.p1 (n := Opl.p1 (n := Opl.len (xs := l0) (by exact hv0) K41 rfl rfl rfl rfl (Opl.p1 (n := Opl.nil ?_))))))
  by_cases c2 : x6_1 < (l0.length : Int)
  case neg =>
   rw [if_neg c2] at H
   have e5 : (decide (x6_1 < (l0.length : Int))) = false := by simpa using c2
   try rw [e5]
   refine Evr.condF rfl (Evr.exit rfl (Evr.sr rfl (Opl.p1 (n := Opl.p1 (n := ?_)))))
   obtain ⟨r3, h_r3, H⟩ := Option.bind_eq_some_iff.1 H
   refine Opl.call (spec_l11Clause.ev hv0 h_r3) rfl rfl rfl rfl ⟨hv0.plain, (.lit _), trivial⟩ (by decide) ?_
   rintro _ ⟨pv2, _, rfl, h3, rfl⟩
   refine Opl.p1 (v := pv2) (n := Opl.p1 (v := .lit (.bool r3.2)) (n := Opl.p1 (n := Opl.p1 (n := Opl.nil ?_))))
   obtain rfl := Option.some.inj H
   refine Evr.ret2 Try.func18 rfl ?_
   show Out _ (.tup [pv2, .lit (.bool r3.2)]) _
   exact .tup2 (.sl h3) .lit
  rw [if_pos c2] at H
  have e2 : (decide (x6_1 < (l0.length : Int))) = true := by simpa using c2
  try rw [e2]
  refine Evr.condT rfl (Evr.skip (Evr.seq (Evr.block (Evr.sr rfl (Opl.p1 (n := Opl.p1 (n := ?_)))))))
  obtain ⟨c3, H⟩ := peel H
  obtain ⟨c4, H⟩ := peel H
  refine Opl.idx (M := (cInt .i64)) (xs := l0) (j := x6_1) (0 : Int) (by exact hv0) rfl (by omega) (by omega) K41 Z3 rfl rfl ?_
  rintro p1 q1 h1
  obtain rfl : p1 = [.lit (.int .i64 (rd l0 x6_1))] := h1
  refine Opl.lda (.lit (.int .i64 (rd l0 x6_1))) rfl T3 rfl rfl rfl rfl (Opl.p1 (n := ?_))
  obtain ⟨r2, h_r2, H⟩ := Option.bind_eq_some_iff.1 H
  refine Opl.callc (spec_l11Lit.ev h_r2) rfl rfl rfl rfl ⟨(.lit _), (.lit _), trivial⟩ (by decide) (Opl.p1 (n := Opl.nil ?_))
  by_cases c5 : r2 = true
  case neg =>
   rw [if_neg c5] at H
   have e4 : (!r2) = true := by simpa using c5
   try rw [e4]
   refine Evr.condT rfl (Evr.sr rfl (Opl.p1 (n := Opl.p1 (n := Opl.nil ?_))))
   obtain rfl := Option.some.inj H
   refine Evr.ret2 Try.func18 rfl ?_
   show Out _ (.tup [.lit (.slice none 0 0), .lit (.bool false)]) _
   exact .tup2 (.sl .nil) .lit
  rw [if_pos c5] at H
  have e3 : (!r2) = false := by simpa using c5
  try rw [e3]
  refine Evr.condF rfl (Evr.skip (Evr.inBlock (Evr.regionN rfl (Opl.p1 (n := Opl.add (k := .i64) (a := x6_1) (b := 1) K3 rfl rfl rfl rfl (Opl.one (v := .lit (.int .i64 (wrap64 (x6_1 + 1)))) rfl rfl rfl (Opl.nil ?_)))))))
  exact ih1 _ (by omega) _ _ ⟨by omega, _, H, ⟨rfl, rfl, rfl, trivial⟩⟩
theorem spec_l40Open.evb {k : Nat} {S0 : Sto} {l0 : List Int} {v0 : PV} (hv0 : Sl (cInt .u8) l0 v0) {r : (List Int × Int)} (H : spec_l40Open.f k l0 = some r) : RetS Try.prog 62 [v0] S0 fun v S => ∃ jv zv, v = .ptr jv 0 ∧ Sl (cInt .u8) r.1 zv ∧ Box v [zv, .lit (.int .i64 r.2)] S ∧ New S0 v ∧ Same S0 S [] := by
 have hs0 : Same S0 S0 [] := .refl _ _
 unfold spec_l40Open.f at H
 refine RetS.intro Try.func62 rfl (Nat.le_of_ble_eq_true rfl) rfl ?_
 rw [tm1]
 refine Evr.sr rfl (Opl.p1 (n := Opl.nil (Evr.seq (Evr.sr rfl (Opl.p1 (n := Opl.len (xs := l0) (by exact hv0) K40 rfl rfl rfl rfl (Opl.p1 (n := Opl.nil ?_))))))))
 by_cases c1 : (l0.length : Int) > 2000
 case neg =>
  rw [if_neg c1] at H
  have e2 : (decide ((l0.length : Int) > 2000)) = false := by simpa using c1
  try rw [e2]
  refine Evr.condF rfl (Evr.skip (Evr.sr rfl (Opl.p1 (n := Opl.one (v := .agg [v0, .lit (.int .i64 0)]) rfl rfl (by simp only [go_sem]; simp only [fillL, Sl.cells hv0]; rfl) (Opl.box (cs := [v0, .lit (.int .i64 0)]) rfl rfl rfl rfl ?_)))))
  rintro i2 S h4 u2 w2
  have ap2 := w2.sameP hs0
  have h5 := u2.sameP hs0 ap2
  refine Opl.p1 (n := Opl.nil ?_)
  obtain rfl := Option.some.inj H
  refine Evr.ret1 Try.func62 rfl ?_
  exact ⟨_, _, rfl, hv0, h4, (OutT.new0 ap2), h5⟩
 rw [if_pos c1] at H
 have e1 : (decide ((l0.length : Int) > 2000)) = true := by simpa using c1
 try rw [e1]
 refine Evr.condT rfl (Evr.regionN rfl (Opl.p1 (n := ?_)))
 obtain ⟨c2, H⟩ := peel H
 refine Opl.slcT (M := (cInt .u8)) (b := 2000) (by exact hv0) rfl  (by omega) (by omega) K40 Z5 rfl rfl rfl ?_
 rintro pv1 h1
 refine Opl.p1 (n := Opl.nil (Evr.sr rfl (Opl.p1 (n := Opl.one (v := .agg [pv1, .lit (.int .i64 0)]) rfl rfl (by simp only [go_sem]; simp only [fillL, Sl.cells h1]; rfl) (Opl.box (cs := [pv1, .lit (.int .i64 0)]) rfl rfl rfl rfl ?_)))))
 rintro i1 S h2 u1 w1
 have ap1 := w1.sameP hs0
 have h3 := u1.sameP hs0 ap1
 refine Opl.p1 (n := Opl.nil ?_)
 obtain rfl := Option.some.inj H
 refine Evr.ret1 Try.func62 rfl ?_
 exact ⟨_, _, rfl, h1, h2, (OutT.new0 ap1), h3⟩
theorem spec_l40Rd_pick.evb {k : Nat} {S0 : Sto} {l0_0 : List Int} {a0_1 : Int} {i0 : Abs.Id} {q0 : PV} (hq0 : Sl (cInt .u8) l0_0 q0) (hb0 : Box (.ptr i0 0) [q0, .lit (.int .i64 a0_1)] S0) {a1 : Int} {r : Int × Int} (H : spec_l40Rd_pick.f k l0_0 a0_1 a1 = some r) : RetS Try.prog 64 [.ptr i0 0, .lit (.int .i64 a1)] S0 fun v S => v = .lit (.int .i64 r.2) ∧ Box (.ptr i0 0) [q0, .lit (.int .i64 r.1)] S ∧ Same S0 S [i0] := by
 have hs0 : Same S0 S0 [i0] := .refl _ _
 unfold spec_l40Rd_pick.f at H
 refine RetS.intro Try.func64 rfl (Nat.le_of_ble_eq_true rfl) rfl ?_
 rw [tm2]
 refine Evr.sr rfl (Opl.p1 (n := Opl.nil (Evr.sr rfl (Opl.p1 (n := Opl.p1 (n := Opl.p1 (v := .ptr i0 0) (n := Opl.p1 (v := .ptr i0 1) (n := Opl.ldb (v := .lit (.int .i64 a0_1)) hb0 rfl T3 rfl rfl rfl rfl (Opl.add (k := .i64) (a := a0_1) (b := 1) K3 rfl rfl rfl rfl (Opl.p1 (v := .ptr i0 0) (n := Opl.p1 (v := .ptr i0 1) (n := Opl.stb (vs := [.lit (.int .i64 (wrap64 (a0_1 + 1)))]) hb0 rfl rfl Z3 rfl (Nat.le_of_ble_eq_true rfl) rfl rfl rfl rfl ?_))))))))))))
 rintro S (h1 : Box (.ptr i0 0) [q0, .lit (.int .i64 (wrap64 (a0_1 + 1)))] _) u1
 have h2 := u1.sameP hs0 OutT.box
 refine Opl.nil (Evr.seq (Evr.sr rfl (Opl.one (v := .lit (.int .i64 a1)) rfl rfl rfl (Opl.p1 (n := Opl.one (v := .lit (.bool (decide (a1 < 1)))) rfl rfl rfl ?_)))))
 by_cases c1 : a1 < 1
 case pos =>
  rw [if_pos c1] at H
  have e1 : (decide (a1 < 1)) = true := by simpa using c1
  try rw [e1]
  refine Opl.skp rfl (Opl.skp rfl (Opl.skp rfl (Opl.skp rfl (Opl.skp rfl (Opl.skp rfl (Opl.p1 (n := Opl.nil (Evr.condT rfl (Evr.sr rfl (Opl.one (v := .lit (.int .i64 0)) rfl rfl rfl (Opl.nil ?_)))))))))))
  obtain rfl := Option.some.inj H
  refine Evr.ret1 Try.func64 rfl ?_
  exact ⟨(by first | rfl | (simp only [go_sem]; rfl)), h1, h2⟩
 rw [if_neg c1] at H
 have e2 : (decide (a1 < 1)) = false := by simpa using c1
 try rw [e2]
 refine Opl.one (v := .ptr i0 0) rfl rfl rfl (Opl.p1 (v := .ptr i0 0) (n := Opl.p1 (v := .ptr i0 0) (n := Opl.ldb (v := q0) h1 rfl T40 rfl rfl rfl rfl (Opl.len (xs := l0_0) (by exact hq0) K40 rfl rfl rfl rfl (Opl.p1 (n := Opl.p1 (n := Opl.nil ?_)))))))
 by_cases c2 : (l0_0.length : Int) = 0
 case pos =>
  rw [if_pos c2] at H
  have e3 : ((l0_0.length : Int) == 0) = true := by simpa using c2
  try rw [e3]
  refine Evr.condT rfl (Evr.sr rfl (Opl.one (v := .lit (.int .i64 0)) rfl rfl rfl (Opl.nil ?_)))
  obtain rfl := Option.some.inj H
  refine Evr.ret1 Try.func64 rfl ?_
  exact ⟨(by first | rfl | (simp only [go_sem]; rfl)), h1, h2⟩
 rw [if_neg c2] at H
 have e4 : ((l0_0.length : Int) == 0) = false := by simpa using c2
 try rw [e4]
 refine Evr.condF rfl (Evr.skip (Evr.sr rfl (Opl.one (v := .ptr i0 0) rfl rfl rfl (Opl.p1 (v := .ptr i0 0) (n := Opl.p1 (v := .ptr i0 1) (n := Opl.ldb (v := .lit (.int .i64 (wrap64 (a0_1 + 1)))) h1 rfl T3 rfl rfl rfl rfl (Opl.subi (k := .i64) (a := (wrap64 (a0_1 + 1))) (b := 1) K3 rfl rfl rfl rfl (Opl.one (v := .lit (.int .i64 (wrap64 ((wrap64 (a0_1 + 1)) - 1)))) rfl rfl rfl (Opl.nil (Evr.seq (Evr.sr rfl (Opl.one (v := .lit (.int .i64 (wrap64 ((wrap64 (a0_1 + 1)) - 1)))) rfl rfl rfl (Opl.one (v := .ptr i0 0) rfl rfl rfl (Opl.p1 (v := .ptr i0 0) (n := Opl.p1 (v := .ptr i0 0) (n := Opl.ldb (v := q0) h1 rfl T40 rfl rfl rfl rfl (Opl.len (xs := l0_0) (by exact hq0) K40 rfl rfl rfl rfl (Opl.lss (a := (wrap64 ((wrap64 (a0_1 + 1)) - 1))) (b := (l0_0.length : Int)) K3 rfl rfl rfl rfl (Opl.nil ?_)))))))))))))))))))
 by_cases c3 : (wrap64 ((wrap64 (a0_1 + 1)) - 1)) < (l0_0.length : Int)
 case pos =>
  rw [if_pos c3] at H
  have e5 : (decide ((wrap64 ((wrap64 (a0_1 + 1)) - 1)) < (l0_0.length : Int))) = true := by simpa using c3
  try rw [e5]
  refine Evr.condT rfl (Evr.sr rfl (Opl.one (v := .ptr i0 0) rfl rfl rfl (Opl.p1 (v := .ptr i0 0) (n := Opl.p1 (v := .ptr i0 0) (n := Opl.ldb (v := q0) h1 rfl T40 rfl rfl rfl rfl (Opl.one (v := .lit (.int .i64 (wrap64 ((wrap64 (a0_1 + 1)) - 1)))) rfl rfl rfl ?_))))))
  obtain ⟨c4, H⟩ := peel H
  obtain ⟨c5, H⟩ := peel H
  obtain ⟨c6, H⟩ := peel H
  refine Opl.idx (M := (cInt .u8)) (xs := l0_0) (j := (wrap64 ((wrap64 (a0_1 + 1)) - 1))) (0 : Int) (by exact hq0) rfl (by omega) (by omega) K40 Z5 rfl rfl ?_
  rintro p1 q1 h3
  obtain rfl : p1 = [.lit (.int .u8 (rd l0_0 (wrap64 ((wrap64 (a0_1 + 1)) - 1))))] := h3
  refine Opl.lda (.lit (.int .u8 (rd l0_0 (wrap64 ((wrap64 (a0_1 + 1)) - 1))))) rfl T5 rfl rfl rfl rfl (Opl.p1 (v := .lit (.int .i64 (wrap64 (rd l0_0 (wrap64 ((wrap64 (a0_1 + 1)) - 1)))))) (n := Opl.one (v := .lit (.int .i64 a1)) rfl rfl rfl (Opl.one (v := .lit (.int .i64 (Int.tmod (wrap64 (rd l0_0 (wrap64 ((wrap64 (a0_1 + 1)) - 1)))) a1))) rfl rfl (by simp only [go_sem]; rw [if_neg (by first | assumption | decide | omega)]; rfl) (Opl.one (v := .lit (.int .i64 (Int.tmod (wrap64 (rd l0_0 (wrap64 ((wrap64 (a0_1 + 1)) - 1)))) a1))) rfl rfl rfl (Opl.nil ?_)))))
  obtain rfl := Option.some.inj H
  refine Evr.ret1 Try.func64 rfl ?_
  exact ⟨(by first | rfl | (simp only [go_sem]; rfl)), h1, h2⟩
 rw [if_neg c3] at H
 have e6 : (decide ((wrap64 ((wrap64 (a0_1 + 1)) - 1)) < (l0_0.length : Int))) = false := by simpa using c3
 try rw [e6]
 refine Evr.condF rfl (Evr.skip (Evr.seq (Evr.regionD rfl (by kernel_rfl) (Opl.one (v := .ptr i0 0) rfl rfl rfl (Opl.p1 (v := .ptr i0 0) (n := Opl.p1 (v := .ptr i0 0) (n := Opl.ldb (v := q0) h1 rfl T40 rfl rfl rfl rfl (Opl.one (v := .lit (.int .i64 (wrap64 ((wrap64 (a0_1 + 1)) - 1)))) rfl rfl rfl (Opl.one (v := .ptr i0 0) rfl rfl rfl (Opl.p1 (v := .ptr i0 0) (n := Opl.p1 (v := .ptr i0 0) (n := Opl.ldb (v := q0) h1 rfl T40 rfl rfl rfl rfl (Opl.len (xs := l0_0) (by exact hq0) K40 rfl rfl rfl rfl ?_)))))))))))))
 obtain ⟨c7, H⟩ := peel H
 obtain ⟨c8, H⟩ := peel H
 obtain ⟨c9, H⟩ := peel H
 obtain ⟨c10, H⟩ := peel H
 obtain ⟨c11, H⟩ := peel H
 obtain ⟨c12, H⟩ := peel H
 obtain ⟨c13, H⟩ := peel H
 obtain ⟨c14, H⟩ := peel H
 refine Opl.one (v := .lit (.int .i64 (Int.tmod (wrap64 ((wrap64 (a0_1 + 1)) - 1)) (l0_0.length : Int)))) rfl rfl (by simp only [go_sem]; rw [if_neg (by first | assumption | decide | omega)]; rfl) (Opl.idx (M := (cInt .u8)) (xs := l0_0) (j := (Int.tmod (wrap64 ((wrap64 (a0_1 + 1)) - 1)) (l0_0.length : Int))) (0 : Int) (by exact hq0) rfl (by omega) (by omega) K40 Z5 rfl rfl ?_)
 rintro p2 q2 h4
 obtain rfl : p2 = [.lit (.int .u8 (rd l0_0 (Int.tmod (wrap64 ((wrap64 (a0_1 + 1)) - 1)) (l0_0.length : Int))))] := h4
 refine Opl.lda (.lit (.int .u8 (rd l0_0 (Int.tmod (wrap64 ((wrap64 (a0_1 + 1)) - 1)) (l0_0.length : Int))))) rfl T5 rfl rfl rfl rfl (Opl.p1 (v := .lit (.int .i64 (wrap64 (rd l0_0 (Int.tmod (wrap64 ((wrap64 (a0_1 + 1)) - 1)) (l0_0.length : Int)))))) (n := Opl.mul (k := .i64) (a := wrap64 (rd l0_0 (Int.tmod (wrap64 ((wrap64 (a0_1 + 1)) - 1)) (l0_0.length : Int)))) (b := 131) K3 rfl rfl rfl rfl (Opl.one (v := .ptr i0 0) rfl rfl rfl (Opl.p1 (v := .ptr i0 0) (n := Opl.p1 (v := .ptr i0 0) (n := Opl.ldb (v := q0) h1 rfl T40 rfl rfl rfl rfl (Opl.one (v := .lit (.int .i64 (wrap64 ((wrap64 (a0_1 + 1)) - 1)))) rfl rfl rfl (Opl.mul (k := .i64) (a := (wrap64 ((wrap64 (a0_1 + 1)) - 1))) (b := 7) K3 rfl rfl rfl rfl (Opl.add (k := .i64) (a := (wrap64 ((wrap64 ((wrap64 (a0_1 + 1)) - 1)) * 7))) (b := 3) K3 rfl rfl rfl rfl (Opl.one (v := .ptr i0 0) rfl rfl rfl (Opl.p1 (v := .ptr i0 0) (n := Opl.p1 (v := .ptr i0 0) (n := Opl.ldb (v := q0) h1 rfl T40 rfl rfl rfl rfl (Opl.len (xs := l0_0) (by exact hq0) K40 rfl rfl rfl rfl (Opl.one (v := .lit (.int .i64 (Int.tmod (wrap64 ((wrap64 ((wrap64 ((wrap64 (a0_1 + 1)) - 1)) * 7)) + 3)) (l0_0.length : Int)))) rfl rfl (by simp only [go_sem]; rw [if_neg (by first | assumption | decide | omega)]; rfl) (Opl.idx (M := (cInt .u8)) (xs := l0_0) (j := (Int.tmod (wrap64 ((wrap64 ((wrap64 ((wrap64 (a0_1 + 1)) - 1)) * 7)) + 3)) (l0_0.length : Int))) (0 : Int) (by exact hq0) rfl (by omega) (by omega) K40 Z5 rfl rfl ?_))))))))))))))))
 rintro p3 q3 h5
 obtain rfl : p3 = [.lit (.int .u8 (rd l0_0 (Int.tmod (wrap64 ((wrap64 ((wrap64 ((wrap64 (a0_1 + 1)) - 1)) * 7)) + 3)) (l0_0.length : Int))))] := h5
 refine Opl.lda (.lit (.int .u8 (rd l0_0 (Int.tmod (wrap64 ((wrap64 ((wrap64 ((wrap64 (a0_1 + 1)) - 1)) * 7)) + 3)) (l0_0.length : Int))))) rfl T5 rfl rfl rfl rfl (Opl.p1 (v := .lit (.int .i64 (wrap64 (rd l0_0 (Int.tmod (wrap64 ((wrap64 ((wrap64 ((wrap64 (a0_1 + 1)) - 1)) * 7)) + 3)) (l0_0.length : Int)))))) (n := Opl.mul (k := .i64) (a := wrap64 (rd l0_0 (Int.tmod (wrap64 ((wrap64 ((wrap64 ((wrap64 (a0_1 + 1)) - 1)) * 7)) + 3)) (l0_0.length : Int)))) (b := 1117) K3 rfl rfl rfl rfl (Opl.add (k := .i64) (a := (wrap64 ((wrap64 (rd l0_0 (Int.tmod (wrap64 ((wrap64 (a0_1 + 1)) - 1)) (l0_0.length : Int)))) * 131))) (b := (wrap64 ((wrap64 (rd l0_0 (Int.tmod (wrap64 ((wrap64 ((wrap64 ((wrap64 (a0_1 + 1)) - 1)) * 7)) + 3)) (l0_0.length : Int)))) * 1117))) K3 rfl rfl rfl rfl (Opl.one (v := .lit (.int .i64 (wrap64 ((wrap64 (a0_1 + 1)) - 1)))) rfl rfl rfl (Opl.mul (k := .i64) (a := (wrap64 ((wrap64 (a0_1 + 1)) - 1))) (b := 29) K3 rfl rfl rfl rfl (Opl.add (k := .i64) (a := (wrap64 ((wrap64 ((wrap64 (rd l0_0 (Int.tmod (wrap64 ((wrap64 (a0_1 + 1)) - 1)) (l0_0.length : Int)))) * 131)) + (wrap64 ((wrap64 (rd l0_0 (Int.tmod (wrap64 ((wrap64 ((wrap64 ((wrap64 (a0_1 + 1)) - 1)) * 7)) + 3)) (l0_0.length : Int)))) * 1117))))) (b := (wrap64 ((wrap64 ((wrap64 (a0_1 + 1)) - 1)) * 29))) K3 rfl rfl rfl rfl (Opl.one (v := .lit (.int .i64 (wrap64 ((wrap64 (a0_1 + 1)) - 1)))) rfl rfl rfl (Opl.one (v := .ptr i0 0) rfl rfl rfl (Opl.p1 (v := .ptr i0 0) (n := Opl.p1 (v := .ptr i0 0) (n := Opl.ldb (v := q0) h1 rfl T40 rfl rfl rfl rfl (Opl.len (xs := l0_0) (by exact hq0) K40 rfl rfl rfl rfl (Opl.one (v := .lit (.int .i64 (wrap64 (Int.tdiv (wrap64 ((wrap64 (a0_1 + 1)) - 1)) (l0_0.length : Int))))) rfl rfl (by simp only [go_sem]; rw [if_neg (by first | assumption | decide | omega)]; rfl) (Opl.mul (k := .i64) (a := (wrap64 (Int.tdiv (wrap64 ((wrap64 (a0_1 + 1)) - 1)) (l0_0.length : Int)))) (b := 53) K3 rfl rfl rfl rfl (Opl.add (k := .i64) (a := (wrap64 ((wrap64 ((wrap64 ((wrap64 (rd l0_0 (Int.tmod (wrap64 ((wrap64 (a0_1 + 1)) - 1)) (l0_0.length : Int)))) * 131)) + (wrap64 ((wrap64 (rd l0_0 (Int.tmod (wrap64 ((wrap64 ((wrap64 ((wrap64 (a0_1 + 1)) - 1)) * 7)) + 3)) (l0_0.length : Int)))) * 1117)))) + (wrap64 ((wrap64 ((wrap64 (a0_1 + 1)) - 1)) * 29))))) (b := (wrap64 ((wrap64 (Int.tdiv (wrap64 ((wrap64 (a0_1 + 1)) - 1)) (l0_0.length : Int))) * 53))) K3 rfl rfl rfl rfl (Opl.one (v := .lit (.int .i64 (wrap64 ((wrap64 ((wrap64 ((wrap64 ((wrap64 (rd l0_0 (Int.tmod (wrap64 ((wrap64 (a0_1 + 1)) - 1)) (l0_0.length : Int)))) * 131)) + (wrap64 ((wrap64 (rd l0_0 (Int.tmod (wrap64 ((wrap64 ((wrap64 ((wrap64 (a0_1 + 1)) - 1)) * 7)) + 3)) (l0_0.length : Int)))) * 1117)))) + (wrap64 ((wrap64 ((wrap64 (a0_1 + 1)) - 1)) * 29)))) + (wrap64 ((wrap64 (Int.tdiv (wrap64 ((wrap64 (a0_1 + 1)) - 1)) (l0_0.length : Int))) * 53)))))) rfl rfl rfl (Opl.nil (Evr.sr rfl (Opl.one (v := .lit (.int .i64 (wrap64 ((wrap64 ((wrap64 ((wrap64 ((wrap64 (rd l0_0 (Int.tmod (wrap64 ((wrap64 (a0_1 + 1)) - 1)) (l0_0.length : Int)))) * 131)) + (wrap64 ((wrap64 (rd l0_0 (Int.tmod (wrap64 ((wrap64 ((wrap64 ((wrap64 (a0_1 + 1)) - 1)) * 7)) + 3)) (l0_0.length : Int)))) * 1117)))) + (wrap64 ((wrap64 ((wrap64 (a0_1 + 1)) - 1)) * 29)))) + (wrap64 ((wrap64 (Int.tdiv (wrap64 ((wrap64 (a0_1 + 1)) - 1)) (l0_0.length : Int))) * 53)))))) rfl rfl rfl (Opl.one (v := .lit (.int .i64 (wrap64 ((wrap64 ((wrap64 ((wrap64 ((wrap64 (rd l0_0 (Int.tmod (wrap64 ((wrap64 (a0_1 + 1)) - 1)) (l0_0.length : Int)))) * 131)) + (wrap64 ((wrap64 (rd l0_0 (Int.tmod (wrap64 ((wrap64 ((wrap64 ((wrap64 (a0_1 + 1)) - 1)) * 7)) + 3)) (l0_0.length : Int)))) * 1117)))) + (wrap64 ((wrap64 ((wrap64 (a0_1 + 1)) - 1)) * 29)))) + (wrap64 ((wrap64 (Int.tdiv (wrap64 ((wrap64 (a0_1 + 1)) - 1)) (l0_0.length : Int))) * 53)))))) rfl rfl rfl (Opl.one (v := .lit (.int .i64 (wrap64 (Int.tdiv (wrap64 ((wrap64 ((wrap64 ((wrap64 ((wrap64 (rd l0_0 (Int.tmod (wrap64 ((wrap64 (a0_1 + 1)) - 1)) (l0_0.length : Int)))) * 131)) + (wrap64 ((wrap64 (rd l0_0 (Int.tmod (wrap64 ((wrap64 ((wrap64 ((wrap64 (a0_1 + 1)) - 1)) * 7)) + 3)) (l0_0.length : Int)))) * 1117)))) + (wrap64 ((wrap64 ((wrap64 (a0_1 + 1)) - 1)) * 29)))) + (wrap64 ((wrap64 (Int.tdiv (wrap64 ((wrap64 (a0_1 + 1)) - 1)) (l0_0.length : Int))) * 53)))) 64)))) rfl rfl (by simp only [go_sem]; rw [if_neg (by first | assumption | decide | omega)]; rfl) (Opl.one (v := .lit (.int .i64 (Go.bits .xor .i64 (wrap64 ((wrap64 ((wrap64 ((wrap64 ((wrap64 (rd l0_0 (Int.tmod (wrap64 ((wrap64 (a0_1 + 1)) - 1)) (l0_0.length : Int)))) * 131)) + (wrap64 ((wrap64 (rd l0_0 (Int.tmod (wrap64 ((wrap64 ((wrap64 ((wrap64 (a0_1 + 1)) - 1)) * 7)) + 3)) (l0_0.length : Int)))) * 1117)))) + (wrap64 ((wrap64 ((wrap64 (a0_1 + 1)) - 1)) * 29)))) + (wrap64 ((wrap64 (Int.tdiv (wrap64 ((wrap64 (a0_1 + 1)) - 1)) (l0_0.length : Int))) * 53)))) (wrap64 (Int.tdiv (wrap64 ((wrap64 ((wrap64 ((wrap64 ((wrap64 (rd l0_0 (Int.tmod (wrap64 ((wrap64 (a0_1 + 1)) - 1)) (l0_0.length : Int)))) * 131)) + (wrap64 ((wrap64 (rd l0_0 (Int.tmod (wrap64 ((wrap64 ((wrap64 ((wrap64 (a0_1 + 1)) - 1)) * 7)) + 3)) (l0_0.length : Int)))) * 1117)))) + (wrap64 ((wrap64 ((wrap64 (a0_1 + 1)) - 1)) * 29)))) + (wrap64 ((wrap64 (Int.tdiv (wrap64 ((wrap64 (a0_1 + 1)) - 1)) (l0_0.length : Int))) * 53)))) 64))))) rfl rfl (by simp only [go_sem]; simp only [Go.bits, w64]; rfl) (Opl.one (v := .lit (.int .i64 (Go.bits .xor .i64 (wrap64 ((wrap64 ((wrap64 ((wrap64 ((wrap64 (rd l0_0 (Int.tmod (wrap64 ((wrap64 (a0_1 + 1)) - 1)) (l0_0.length : Int)))) * 131)) + (wrap64 ((wrap64 (rd l0_0 (Int.tmod (wrap64 ((wrap64 ((wrap64 ((wrap64 (a0_1 + 1)) - 1)) * 7)) + 3)) (l0_0.length : Int)))) * 1117)))) + (wrap64 ((wrap64 ((wrap64 (a0_1 + 1)) - 1)) * 29)))) + (wrap64 ((wrap64 (Int.tdiv (wrap64 ((wrap64 (a0_1 + 1)) - 1)) (l0_0.length : Int))) * 53)))) (wrap64 (Int.tdiv (wrap64 ((wrap64 ((wrap64 ((wrap64 ((wrap64 (rd l0_0 (Int.tmod (wrap64 ((wrap64 (a0_1 + 1)) - 1)) (l0_0.length : Int)))) * 131)) + (wrap64 ((wrap64 (rd l0_0 (Int.tmod (wrap64 ((wrap64 ((wrap64 ((wrap64 (a0_1 + 1)) - 1)) * 7)) + 3)) (l0_0.length : Int)))) * 1117)))) + (wrap64 ((wrap64 ((wrap64 (a0_1 + 1)) - 1)) * 29)))) + (wrap64 ((wrap64 (Int.tdiv (wrap64 ((wrap64 (a0_1 + 1)) - 1)) (l0_0.length : Int))) * 53)))) 64))))) rfl rfl rfl (Opl.nil (Evr.sr rfl (Opl.one (v := .lit (.int .i64 (Go.bits .xor .i64 (wrap64 ((wrap64 ((wrap64 ((wrap64 ((wrap64 (rd l0_0 (Int.tmod (wrap64 ((wrap64 (a0_1 + 1)) - 1)) (l0_0.length : Int)))) * 131)) + (wrap64 ((wrap64 (rd l0_0 (Int.tmod (wrap64 ((wrap64 ((wrap64 ((wrap64 (a0_1 + 1)) - 1)) * 7)) + 3)) (l0_0.length : Int)))) * 1117)))) + (wrap64 ((wrap64 ((wrap64 (a0_1 + 1)) - 1)) * 29)))) + (wrap64 ((wrap64 (Int.tdiv (wrap64 ((wrap64 (a0_1 + 1)) - 1)) (l0_0.length : Int))) * 53)))) (wrap64 (Int.tdiv (wrap64 ((wrap64 ((wrap64 ((wrap64 ((wrap64 (rd l0_0 (Int.tmod (wrap64 ((wrap64 (a0_1 + 1)) - 1)) (l0_0.length : Int)))) * 131)) + (wrap64 ((wrap64 (rd l0_0 (Int.tmod (wrap64 ((wrap64 ((wrap64 ((wrap64 (a0_1 + 1)) - 1)) * 7)) + 3)) (l0_0.length : Int)))) * 1117)))) + (wrap64 ((wrap64 ((wrap64 (a0_1 + 1)) - 1)) * 29)))) + (wrap64 ((wrap64 (Int.tdiv (wrap64 ((wrap64 (a0_1 + 1)) - 1)) (l0_0.length : Int))) * 53)))) 64))))) rfl rfl rfl (Opl.one (v := .lit (.int .i64 a1)) rfl rfl rfl (Opl.one (v := .lit (.int .i64 (Int.tmod (Go.bits .xor .i64 (wrap64 ((wrap64 ((wrap64 ((wrap64 ((wrap64 (rd l0_0 (Int.tmod (wrap64 ((wrap64 (a0_1 + 1)) - 1)) (l0_0.length : Int)))) * 131)) + (wrap64 ((wrap64 (rd l0_0 (Int.tmod (wrap64 ((wrap64 ((wrap64 ((wrap64 (a0_1 + 1)) - 1)) * 7)) + 3)) (l0_0.length : Int)))) * 1117)))) + (wrap64 ((wrap64 ((wrap64 (a0_1 + 1)) - 1)) * 29)))) + (wrap64 ((wrap64 (Int.tdiv (wrap64 ((wrap64 (a0_1 + 1)) - 1)) (l0_0.length : Int))) * 53)))) (wrap64 (Int.tdiv (wrap64 ((wrap64 ((wrap64 ((wrap64 ((wrap64 (rd l0_0 (Int.tmod (wrap64 ((wrap64 (a0_1 + 1)) - 1)) (l0_0.length : Int)))) * 131)) + (wrap64 ((wrap64 (rd l0_0 (Int.tmod (wrap64 ((wrap64 ((wrap64 ((wrap64 (a0_1 + 1)) - 1)) * 7)) + 3)) (l0_0.length : Int)))) * 1117)))) + (wrap64 ((wrap64 ((wrap64 (a0_1 + 1)) - 1)) * 29)))) + (wrap64 ((wrap64 (Int.tdiv (wrap64 ((wrap64 (a0_1 + 1)) - 1)) (l0_0.length : Int))) * 53)))) 64))) a1))) rfl rfl (by simp only [go_sem]; rw [if_neg (by first | assumption | decide | omega)]; rfl) (Opl.one (v := .lit (.int .i64 (Int.tmod (Go.bits .xor .i64 (wrap64 ((wrap64 ((wrap64 ((wrap64 ((wrap64 (rd l0_0 (Int.tmod (wrap64 ((wrap64 (a0_1 + 1)) - 1)) (l0_0.length : Int)))) * 131)) + (wrap64 ((wrap64 (rd l0_0 (Int.tmod (wrap64 ((wrap64 ((wrap64 ((wrap64 (a0_1 + 1)) - 1)) * 7)) + 3)) (l0_0.length : Int)))) * 1117)))) + (wrap64 ((wrap64 ((wrap64 (a0_1 + 1)) - 1)) * 29)))) + (wrap64 ((wrap64 (Int.tdiv (wrap64 ((wrap64 (a0_1 + 1)) - 1)) (l0_0.length : Int))) * 53)))) (wrap64 (Int.tdiv (wrap64 ((wrap64 ((wrap64 ((wrap64 ((wrap64 (rd l0_0 (Int.tmod (wrap64 ((wrap64 (a0_1 + 1)) - 1)) (l0_0.length : Int)))) * 131)) + (wrap64 ((wrap64 (rd l0_0 (Int.tmod (wrap64 ((wrap64 ((wrap64 ((wrap64 (a0_1 + 1)) - 1)) * 7)) + 3)) (l0_0.length : Int)))) * 1117)))) + (wrap64 ((wrap64 ((wrap64 (a0_1 + 1)) - 1)) * 29)))) + (wrap64 ((wrap64 (Int.tdiv (wrap64 ((wrap64 (a0_1 + 1)) - 1)) (l0_0.length : Int))) * 53)))) 64))) a1))) rfl rfl rfl (Opl.nil ?_))))))))))))))))))))))))))))))
 obtain rfl := Option.some.inj H
 refine Evr.ret1 Try.func64 rfl ?_
 exact ⟨(by first | rfl | (simp only [go_sem]; rfl)), h1, h2⟩
theorem spec_l40Rd_num.evb {k : Nat} {S0 : Sto} {l0_0 : List Int} {a0_1 : Int} {i0 : Abs.Id} {q0 : PV} (hq0 : Sl (cInt .u8) l0_0 q0) (hb0 : Box (.ptr i0 0) [q0, .lit (.int .i64 a0_1)] S0) {l1 : List Int} {v1 : PV} (hv1 : Sl (cInt .i64) l1 v1) {r : Int × Int} (H : spec_l40Rd_num.f k l0_0 a0_1 l1 = some r) : RetS Try.prog 63 [.ptr i0 0, v1] S0 fun v S => v = .lit (.int .i64 r.2) ∧ Box (.ptr i0 0) [q0, .lit (.int .i64 r.1)] S ∧ Same S0 S [i0] := by
 have hs0 : Same S0 S0 [i0] := .refl _ _
 unfold spec_l40Rd_num.f at H
 refine RetS.intro Try.func63 rfl (Nat.le_of_ble_eq_true rfl) rfl ?_
 rw [tm2]
 refine Evr.sr rfl (Opl.p1 (n := Opl.nil (Evr.sr rfl (Opl.p1 (n := Opl.p1 (n := Opl.p1 (n := Opl.len (xs := l1) (by exact hv1) K41 rfl rfl rfl rfl ?_)))))))
 obtain ⟨r1, h_r1, H⟩ := Option.bind_eq_some_iff.1 H
 refine Opl.calls (spec_l40Rd_pick.evb hq0 hb0 h_r1) rfl rfl rfl rfl rfl ?_
 rintro _ S ⟨rfl, h1, u1⟩
 have h2 := u1.sameP hs0 OutT.box
 obtain ⟨c1, H⟩ := peel H
 obtain ⟨c2, H⟩ := peel H
 refine Opl.idx (M := (cInt .i64)) (xs := l1) (j := r1.2) (0 : Int) (by exact hv1) rfl (by omega) (by omega) K41 Z3 rfl rfl ?_
 rintro p1 q1 h3
 obtain rfl : p1 = [.lit (.int .i64 (rd l1 r1.2))] := h3
 refine Opl.lda (.lit (.int .i64 (rd l1 r1.2))) rfl T3 rfl rfl rfl rfl (Opl.p1 (n := Opl.nil ?_))
 obtain rfl := Option.some.inj H
 refine Evr.ret1 Try.func63 rfl ?_
 exact ⟨(by first | rfl | (simp only [go_sem]; rfl)), h1, h2⟩
theorem spec_DrawClauseOf.ev {k : Nat} {l0 : List Int} {v0 : PV} (hv0 : Sl (cInt .u8) l0 v0) {r : (List Int) × Int} (H : spec_DrawClauseOf.f k l0 = some r) : Ret Try.prog 16 [v0] fun v S => Out (fun q => ∃ q1 q2, q = .tup [q1, q2] ∧ Sl (cInt .i64) r.1 q1 ∧ q2 = .lit (.int .i64 r.2)) v S := by
 unfold spec_DrawClauseOf.f at H
 refine Ret.intro Try.func16 rfl (Nat.le_of_ble_eq_true rfl) rfl ?_
 rw [tm1]
 refine Evr.sr rfl (Opl.p1 (n := Opl.p1 (n := Opl.nil (Evr.sr rfl (Opl.p1 (n := ?_))))))
 obtain ⟨r1, h_r1, H⟩ := Option.bind_eq_some_iff.1 H
 refine Opl.calls (spec_l40Open.evb hv0 h_r1) rfl rfl rfl rfl rfl ?_
 rintro _ S ⟨i1, pv1, rfl, h1, h2, w1, u1⟩
 refine Opl.p1 (n := Opl.nil (Evr.sr rfl (Opl.p1 (n := Opl.liti (M := (cInt .i64)) (ys := [3, 4, 6, 1, 0, 701, (-1)]) [.const (.int .i64 3), .const (.int .i64 4), .const (.int .i64 6), .const (.int .i64 1), .const (.int .i64 0), .const (.int .i64 701), .const (.int .i64 (-1))] K41 T3 rfl rfl rfl (by exact ⟨rfl, rfl, rfl, rfl, rfl, rfl, rfl, trivial⟩) rfl (by decide) rfl rfl ?_))))
 rintro pv3 h4
 obtain ⟨r2, h_r2, H⟩ := Option.bind_eq_some_iff.1 H
 refine Opl.calls (spec_l40Rd_num.evb h1 h2 h4 h_r2) rfl rfl rfl rfl rfl ?_
 rintro _ S ⟨rfl, h5, u2⟩
 refine Opl.p1 (n := Opl.nil (Evr.sr rfl (Opl.lits (M := (cInt .i64)) (ys := []) [] K41 T3 rfl rfl rfl trivial rfl (by decide) rfl rfl rfl ?_)))
 rintro pv4 S h6 u3 w2
 have ap1 := w2.box h5
 have h7 := u3.box h5 ap1
 refine Opl.p1 (n := Opl.nil (Evr.seq (Evr.sr rfl (Opl.p1 (n := ?_)))))
 obtain ⟨r3, h_r3, H⟩ := Option.bind_eq_some_iff.1 H
 refine Opl.calls (spec_l40Rd_pick.evb h1 h7 h_r3) rfl rfl rfl rfl rfl ?_
 rintro _ S ⟨rfl, h8, u4⟩
 have h9 := u4.vec h6 (ap1.symm).pt
 refine Opl.p1 (n := Opl.nil (Evr.block ?_))
 refine Evr.loop (Evr.rounds (n := k) (Inv := fun n tm S => n ≤ k ∧ ∃ (x4b1_1 : Int) (x6_1 : List Int) (x7_1 : Int) (i2 : Abs.Id) (pv5 : PV), spec_DrawClauseOf.l1 n x4b1_1 x6_1 x7_1 r1 r2 = some r ∧ Has tm [(4, .ptr i2 0), (5, .lit (.int .i64 r2.2)), (6, pv5), (7, .lit (.int .i64 x7_1))] ∧ Box (.ptr i2 0) [pv1, .lit (.int .i64 x4b1_1)] S ∧ Vec (cInt .i64) x6_1 pv5 S ∧ Ap (.ptr i2 0) pv5) ?_ ?_ ?_)
 · exact ⟨Nat.le_refl _, _, _, _, _, _, H, ⟨rfl, rfl, rfl, rfl, trivial⟩, h8, h9, ap1⟩
 ·
  rintro tm S ⟨_, _, _, _, _, _, H, -⟩
  simp [spec_DrawClauseOf.l1] at H
 ·
  rintro n1 ih1 tm S ⟨hle, x4b1_1, x6_1, x7_1, i2, pv5, H, hh, h10, h11, ap2⟩
  simp only [spec_DrawClauseOf.l1] at H
  rw [hh.eq]
  refine Evr.seq (Evr.sr rfl (Opl.p1 (n := Opl.p1 (n := Opl.nil ?_))))
  by_cases c1 : x7_1 > 0
  case neg =>
   rw [if_neg c1] at H
   have e2 : (decide (x7_1 > 0)) = false := by simpa using c1
   try rw [e2]
   refine Evr.condF rfl (Evr.exit rfl (Evr.sr rfl (Opl.p1 (n := Opl.p1 (n := Opl.p1 (n := Opl.p1 (n := Opl.nil ?_)))))))
   obtain rfl := Option.some.inj H
   refine Evr.ret2 Try.func16 rfl ?_
   show Out _ (.tup [pv5, .lit (.int .i64 r2.2)]) _
   exact .tup2 (.vec h11) .lit
  rw [if_pos c1] at H
  have e1 : (decide (x7_1 > 0)) = true := by simpa using c1
  try rw [e1]
  refine Evr.condT rfl (Evr.skip (Evr.seq (Evr.block (Evr.regionN rfl (Opl.p1 (n := Opl.p1 (n := Opl.p1 (n := ?_))))))))
  obtain ⟨r4, h_r4, H⟩ := Option.bind_eq_some_iff.1 H
  refine Opl.calls (spec_l40Rd_pick.evb h1 h10 h_r4) rfl rfl rfl rfl rfl ?_
  rintro _ S ⟨rfl, h12, u5⟩
  have h13 := u5.vec h11 (ap2.symm).pt
  refine Opl.subi (k := .i64) (a := r4.2) (b := 4) K3 rfl rfl rfl rfl (Opl.liti (M := (cInt .i64)) (ys := [1, 2, 3, (-1), (-2), 4, (wrap64 (r4.2 - 4))]) [.const (.int .i64 1), .const (.int .i64 2), .const (.int .i64 3), .const (.int .i64 (-1)), .const (.int .i64 (-2)), .const (.int .i64 4), .tmp 24] K41 T3 rfl rfl rfl (by exact ⟨rfl, rfl, rfl, rfl, rfl, rfl, rfl, trivial⟩) rfl (by decide) rfl rfl ?_)
  rintro pv7 h14
  obtain ⟨r5, h_r5, H⟩ := Option.bind_eq_some_iff.1 H
  refine Opl.calls (spec_l40Rd_num.evb h1 h12 h14 h_r5) rfl rfl rfl rfl rfl ?_
  rintro _ S ⟨rfl, h15, u6⟩
  have h16 := u6.vec h13 (ap2.symm).pt
  refine Opl.liti (M := (cInt .i64)) (ys := [r5.2]) [.tmp 26] K41 T3 rfl rfl rfl (by exact ⟨rfl, trivial⟩) rfl (by decide) rfl rfl ?_
  rintro pv9 h17
  obtain ⟨c2, H⟩ := peel H
  refine Opl.app (M := (cInt .i64)) (xs := x6_1) (ys := [r5.2]) (v := pv5) h16 (.sl h17) (oInt .i64) rfl rfl K41 T3 rfl rfl (by (try simp only [List.length_cons, List.length_nil]); omega) (by show (_ + _) * 8 ≤ 140737488355328; (try simp only [List.length_cons, List.length_nil]); omega) rfl rfl rfl rfl rfl ?_
  rintro pv10 S h18 u7 w3
  have ap3 := w3.box h15
  have h19 := u7.box h15 ap2
  refine Opl.one (v := pv10) rfl rfl rfl (Opl.nil (Evr.inBlock (Evr.regionN rfl (Opl.one (v := .lit (.int .i64 x7_1)) rfl rfl rfl (Opl.subi (k := .i64) (a := x7_1) (b := 1) K3 rfl rfl rfl rfl (Opl.one (v := .lit (.int .i64 (wrap64 (x7_1 - 1)))) rfl rfl rfl (Opl.nil ?_)))))))
  exact ih1 _ (by omega) _ _ ⟨by omega, _, _, _, _, _, H, ⟨rfl, rfl, rfl, rfl, trivial⟩, h19, h18, ap3⟩
end Go.Proofs.Ytaajnneigmgikaa.PA
