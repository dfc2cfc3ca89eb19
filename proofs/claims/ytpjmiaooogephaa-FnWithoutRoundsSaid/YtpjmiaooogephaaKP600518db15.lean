/- Walks of Go functions: each is shown to answer as the Lean function beside it tells, under the conditions that its theorem names. -/
import Derived.Test.YtpjmiaooogephaaProg
import Derived.KernelRfl
import Derived.Below
import Derived.Deep.Draws
import Derived.Deep.AppendLies
import Derived.Maps.AppendAt
import Derived.OwnWalk
import Derived.Laws.BytesArg
import Derived.Laws.MakeOwn
import Derived.Laws.OwnMore
import Derived.Deep.OwnRows
import Derived.Tactics
import Derived.Lib.ConvBytes
import Derived.Laws.Slices
import Derived.WalkKit
import Derived.RowKit3
import Derived.Deep.LoopGhost
import Derived.Deep.QuietTactic
import Derived.BigQuiet
import Derived.WideLaws
import Derived.Deep.DeepCutAuto
import Derived.Deep.CutBlock
import Derived.Deep.RegionHeld3
import Derived.Laws.Rows
import Derived.Lib.AppendStr
import Derived.ArgAppend
import Derived.Laws.IdiomCopy
import Derived.OrdersHeld
import Derived.Laws.BitsLemmas
import Derived.RowKit
import Derived.Laws.StructEq
import Derived.Lib.SliceRun
import Derived.WalkSpells
import Derived.ChangeArms
import Derived.ChangeSlices
import Derived.Deep.Slices
import Derived.Attr
import Derived.Laws.Append
import Derived.Laws.AppendOwn
import Derived.Laws.Entries
import Derived.Calls
import Derived.Laws.Sem
import Derived.Test.YtpjmiaooogephaaKP6cca54b85d
namespace Go.Proofs.Ytpjmiaooogephaa.PA
open Go Go.Abs Go.RowKit Go.Proofs Go.Proofs.YtpjmiaooogephaaW.PrintWords Go.Proofs.YtpjmiaooogephaaW.PrintLast Go.Proofs.YtpjmiaooogephaaW.PrintMore
set_option maxRecDepth 100000
set_option maxHeartbeats 4000000
set_option linter.unusedVariables false
set_option linter.unusedSimpArgs false
theorem spec_l1In.ev {a0 : Int} {a1 : Int} {a2 : Int} {r : Bool} (H : spec_l1In.f a0 a1 a2 = some r) : Ret Try.prog 63 [.lit (.int .i64 a0), .lit (.int .i64 a1), .lit (.int .i64 a2)] fun v S => v = .lit (.bool r) := by
 unfold spec_l1In.f at H
 refine Ret.intro Try.func63 rfl (Nat.le_of_ble_eq_true rfl) rfl ?_
 rw [tm3]
 refine Evr.sr rfl (Opl.p1 (n := Opl.nil (Evr.sr rfl (Opl.p1 (n := Opl.p1 (n := Opl.p1 (n := Opl.p1 (n := ?_))))))))
 by_cases c1 : a0 ≥ a1
 case neg =>
  rw [if_neg c1] at H
  have e2 : (decide (a0 ≥ a1)) = false := by simpa using c1
  try rw [e2]
  refine Opl.sk2 rfl rfl (Opl.skp rfl (Opl.p1 (n := Opl.p1 (n := Opl.nil ?_))))
  obtain rfl := sinj H
  refine Evr.ret1 Try.func63 rfl ?_
  show (.lit (.bool false) : PV) = _
  first | rfl | (simp only [go_sem]; rfl)
 rw [if_pos c1] at H
 have e1 : (decide (a0 ≥ a1)) = true := by simpa using c1
 try rw [e1]
 refine Opl.p1 (n := Opl.p1 (n := Opl.p1 (n := Opl.p1 (n := Opl.p1 (n := Opl.nil ?_)))))
 obtain rfl := sinj H
 refine Evr.ret1 Try.func63 rfl ?_
 show (.lit (.bool (decide (a0 ≤ a2))) : PV) = _
 first | rfl | (simp only [go_sem]; rfl)
theorem spec_l1One.ev {a0 : Int} {r : Bool} (H : spec_l1One.f a0 = some r) : Ret Try.prog 196 [.lit (.int .i64 a0)] fun v S => v = .lit (.bool r) := by
 unfold spec_l1One.f at H
 refine Ret.intro Try.func196 rfl (Nat.le_of_ble_eq_true rfl) rfl ?_
 rw [tm1]
 refine Evr.sr rfl (Opl.p1 (n := Opl.nil (Evr.sr rfl (Opl.p1 (n := Opl.p1 (n := Opl.p1 (n := Opl.nil ?_)))))))
 obtain rfl := sinj H
 refine Evr.ret1 Try.func196 rfl ?_
 show (.lit (.bool (a0 == 7)) : PV) = _
 first | rfl | (simp only [go_sem]; rfl)
theorem spec_l1Kind.ev {k : Nat} {a0_0 : Int} {a0_1 : Int} {a0_2 : Int} {a0_3 : Int} {l1 : List Int} {v1 : PV} (hv1 : Sl (cInt .i64) l1 v1) {a2 : Int} {r : Int} (H : spec_l1Kind.f k a0_0 a0_1 a0_2 a0_3 l1 a2 = some r) : Ret Try.prog 197 [.agg [.lit (.int .i64 a0_0), .lit (.int .i64 a0_1), .lit (.int .i64 a0_2), .lit (.int .i64 a0_3)], v1, .lit (.int .i64 a2)] fun v S => v = .lit (.int .i64 r) := by
 unfold spec_l1Kind.f at H
 refine Ret.intro Try.func197 rfl (Nat.le_of_ble_eq_true rfl) rfl ?_
 rw [tm3]
 refine Evr.sr rfl (Opl.box (cs := [.lit (.int .i64 a0_0), .lit (.int .i64 a0_1), .lit (.int .i64 a0_2), .lit (.int .i64 a0_3)]) rfl rfl rfl rfl ?_)
 rintro i1 S h1 u1 w1
 refine Opl.p1 (n := Opl.nil (Evr.seq (Evr.seq ?_)))
 refine Evr.join (fun tm S => ∃ (kq1 : Nat) (x25_1 : Bool) (i2 : Abs.Id), spec_l1Kind.j0 kq1 l1 a2 x25_1 a0_0 a0_1 a0_2 a0_3 = some r ∧ Has tm [(1, v1), (2, .lit (.int .i64 a2)), (3, .ptr i2 0), (25, .lit (.bool x25_1))] ∧ Box (.ptr i2 0) [.lit (.int .i64 a0_0), .lit (.int .i64 a0_1), .lit (.int .i64 a0_2), .lit (.int .i64 a0_3)] S) ?_ fun hk1 => ?_
 ·
  rintro tm S ⟨kq1, x25_1, i2, H, hh, h2⟩
  rw [hh.eq]
  obtain _ | k1 := kq1
  · simp [spec_l1Kind.j0] at H
  simp only [spec_l1Kind.j0] at H
  by_cases c1 : x25_1 = true
  case pos =>
   rw [if_pos c1] at H
   obtain rfl : x25_1 = true := by simpa using c1
   refine Evr.condT rfl (Evr.sr rfl (Opl.p1 (n := Opl.nil ?_)))
   obtain rfl := sinj H
   refine Evr.ret1 Try.func197 rfl ?_
   show (.lit (.int .i64 1) : PV) = _
   first | rfl | (simp only [go_sem]; rfl)
  rw [if_neg c1] at H
  obtain rfl : x25_1 = false := by simpa using c1
  refine Evr.condF rfl (Evr.skip (Evr.seq (Evr.seq ?_)))
  refine Evr.join (fun tm S => ∃ (kq2 : Nat) (x45_1 : Bool) (i3 : Abs.Id), spec_l1Kind.j1 kq2 l1 x45_1 a0_0 a0_1 a0_2 a0_3 = some r ∧ Has tm [(1, v1), (3, .ptr i3 0), (45, .lit (.bool x45_1))] ∧ Box (.ptr i3 0) [.lit (.int .i64 a0_0), .lit (.int .i64 a0_1), .lit (.int .i64 a0_2), .lit (.int .i64 a0_3)] S) ?_ fun hk2 => ?_
  ·
   rintro tm S ⟨kq2, x45_1, i3, H, hh, h3⟩
   rw [hh.eq]
   obtain _ | k2 := kq2
   · simp [spec_l1Kind.j1] at H
   simp only [spec_l1Kind.j1] at H
   by_cases c2 : x45_1 = true
   case pos =>
    rw [if_pos c2] at H
    obtain rfl : x45_1 = true := by simpa using c2
    refine Evr.condT rfl (Evr.sr rfl (Opl.p1 (n := Opl.nil ?_)))
    obtain rfl := sinj H
    refine Evr.ret1 Try.func197 rfl ?_
    show (.lit (.int .i64 1) : PV) = _
    first | rfl | (simp only [go_sem]; rfl)
   rw [if_neg c2] at H
   obtain rfl : x45_1 = false := by simpa using c2
   refine Evr.condF rfl (Evr.skip (Evr.seq (Evr.seq ?_)))
   refine Evr.join (fun tm S => ∃ (kq3 : Nat) (x72_1 : Bool) (i4 : Abs.Id), spec_l1Kind.j2 kq3 l1 x72_1 a0_0 a0_1 a0_2 a0_3 = some r ∧ Has tm [(1, v1), (3, .ptr i4 0), (72, .lit (.bool x72_1))] ∧ Box (.ptr i4 0) [.lit (.int .i64 a0_0), .lit (.int .i64 a0_1), .lit (.int .i64 a0_2), .lit (.int .i64 a0_3)] S) ?_ fun hk3 => ?_
   ·
    rintro tm S ⟨kq3, x72_1, i4, H, hh, h4⟩
    rw [hh.eq]
    obtain _ | k3 := kq3
    · simp [spec_l1Kind.j2] at H
    simp only [spec_l1Kind.j2] at H
    by_cases c3 : x72_1 = true
    case pos =>
     rw [if_pos c3] at H
     obtain rfl : x72_1 = true := by simpa using c3
     refine Evr.condT rfl (Evr.sr rfl (Opl.p1 (n := Opl.nil ?_)))
     obtain rfl := sinj H
     refine Evr.ret1 Try.func197 rfl ?_
     show (.lit (.int .i64 0) : PV) = _
     first | rfl | (simp only [go_sem]; rfl)
    rw [if_neg c3] at H
    obtain rfl : x72_1 = false := by simpa using c3
    refine Evr.condF rfl (Evr.skip (Evr.sr rfl (Opl.p1 (n := Opl.nil (Evr.seq (Evr.sr rfl (Opl.p1 (v := .ptr i4 0) (n := Opl.ldb (v := .lit (.int .i64 a0_0)) h4 rfl T3 rfl rfl rfl rfl (Opl.p1 (n := Opl.nil ?_))))))))))
    refine Evr.join (fun tm S => ∃ (kq4 : Nat) (x7_1 : Int) (i5 : Abs.Id), spec_l1Kind.j3 kq4 l1 x7_1 a0_0 a0_1 a0_2 a0_3 = some r ∧ Has tm [(1, v1), (3, .ptr i5 0), (7, .lit (.int .i64 x7_1))] ∧ Box (.ptr i5 0) [.lit (.int .i64 a0_0), .lit (.int .i64 a0_1), .lit (.int .i64 a0_2), .lit (.int .i64 a0_3)] S) ?_ fun hk4 => ?_
    ·
     rintro tm S ⟨kq4, x7_1, i5, H, hh, h5⟩
     rw [hh.eq]
     refine Evr.seq (Evr.seq ?_)
     refine Evr.join (fun tm S => ∃ (kq5 : Nat) (x103_1 : Bool) (i6 : Abs.Id), spec_l1Kind.j4 kq5 x103_1 a0_0 a0_1 a0_2 a0_3 = some r ∧ Has tm [(3, .ptr i6 0), (103, .lit (.bool x103_1))] ∧ Box (.ptr i6 0) [.lit (.int .i64 a0_0), .lit (.int .i64 a0_1), .lit (.int .i64 a0_2), .lit (.int .i64 a0_3)] S) ?_ fun hk5 => ?_
     ·
      rintro tm S ⟨kq5, x103_1, i6, H, hh, h6⟩
      rw [hh.eq]
      obtain _ | k4 := kq5
      · simp [spec_l1Kind.j4] at H
      simp only [spec_l1Kind.j4] at H
      by_cases c4 : x103_1 = true
      case pos =>
       rw [if_pos c4] at H
       obtain rfl : x103_1 = true := by simpa using c4
       refine Evr.condT rfl (Evr.sr rfl (Opl.p1 (n := Opl.nil ?_)))
       obtain rfl := sinj H
       refine Evr.ret1 Try.func197 rfl ?_
       show (.lit (.int .i64 0) : PV) = _
       first | rfl | (simp only [go_sem]; rfl)
      rw [if_neg c4] at H
      obtain rfl : x103_1 = false := by simpa using c4
      refine Evr.condF rfl (Evr.skip (Evr.seq (Evr.sr rfl (Opl.p1 (v := .ptr i6 0) (n := Opl.ldb (v := .lit (.int .i64 a0_0)) h6 rfl T3 rfl rfl rfl rfl (Opl.p1 (n := Opl.nil ?_)))))))
      by_cases c5 : a0_0 ≥ 5
      case pos =>
       rw [if_pos c5] at H
       have e1 : (decide (a0_0 ≥ 5)) = true := by simpa using c5
       try rw [e1]
       refine Evr.condT rfl (Evr.sr rfl (Opl.p1 (n := Opl.nil ?_)))
       obtain rfl := sinj H
       refine Evr.ret1 Try.func197 rfl ?_
       show (.lit (.int .i64 2) : PV) = _
       first | rfl | (simp only [go_sem]; rfl)
      rw [if_neg c5] at H
      have e2 : (decide (a0_0 ≥ 5)) = false := by simpa using c5
      try rw [e2]
      refine Evr.condF rfl (Evr.skip (Evr.sr rfl (Opl.p1 (n := Opl.nil ?_))))
      obtain rfl := sinj H
      refine Evr.ret1 Try.func197 rfl ?_
      show (.lit (.int .i64 1) : PV) = _
      first | rfl | (simp only [go_sem]; rfl)
     ·
      refine Evr.regionN rfl (Opl.p1 (n := Opl.p1 (v := .ptr i5 2) (n := Opl.ldb (v := .lit (.int .i64 a0_2)) h5 rfl T3 rfl rfl rfl rfl ?_)))
      obtain _ | k5 := kq4
      · simp [spec_l1Kind.j3] at H
      simp only [spec_l1Kind.j3] at H
      obtain ⟨c6, H⟩ := peel H
      obtain ⟨c7, H⟩ := peel H
      refine Opl.idx (M := (cInt .i64)) (xs := l1) (j := a0_2) (0 : Int) (by exact hv1) rfl (by omega) (by omega) K27 Z3 rfl rfl ?_
      rintro p1 q1 h7
      obtain rfl : p1 = [.lit (.int .i64 (rd l1 a0_2))] := h7
      refine Opl.lda (.lit (.int .i64 (rd l1 a0_2))) rfl T3 rfl rfl rfl rfl (Opl.p1 (n := Opl.p1 (n := Opl.p1 (n := ?_))))
      by_cases c8 : (rd l1 a0_2) = x7_1
      case neg =>
       rw [if_neg c8] at H
       have e6 : ((rd l1 a0_2) != x7_1) = true := by simpa using c8
       try rw [e6]
       refine Opl.sk4 rfl rfl rfl rfl (Opl.sk2 rfl rfl (Opl.skp rfl (Opl.p1 (n := Opl.p1 (n := Opl.sk8 rfl rfl rfl rfl rfl rfl rfl rfl (Opl.sk2 rfl rfl (Opl.p1 (n := Opl.nil ?_))))))))
       exact hk5 _ _ ⟨_, _, _, H, ⟨rfl, (by first | rfl | (show PV.lit (.bool _) = _; congr 2; simp_all)), trivial⟩, h5⟩
      rw [if_pos c8] at H
      have e3 : ((rd l1 a0_2) != x7_1) = false := by simpa using c8
      try rw [e3]
      refine Opl.p1 (n := Opl.p1 (v := .ptr i5 3) (n := Opl.ldb (v := .lit (.int .i64 a0_3)) h5 rfl T3 rfl rfl rfl rfl ?_))
      obtain ⟨c9, H⟩ := peel H
      obtain ⟨c10, H⟩ := peel H
      refine Opl.idx (M := (cInt .i64)) (xs := l1) (j := a0_3) (0 : Int) (by exact hv1) rfl (by omega) (by omega) K27 Z3 rfl rfl ?_
      rintro p2 q2 h8
      obtain rfl : p2 = [.lit (.int .i64 (rd l1 a0_3))] := h8
      refine Opl.lda (.lit (.int .i64 (rd l1 a0_3))) rfl T3 rfl rfl rfl rfl (Opl.p1 (n := Opl.p1 (n := Opl.p1 (n := Opl.p1 (n := ?_)))))
      by_cases c11 : (rd l1 a0_3) = x7_1
      case neg =>
       rw [if_neg c11] at H
       have e5 : ((rd l1 a0_3) != x7_1) = true := by simpa using c11
       try rw [e5]
       refine Opl.sk8 rfl rfl rfl rfl rfl rfl rfl rfl (Opl.sk2 rfl rfl (Opl.p1 (n := Opl.nil ?_)))
       exact hk5 _ _ ⟨_, _, _, H, ⟨rfl, (by first | rfl | (show PV.lit (.bool _) = _; congr 2; simp_all)), trivial⟩, h5⟩
      rw [if_pos c11] at H
      have e4 : ((rd l1 a0_3) != x7_1) = false := by simpa using c11
      try rw [e4]
      refine Opl.p1 (v := .ptr i5 0) (n := Opl.ldb (v := .lit (.int .i64 a0_0)) h5 rfl T3 rfl rfl rfl rfl ?_)
      obtain ⟨t144, h_t144, H⟩ := obs H
      refine Opl.callc (spec_l1One.ev h_t144) rfl rfl rfl rfl ⟨(.lit _), trivial⟩ (by decide) (Opl.p1 (n := ?_))
      by_cases c12 : t144 = true
      case neg =>
       rw [if_neg c12] at H
       obtain rfl : t144 = false := by simpa using c12
       refine Opl.sk4 rfl rfl rfl rfl (Opl.skp rfl (Opl.p1 (n := Opl.p1 (n := Opl.nil ?_))))
       exact hk5 _ _ ⟨_, _, _, H, ⟨rfl, (by first | rfl | (show PV.lit (.bool _) = _; congr 2; simp_all)), trivial⟩, h5⟩
      rw [if_pos c12] at H
      obtain rfl : t144 = true := by simpa using c12
      refine Opl.p1 (v := .ptr i5 3) (n := Opl.ldb (v := .lit (.int .i64 a0_3)) h5 rfl T3 rfl rfl rfl rfl (Opl.p1 (v := .ptr i5 2) (n := Opl.ldb (v := .lit (.int .i64 a0_2)) h5 rfl T3 rfl rfl rfl rfl (Opl.p1 (n := Opl.p1 (n := Opl.p1 (n := Opl.nil ?_)))))))
      exact hk5 _ _ ⟨_, _, _, H, ⟨rfl, (by first | rfl | (show PV.lit (.bool _) = _; congr 2; simp_all)), trivial⟩, h5⟩
    ·
     by_cases c13 : a0_0 ≥ 7
     case neg =>
      rw [if_neg c13] at H
      have e8 : (decide (a0_0 ≥ 7)) = false := by simpa using c13
      try rw [e8]
      refine Evr.condF rfl (Evr.skip ?_)
      exact hk4 _ _ ⟨_, _, _, H, ⟨rfl, rfl, rfl, trivial⟩, h4⟩
     rw [if_pos c13] at H
     have e7 : (decide (a0_0 ≥ 7)) = true := by simpa using c13
     try rw [e7]
     refine Evr.condT rfl (Evr.regionN rfl (Opl.p1 (n := Opl.nil ?_)))
     exact hk4 _ _ ⟨_, _, _, H, ⟨rfl, rfl, rfl, trivial⟩, h4⟩
   ·
    refine Evr.regionN rfl (Opl.p1 (v := .ptr i3 0) (n := Opl.ldb (v := .lit (.int .i64 a0_0)) h3 rfl T3 rfl rfl rfl rfl ?_))
    obtain ⟨t139, h_t139, H⟩ := obs H
    refine Opl.callc (spec_l1In.ev h_t139) rfl rfl rfl rfl ⟨(.lit _), (.lit _), (.lit _), trivial⟩ (by decide) (Opl.p1 (n := Opl.p1 (n := ?_)))
    by_cases c14 : t139 = true
    case neg =>
     rw [if_neg c14] at H
     have e14 : (!t139) = true := by simpa using c14
     try rw [e14]
     refine Opl.sk2 rfl rfl (Opl.skp rfl (Opl.p1 (n := Opl.p1 (n := Opl.sk4 rfl rfl rfl rfl (Opl.sk2 rfl rfl (Opl.skp rfl (Opl.p1 (n := Opl.p1 (n := Opl.sk4 rfl rfl rfl rfl (Opl.sk2 rfl rfl (Opl.skp rfl (Opl.p1 (n := Opl.nil ?_)))))))))))))
     exact hk3 _ _ ⟨_, _, _, H, ⟨rfl, rfl, (by first | rfl | (show PV.lit (.bool _) = _; congr 2; simp_all)), trivial⟩, h3⟩
    rw [if_pos c14] at H
    have e9 : (!t139) = false := by simpa using c14
    try rw [e9]
    refine Opl.p1 (v := .ptr i3 1) (n := Opl.ldb (v := .lit (.int .i64 a0_1)) h3 rfl T3 rfl rfl rfl rfl (Opl.p1 (n := Opl.p1 (n := Opl.p1 (n := ?_)))))
    by_cases c15 : a0_1 = 0
    case neg =>
     rw [if_neg c15] at H
     have e13 : (a0_1 != 0) = true := by simpa using c15
     try rw [e13]
     refine Opl.sk4 rfl rfl rfl rfl (Opl.sk2 rfl rfl (Opl.skp rfl (Opl.p1 (n := Opl.p1 (n := Opl.sk4 rfl rfl rfl rfl (Opl.sk2 rfl rfl (Opl.skp rfl (Opl.p1 (n := Opl.nil ?_)))))))))
     exact hk3 _ _ ⟨_, _, _, H, ⟨rfl, rfl, (by first | rfl | (show PV.lit (.bool _) = _; congr 2; simp_all)), trivial⟩, h3⟩
    rw [if_pos c15] at H
    have e10 : (a0_1 != 0) = false := by simpa using c15
    try rw [e10]
    refine Opl.p1 (v := .ptr i3 2) (n := Opl.ldb (v := .lit (.int .i64 a0_2)) h3 rfl T3 rfl rfl rfl rfl (Opl.p1 (n := Opl.len (xs := l1) (by exact hv1) K27 rfl rfl rfl rfl (Opl.subi (k := .i64) (a := (l1.length : Int)) (b := 1) K3 rfl rfl rfl rfl ?_))))
    obtain ⟨t140, h_t140, H⟩ := obs H
    refine Opl.callc (spec_l1In.ev h_t140) rfl rfl rfl rfl ⟨(.lit _), (.lit _), (.lit _), trivial⟩ (by decide) (Opl.p1 (n := Opl.p1 (n := Opl.one (v := .lit (.bool (!t140))) rfl rfl rfl ?_)))
    by_cases c16 : t140 = true
    case neg =>
     rw [if_neg c16] at H
     have e12 : (!t140) = true := by simpa using c16
     try rw [e12]
     refine Opl.sk4 rfl rfl rfl rfl (Opl.sk2 rfl rfl (Opl.skp rfl (Opl.p1 (n := Opl.nil ?_))))
     exact hk3 _ _ ⟨_, _, _, H, ⟨rfl, rfl, (by first | rfl | (show PV.lit (.bool _) = _; congr 2; simp_all)), trivial⟩, h3⟩
    rw [if_pos c16] at H
    have e11 : (!t140) = false := by simpa using c16
    try rw [e11]
    refine Opl.p1 (v := .ptr i3 3) (n := Opl.ldb (v := .lit (.int .i64 a0_3)) h3 rfl T3 rfl rfl rfl rfl (Opl.one (v := v1) rfl rfl rfl (Opl.len (xs := l1) (by exact hv1) K27 rfl rfl rfl rfl (Opl.subi (k := .i64) (a := (l1.length : Int)) (b := 1) K3 rfl rfl rfl rfl ?_))))
    obtain ⟨t141, h_t141, H⟩ := obs H
    refine Opl.callc (spec_l1In.ev h_t141) rfl rfl rfl rfl ⟨(.lit _), (.lit _), (.lit _), trivial⟩ (by decide) (Opl.p1 (n := Opl.p1 (n := Opl.nil ?_)))
    exact hk3 _ _ ⟨_, _, _, H, ⟨rfl, rfl, (by first | rfl | (show PV.lit (.bool _) = _; congr 2; simp_all)), trivial⟩, h3⟩
  ·
   refine Evr.regionN rfl (Opl.p1 (v := .ptr i2 0) (n := Opl.ldb (v := .lit (.int .i64 a0_0)) h2 rfl T3 rfl rfl rfl rfl (Opl.p1 (n := Opl.p1 (n := ?_)))))
   by_cases c17 : a0_0 = 1
   case neg =>
    rw [if_neg c17] at H
    have e18 : (a0_0 == 1) = false := by simpa using c17
    try rw [e18]
    refine Opl.sk4 rfl rfl rfl rfl (Opl.skp rfl (Opl.p1 (n := Opl.p1 (n := Opl.sk2 rfl rfl (Opl.skp rfl (Opl.p1 (n := Opl.p1 (n := Opl.sk2 rfl rfl (Opl.skp rfl (Opl.p1 (n := Opl.nil ?_)))))))))))
    exact hk2 _ _ ⟨_, _, _, H, ⟨rfl, rfl, (by first | rfl | (show PV.lit (.bool _) = _; congr 2; simp_all)), trivial⟩, h2⟩
   rw [if_pos c17] at H
   have e15 : (a0_0 == 1) = true := by simpa using c17
   try rw [e15]
   refine Opl.p1 (v := .ptr i2 1) (n := Opl.ldb (v := .lit (.int .i64 a0_1)) h2 rfl T3 rfl rfl rfl rfl (Opl.p1 (n := Opl.subi (k := .i64) (a := a2) (b := 1) K3 rfl rfl rfl rfl ?_)))
   obtain ⟨t138, h_t138, H⟩ := obs H
   refine Opl.callc (spec_l1In.ev h_t138) rfl rfl rfl rfl ⟨(.lit _), (.lit _), (.lit _), trivial⟩ (by decide) (Opl.p1 (n := Opl.one (v := .lit (.bool t138)) rfl rfl rfl ?_))
   by_cases c18 : t138 = true
   case neg =>
    rw [if_neg c18] at H
    obtain rfl : t138 = false := by simpa using c18
    refine Opl.sk2 rfl rfl (Opl.skp rfl (Opl.p1 (n := Opl.one (v := .lit (.bool false)) rfl rfl rfl (Opl.sk2 rfl rfl (Opl.skp rfl (Opl.p1 (n := Opl.nil ?_)))))))
    exact hk2 _ _ ⟨_, _, _, H, ⟨rfl, rfl, (by first | rfl | (show PV.lit (.bool _) = _; congr 2; simp_all)), trivial⟩, h2⟩
   rw [if_pos c18] at H
   obtain rfl : t138 = true := by simpa using c18
   refine Opl.p1 (v := .ptr i2 2) (n := Opl.ldb (v := .lit (.int .i64 a0_2)) h2 rfl T3 rfl rfl rfl rfl (Opl.p1 (n := Opl.p1 (n := Opl.one (v := .lit (.bool (a0_2 == 0))) rfl rfl rfl ?_))))
   by_cases c19 : a0_2 = 0
   case neg =>
    rw [if_neg c19] at H
    have e17 : (a0_2 == 0) = false := by simpa using c19
    try rw [e17]
    refine Opl.sk2 rfl rfl (Opl.skp rfl (Opl.p1 (n := Opl.nil ?_)))
    exact hk2 _ _ ⟨_, _, _, H, ⟨rfl, rfl, (by first | rfl | (show PV.lit (.bool _) = _; congr 2; simp_all)), trivial⟩, h2⟩
   rw [if_pos c19] at H
   have e16 : (a0_2 == 0) = true := by simpa using c19
   try rw [e16]
   refine Opl.p1 (v := .ptr i2 3) (n := Opl.ldb (v := .lit (.int .i64 a0_3)) h2 rfl T3 rfl rfl rfl rfl (Opl.p1 (n := Opl.p1 (n := Opl.nil ?_))))
   exact hk2 _ _ ⟨_, _, _, H, ⟨rfl, rfl, (by first | rfl | (show PV.lit (.bool _) = _; congr 2; simp_all)), trivial⟩, h2⟩
 ·
  refine Evr.regionN rfl (Opl.p1 (v := .ptr i1 0) (n := Opl.ldb (v := .lit (.int .i64 a0_0)) h1 rfl T3 rfl rfl rfl rfl (Opl.p1 (n := Opl.p1 (n := ?_)))))
  by_cases c20 : a0_0 = 0
  case neg =>
   rw [if_neg c20] at H
   have e22 : (a0_0 == 0) = false := by simpa using c20
   try rw [e22]
   refine Opl.sk2 rfl rfl (Opl.skp rfl (Opl.p1 (n := Opl.p1 (n := Opl.sk2 rfl rfl (Opl.skp rfl (Opl.p1 (n := Opl.p1 (n := Opl.sk2 rfl rfl (Opl.skp rfl (Opl.p1 (n := Opl.nil ?_)))))))))))
   exact hk1 _ _ ⟨_, _, _, H, ⟨rfl, rfl, rfl, (by first | rfl | (show PV.lit (.bool _) = _; congr 2; simp_all)), trivial⟩, h1⟩
  rw [if_pos c20] at H
  have e19 : (a0_0 == 0) = true := by simpa using c20
  try rw [e19]
  refine Opl.p1 (v := .ptr i1 1) (n := Opl.ldb (v := .lit (.int .i64 a0_1)) h1 rfl T3 rfl rfl rfl rfl ?_)
  obtain ⟨t137, h_t137, H⟩ := obs H
  refine Opl.callc (spec_l1In.ev h_t137) rfl rfl rfl rfl ⟨(.lit _), (.lit _), (.lit _), trivial⟩ (by decide) (Opl.p1 (n := Opl.p1 (n := ?_)))
  by_cases c21 : t137 = true
  case neg =>
   rw [if_neg c21] at H
   obtain rfl : t137 = false := by simpa using c21
   refine Opl.sk2 rfl rfl (Opl.skp rfl (Opl.p1 (n := Opl.p1 (n := Opl.sk2 rfl rfl (Opl.skp rfl (Opl.p1 (n := Opl.nil ?_)))))))
   exact hk1 _ _ ⟨_, _, _, H, ⟨rfl, rfl, rfl, (by first | rfl | (show PV.lit (.bool _) = _; congr 2; simp_all)), trivial⟩, h1⟩
  rw [if_pos c21] at H
  obtain rfl : t137 = true := by simpa using c21
  refine Opl.p1 (v := .ptr i1 2) (n := Opl.ldb (v := .lit (.int .i64 a0_2)) h1 rfl T3 rfl rfl rfl rfl (Opl.p1 (n := Opl.p1 (n := Opl.p1 (n := ?_)))))
  by_cases c22 : a0_2 = 0
  case neg =>
   rw [if_neg c22] at H
   have e21 : (a0_2 == 0) = false := by simpa using c22
   try rw [e21]
   refine Opl.sk2 rfl rfl (Opl.skp rfl (Opl.p1 (n := Opl.nil ?_)))
   exact hk1 _ _ ⟨_, _, _, H, ⟨rfl, rfl, rfl, (by first | rfl | (show PV.lit (.bool _) = _; congr 2; simp_all)), trivial⟩, h1⟩
  rw [if_pos c22] at H
  have e20 : (a0_2 == 0) = true := by simpa using c22
  try rw [e20]
  refine Opl.p1 (v := .ptr i1 3) (n := Opl.ldb (v := .lit (.int .i64 a0_3)) h1 rfl T3 rfl rfl rfl rfl (Opl.p1 (n := Opl.p1 (n := Opl.nil ?_))))
  exact hk1 _ _ ⟨_, _, _, H, ⟨rfl, rfl, rfl, (by first | rfl | (show PV.lit (.bool _) = _; congr 2; simp_all)), trivial⟩, h1⟩
theorem spec_KindsOf.ev {k : Nat} {l0 : List ITerm} {v0 : PV} (hv0 : Sl cITerm l0 v0) {a1 : Int} {r : (List Int)} (H : spec_KindsOf.f k l0 a1 = some r) : Ret Try.prog 172 [v0, .lit (.int .i64 a1)] fun v S => Vec (cInt .i64) r v S := by
 unfold spec_KindsOf.f at H
 refine Ret.intro Try.func172 rfl (Nat.le_of_ble_eq_true rfl) rfl ?_
 rw [tm2]
 refine Evr.sr rfl (Opl.p1 (n := Opl.nil (Evr.seq (Evr.seq ?_))))
 refine Evr.join (fun tm S => ∃ (kq1 : Nat) (x16_1 : Bool), spec_KindsOf.j0 kq1 l0 a1 x16_1 = some r ∧ Has tm [(0, v0), (1, .lit (.int .i64 a1)), (16, .lit (.bool x16_1))]) ?_ fun hk1 => ?_
 ·
  rintro tm S ⟨kq1, x16_1, H, hh⟩
  rw [hh.eq]
  obtain _ | k1 := kq1
  · simp [spec_KindsOf.j0] at H
  simp only [spec_KindsOf.j0] at H
  by_cases c1 : x16_1 = true
  case pos =>
   rw [if_pos c1] at H
   obtain rfl : x16_1 = true := by simpa using c1
   refine Evr.condT rfl (Evr.sr rfl (Opl.p1 (n := Opl.nil ?_)))
   obtain rfl := sinj H
   refine Evr.ret1 Try.func172 rfl ?_
   show Vec _ _ (.lit (.slice none 0 0)) _
   exact .nil
  rw [if_neg c1] at H
  obtain rfl : x16_1 = false := by simpa using c1
  refine Evr.condF rfl (Evr.skip (Evr.sr rfl (Opl.lits (M := (cInt .i64)) (ys := []) [] K27 T3 rfl rfl rfl trivial rfl (by decide) rfl rfl rfl ?_)))
  rintro pv1 S h1 u1 w1
  refine Opl.p1 (n := Opl.nil (Evr.seq (Evr.sr rfl (Opl.p1 (n := Opl.nil (Evr.block ?_))))))
  refine Evr.loop (Evr.rounds (n := k1) (Inv := fun n tm S => n ≤ k1 ∧ ∃ (x5_1 : List Int) (x6_1 : Int) (pv2 : PV), spec_KindsOf.l0 n l0 a1 x5_1 x6_1 = some r ∧ Has tm [(0, v0), (1, .lit (.int .i64 a1)), (5, pv2), (6, .lit (.int .i64 x6_1))] ∧ Vec (cInt .i64) x5_1 pv2 S) ?_ ?_ ?_)
  · exact ⟨Nat.le_refl _, _, _, _, H, ⟨rfl, rfl, rfl, rfl, trivial⟩, h1⟩
  ·
   rintro tm S ⟨_, _, _, _, H, -⟩
   simp [spec_KindsOf.l0] at H
  ·
   rintro n1 ih1 tm S ⟨hle, x5_1, x6_1, pv2, H, hh, h2⟩
   simp only [spec_KindsOf.l0] at H
   rw [hh.eq]
   refine Evr.seq (Evr.sr rfl (Opl.p1 (n := Opl.p1 (n := Opl.len (xs := l0) (by exact hv0) K66 rfl rfl rfl rfl (Opl.p1 (n := Opl.nil ?_))))))
   by_cases c2 : x6_1 < (l0.length : Int)
   case neg =>
    rw [if_neg c2] at H
    have e4 : (decide (x6_1 < (l0.length : Int))) = false := by simpa using c2
    try rw [e4]
    refine Evr.condF rfl (Evr.exit rfl (Evr.sr rfl (Opl.p1 (n := Opl.p1 (n := Opl.nil ?_)))))
    obtain rfl := sinj H
    refine Evr.ret1 Try.func172 rfl ?_
    show Vec _ _ pv2 _
    exact h2
   rw [if_pos c2] at H
   have e1 : (decide (x6_1 < (l0.length : Int))) = true := by simpa using c2
   try rw [e1]
   refine Evr.condT rfl (Evr.skip (Evr.seq (Evr.block (Evr.sr rfl (Opl.p1 (n := Opl.p1 (n := ?_)))))))
   obtain ⟨c3, H⟩ := peel H
   refine Opl.idx (M := cITerm) (xs := l0) (j := x6_1) zITerm (by exact hv0) rfl (by omega) (by omega) K66 Z128 rfl rfl ?_
   rintro p1 q1 h3
   obtain rfl := cITerm_R (x := (rd_ITerm l0 x6_1)) h3
   refine Opl.lda (.agg [.lit (.int .i64 ((rd_ITerm l0 x6_1).f0)), .lit (.int .i64 ((rd_ITerm l0 x6_1).f1)), .lit (.int .i64 ((rd_ITerm l0 x6_1).f2)), .lit (.int .i64 ((rd_ITerm l0 x6_1).f3))]) rfl T128 rfl rfl rfl rfl (Opl.p1 (n := Opl.p1 (n := ?_)))
   obtain ⟨t151, h_t151, H⟩ := obs H
   obtain ⟨pv3, h4, -, h5⟩ := Out.vec h2
   refine Opl.callw (spec_l1Kind.ev h5 h_t151) rfl rfl rfl (.cons (.refl _) (.cons h4 (.cons (.refl _) .nil))) ⟨(.aggL ⟨(.lit _), (.lit _), (.lit _), (.lit _), trivial⟩), h5.plain, (.lit _), trivial⟩ (by decide) (Opl.p1 (n := Opl.nil (Evr.seq (Evr.sr rfl (Opl.p1 (n := Opl.p1 (n := Opl.nil ?_)))))))
   by_cases c4 : t151 = 0
   case pos =>
    rw [if_pos c4] at H
    have e2 : (t151 == 0) = true := by simpa using c4
    try rw [e2]
    refine Evr.condT rfl (Evr.sr rfl (Opl.p1 (n := Opl.nil ?_)))
    obtain rfl := sinj H
    refine Evr.ret1 Try.func172 rfl ?_
    show Vec _ _ (.lit (.slice none 0 0)) _
    exact .nil
   rw [if_neg c4] at H
   have e3 : (t151 == 0) = false := by simpa using c4
   try rw [e3]
   refine Evr.condF rfl (Evr.skip (Evr.regionN rfl (Opl.p1 (n := Opl.p1 (n := Opl.lits (M := (cInt .i64)) (ys := [t151]) [.tmp 34] K27 T3 rfl rfl rfl (by exact ⟨rfl, trivial⟩) rfl (by decide) rfl rfl rfl ?_)))))
   rintro pv4 S h6 u2 w2
   have ap1 := w2.vec h2
   have h7 := u2.vec h2 ap1
   obtain ⟨c5, H⟩ := peel H
   refine Opl.app (M := (cInt .i64)) (xs := x5_1) (ys := [t151]) (v := pv2) h7 (.vec h6) (oInt .i64) rfl rfl K27 T3 rfl rfl (by (try simp only [List.length_cons, List.length_nil]); omega) (by show (_ + _) * 8 ≤ 140737488355328; (try simp only [List.length_cons, List.length_nil]); omega) rfl rfl rfl rfl rfl ?_
   rintro pv5 S h8 u3 w3
   have ap2 := w3.vec h6
   have h9 := u3.vec h6 ap1.symm
   refine Opl.p1 (n := Opl.nil (Evr.inBlock (Evr.regionN rfl (Opl.p1 (n := Opl.add (k := .i64) (a := x6_1) (b := 1) K3 rfl rfl rfl rfl (Opl.one (v := .lit (.int .i64 (wrap64 (x6_1 + 1)))) rfl rfl rfl (Opl.nil ?_)))))))
   exact ih1 _ (by omega) _ _ ⟨by omega, _, _, _, H, ⟨rfl, rfl, rfl, rfl, trivial⟩, h8⟩
 ·
  refine Evr.regionN rfl (Opl.p1 (n := ?_))
  obtain ⟨t145, h_t145, H⟩ := obs H
  refine Opl.callc (spec_l1In.ev h_t145) rfl rfl rfl rfl ⟨(.lit _), (.lit _), (.lit _), trivial⟩ (by decide) (Opl.p1 (n := Opl.p1 (n := ?_)))
  by_cases c6 : t145 = true
  case neg =>
   rw [if_neg c6] at H
   have e6 : (!t145) = true := by simpa using c6
   try rw [e6]
   refine Opl.sk4 rfl rfl rfl rfl (Opl.p1 (n := Opl.nil ?_))
   exact hk1 _ _ ⟨_, _, H, ⟨rfl, rfl, (by first | rfl | (show PV.lit (.bool _) = _; congr 2; simp_all)), trivial⟩⟩
  rw [if_pos c6] at H
  have e5 : (!t145) = false := by simpa using c6
  try rw [e5]
  refine Opl.p1 (n := Opl.len (xs := l0) (by exact hv0) K66 rfl rfl rfl rfl ?_)
  obtain ⟨t146, h_t146, H⟩ := obs H
  refine Opl.callc (spec_l1In.ev h_t146) rfl rfl rfl rfl ⟨(.lit _), (.lit _), (.lit _), trivial⟩ (by decide) (Opl.p1 (n := Opl.p1 (n := Opl.nil ?_)))
  exact hk1 _ _ ⟨_, _, H, ⟨rfl, rfl, (by first | rfl | (show PV.lit (.bool _) = _; congr 2; simp_all)), trivial⟩⟩
theorem spec_l2Is.ev {k : Nat} {l0 : List ITerm} {v0 : PV} (hv0 : Sl cITerm l0 v0) {a1 : Int} {a2 : Int} {r : Bool} (H : spec_l2Is.f k l0 a1 a2 = some r) : Ret Try.prog 151 [v0, .lit (.int .i64 a1), .lit (.int .i64 a2)] fun v S => v = .lit (.bool r) := by
 unfold spec_l2Is.f at H
 refine Ret.intro Try.func151 rfl (Nat.le_of_ble_eq_true rfl) rfl ?_
 rw [tm3]
 refine Evr.sr rfl (Opl.p1 (n := Opl.nil (Evr.sr rfl (Opl.p1 (n := Opl.p1 (n := ?_))))))
 obtain ⟨t422, h_t422, H⟩ := obs H
 refine Opl.call ((spec_KindsOf.ev hv0 h_t422).mono fun _ _ h => Out.vec h) rfl rfl rfl rfl ⟨hv0.plain, (.lit _), trivial⟩ (by decide) ?_
 rintro pv1 h1
 refine Opl.p1 (n := Opl.nil (Evr.sr rfl (Opl.p1 (n := Opl.len (xs := t422) (by exact h1) K27 rfl rfl rfl rfl (Opl.p1 (n := Opl.p1 (n := ?_)))))))
 by_cases c1 : (t422.length : Int) > 0
 case neg =>
  rw [if_neg c1] at H
  have e2 : (decide ((t422.length : Int) > 0)) = false := by simpa using c1
  try rw [e2]
  refine Opl.sk8 rfl rfl rfl rfl rfl rfl rfl rfl (Opl.p1 (n := Opl.p1 (n := Opl.nil ?_)))
  obtain rfl := sinj H
  refine Evr.ret1 Try.func151 rfl ?_
  show (.lit (.bool false) : PV) = _
  first | rfl | (simp only [go_sem]; rfl)
 rw [if_pos c1] at H
 have e1 : (decide ((t422.length : Int) > 0)) = true := by simpa using c1
 try rw [e1]
 refine Opl.p1 (n := Opl.p1 (n := Opl.len (xs := t422) (by exact h1) K27 rfl rfl rfl rfl (Opl.subi (k := .i64) (a := (t422.length : Int)) (b := 1) K3 rfl rfl rfl rfl ?_)))
 obtain ⟨c2, H⟩ := peel H
 obtain ⟨c3, H⟩ := peel H
 refine Opl.idx (M := (cInt .i64)) (xs := t422) (j := (wrap64 ((t422.length : Int) - 1))) (0 : Int) (by exact h1) rfl (by omega) (by omega) K27 Z3 rfl rfl ?_
 rintro p1 q1 h2
 obtain rfl : p1 = [.lit (.int .i64 (rd t422 (wrap64 ((t422.length : Int) - 1))))] := h2
 refine Opl.lda (.lit (.int .i64 (rd t422 (wrap64 ((t422.length : Int) - 1))))) rfl T3 rfl rfl rfl rfl (Opl.one (v := .lit (.int .i64 a2)) rfl rfl rfl (Opl.eql (a := (rd t422 (wrap64 ((t422.length : Int) - 1)))) (b := a2) K3 rfl rfl rfl rfl (Opl.p1 (n := Opl.one (v := .lit (.bool ((rd t422 (wrap64 ((t422.length : Int) - 1))) == a2))) rfl rfl rfl (Opl.nil ?_)))))
 obtain rfl := sinj H
 refine Evr.ret1 Try.func151 rfl ?_
 show (.lit (.bool ((rd t422 (wrap64 ((t422.length : Int) - 1))) == a2)) : PV) = _
 first | rfl | (simp only [go_sem]; rfl)
theorem spec_l2Rule.ev {k : Nat} {l0_0 : List ITerm} {v0_0 : PV} (hv0_0 : Sl cITerm l0_0 v0_0) {l0_1 : List Int} {v0_1 : PV} (hv0_1 : Sl (cInt .i64) l0_1 v0_1) {l0_2 : List (List ITerm)} {v0_2 : PV} (hv0_2 : Sl (cSl cITerm) l0_2 v0_2) {a1 : Int} {r : Bool} (H : spec_l2Rule.f k l0_0 l0_1 l0_2 a1 = some r) : Ret Try.prog 95 [.agg [v0_0, v0_1, v0_2], .lit (.int .i64 a1)] fun v S => v = .lit (.bool r) := by
 unfold spec_l2Rule.f at H
 refine Ret.intro Try.func95 rfl (Nat.le_of_ble_eq_true rfl) rfl ?_
 rw [tm2]
 refine Evr.sr rfl (Opl.box (cs := [v0_0, v0_1, v0_2]) rfl rfl rfl rfl ?_)
 rintro i1 S h1 u1 w1
 refine Opl.p1 (n := Opl.nil (Evr.seq (Evr.seq ?_)))
 refine Evr.join (fun tm S => ∃ (kq1 : Nat) (x26_1 : Bool) (i2 : Abs.Id), spec_l2Rule.j0 kq1 a1 x26_1 l0_0 l0_1 l0_2 = some r ∧ Has tm [(1, .lit (.int .i64 a1)), (2, .ptr i2 0), (26, .lit (.bool x26_1))] ∧ Box (.ptr i2 0) [v0_0, v0_1, v0_2] S) ?_ fun hk1 => ?_
 ·
  rintro tm S ⟨kq1, x26_1, i2, H, hh, h2⟩
  rw [hh.eq]
  obtain _ | k1 := kq1
  · simp [spec_l2Rule.j0] at H
  simp only [spec_l2Rule.j0] at H
  by_cases c1 : x26_1 = true
  case pos =>
   rw [if_pos c1] at H
   obtain rfl : x26_1 = true := by simpa using c1
   refine Evr.condT rfl (Evr.sr rfl (Opl.p1 (n := Opl.nil ?_)))
   obtain rfl := sinj H
   refine Evr.ret1 Try.func95 rfl ?_
   show (.lit (.bool false) : PV) = _
   first | rfl | (simp only [go_sem]; rfl)
  rw [if_neg c1] at H
  obtain rfl : x26_1 = false := by simpa using c1
  refine Evr.condF rfl (Evr.skip (Evr.seq (Evr.sr rfl (Opl.p1 (n := Opl.nil (Evr.block ?_))))))
  refine Evr.loop (Evr.rounds (n := k1) (Inv := fun n tm S => n ≤ k1 ∧ ∃ (x5_1 : Int) (i3 : Abs.Id), spec_l2Rule.l0 n a1 x5_1 l0_0 l0_1 l0_2 = some r ∧ Has tm [(1, .lit (.int .i64 a1)), (2, .ptr i3 0), (5, .lit (.int .i64 x5_1))] ∧ Box (.ptr i3 0) [v0_0, v0_1, v0_2] S) ?_ ?_ ?_)
  · exact ⟨Nat.le_refl _, _, _, H, ⟨rfl, rfl, rfl, trivial⟩, h2⟩
  ·
   rintro tm S ⟨_, _, _, H, -⟩
   simp [spec_l2Rule.l0] at H
  ·
   rintro n1 ih1 tm S ⟨hle, x5_1, i3, H, hh, h3⟩
   simp only [spec_l2Rule.l0] at H
   rw [hh.eq]
   refine Evr.seq (Evr.sr rfl (Opl.p1 (n := Opl.p1 (v := .ptr i3 1) (n := Opl.ldb (v := v0_1) h3 rfl T27 rfl rfl rfl rfl (Opl.len (xs := l0_1) (by exact hv0_1) K27 rfl rfl rfl rfl (Opl.p1 (n := Opl.nil ?_)))))))
   by_cases c2 : x5_1 < (l0_1.length : Int)
   case neg =>
    rw [if_neg c2] at H
    have e8 : (decide (x5_1 < (l0_1.length : Int))) = false := by simpa using c2
    try rw [e8]
    refine Evr.condF rfl (Evr.exit rfl (Evr.sr rfl (Opl.p1 (n := Opl.nil ?_))))
    obtain rfl := sinj H
    refine Evr.ret1 Try.func95 rfl ?_
    show (.lit (.bool true) : PV) = _
    first | rfl | (simp only [go_sem]; rfl)
   rw [if_pos c2] at H
   have e1 : (decide (x5_1 < (l0_1.length : Int))) = true := by simpa using c2
   try rw [e1]
   refine Evr.condT rfl (Evr.skip (Evr.seq (Evr.block (Evr.seq ?_))))
   refine Evr.join (fun tm S => ∃ (kq2 : Nat) (x70_1 : Bool) (i4 : Abs.Id), spec_l2Rule.j2 kq2 a1 x5_1 x70_1 l0_0 l0_1 l0_2 = some r ∧ kq2 ≤ n1 ∧ Has tm [(1, .lit (.int .i64 a1)), (2, .ptr i4 0), (5, .lit (.int .i64 x5_1)), (70, .lit (.bool x70_1))] ∧ Box (.ptr i4 0) [v0_0, v0_1, v0_2] S) ?_ fun hk2 => ?_
   ·
    rintro tm S ⟨kq2, x70_1, i4, H, hle, hh, h4⟩
    rw [hh.eq]
    obtain _ | k2 := kq2
    · simp [spec_l2Rule.j2] at H
    simp only [spec_l2Rule.j2] at H
    by_cases c3 : x70_1 = true
    case pos =>
     rw [if_pos c3] at H
     obtain rfl : x70_1 = true := by simpa using c3
     refine Evr.condT rfl (Evr.sr rfl (Opl.p1 (n := Opl.nil ?_)))
     obtain rfl := sinj H
     refine Evr.ret1 Try.func95 rfl ?_
     show (.lit (.bool false) : PV) = _
     first | rfl | (simp only [go_sem]; rfl)
    rw [if_neg c3] at H
    obtain rfl : x70_1 = false := by simpa using c3
    refine Evr.condF rfl (Evr.skip (Evr.inBlock (Evr.regionN rfl (Opl.p1 (n := Opl.add (k := .i64) (a := x5_1) (b := 1) K3 rfl rfl rfl rfl (Opl.one (v := .lit (.int .i64 (wrap64 (x5_1 + 1)))) rfl rfl rfl (Opl.nil ?_)))))))
    exact ih1 _ (by omega) _ _ ⟨by omega, _, _, H, ⟨rfl, rfl, rfl, trivial⟩, h4⟩
   ·
    refine Evr.regionD rfl (by kernel_rfl) (Opl.p1 (v := .ptr i3 1) (n := Opl.ldb (v := v0_1) h3 rfl T27 rfl rfl rfl rfl (Opl.p1 (n := ?_))))
    obtain ⟨c4, H⟩ := peel H
    refine Opl.idx (M := (cInt .i64)) (xs := l0_1) (j := x5_1) (0 : Int) (by exact hv0_1) rfl (by omega) (by omega) K27 Z3 rfl rfl ?_
    rintro p1 q1 h5
    obtain rfl : p1 = [.lit (.int .i64 (rd l0_1 x5_1))] := h5
    refine Opl.lda (.lit (.int .i64 (rd l0_1 x5_1))) rfl T3 rfl rfl rfl rfl (Opl.p1 (n := Opl.subi (k := .i64) (a := a1) (b := 1) K3 rfl rfl rfl rfl ?_))
    obtain ⟨t429, h_t429, H⟩ := obs H
    refine Opl.callc (spec_l1In.ev h_t429) rfl rfl rfl rfl ⟨(.lit _), (.lit _), (.lit _), trivial⟩ (by decide) (Opl.p1 (n := Opl.one (v := .lit (.bool (!t429))) rfl rfl rfl ?_))
    by_cases c5 : t429 = true
    case neg =>
     rw [if_neg c5] at H
     have e7 : (!t429) = true := by simpa using c5
     try rw [e7]
     refine Opl.sk8 rfl rfl rfl rfl rfl rfl rfl rfl (Opl.sk8 rfl rfl rfl rfl rfl rfl rfl rfl (Opl.p1 (n := Opl.one (v := .lit (.bool true)) rfl rfl rfl (Opl.sk8 rfl rfl rfl rfl rfl rfl rfl rfl (Opl.p1 (n := Opl.nil ?_))))))
     exact hk2 _ _ ⟨_, _, _, H, by omega, ⟨rfl, rfl, rfl, (by first | rfl | (show PV.lit (.bool _) = _; congr 2; simp_all)), trivial⟩, h3⟩
    rw [if_pos c5] at H
    have e2 : (!t429) = false := by simpa using c5
    try rw [e2]
    refine Opl.one (v := .lit (.int .i64 x5_1)) rfl rfl rfl (Opl.p1 (n := Opl.one (v := .lit (.bool (decide (x5_1 > 0)))) rfl rfl rfl ?_))
    by_cases c6 : x5_1 > 0
    case neg =>
     rw [if_neg c6] at H
     have e6 : (decide (x5_1 > 0)) = false := by simpa using c6
     try rw [e6]
     refine Opl.sk8 rfl rfl rfl rfl rfl rfl rfl rfl (Opl.sk4 rfl rfl rfl rfl (Opl.p1 (n := Opl.p1 (n := Opl.one (v := .lit (.bool false)) rfl rfl rfl (Opl.p1 (v := .ptr i3 2) (n := Opl.ldb (v := v0_2) h3 rfl T104 rfl rfl rfl rfl (Opl.one (v := .lit (.int .i64 x5_1)) rfl rfl rfl ?_)))))))
     obtain ⟨c11, H⟩ := peel H
     refine Opl.idx (M := (cSl cITerm)) (xs := l0_2) (j := x5_1) ([] : List ITerm) (by exact hv0_2) rfl (by omega) (by omega) K104 Z66 rfl rfl ?_
     rintro p5 q5 h10
     obtain ⟨pv2, rfl, h11⟩ := h10
     refine Opl.lda (pv2) rfl T66 rfl rfl rfl rfl (Opl.one (v := .lit (.int .i64 a1)) rfl rfl rfl ?_)
     obtain ⟨t435, h_t435, H⟩ := obs H
     refine Opl.callc (spec_l2Is.ev h11 h_t435) rfl rfl rfl rfl ⟨h11.plain, (.lit _), (.lit _), trivial⟩ (by decide) (Opl.p1 (n := Opl.p1 (n := Opl.nil ?_)))
     exact hk2 _ _ ⟨_, _, _, H, by omega, ⟨rfl, rfl, rfl, (by first | rfl | (show PV.lit (.bool _) = _; congr 2; simp_all)), trivial⟩, h3⟩
    rw [if_pos c6] at H
    have e3 : (decide (x5_1 > 0)) = true := by simpa using c6
    try rw [e3]
    refine Opl.p1 (v := .ptr i3 1) (n := Opl.ldb (v := v0_1) h3 rfl T27 rfl rfl rfl rfl (Opl.one (v := .lit (.int .i64 x5_1)) rfl rfl rfl ?_))
    obtain ⟨c7, H⟩ := peel H
    obtain ⟨c8, H⟩ := peel H
    refine Opl.idx (M := (cInt .i64)) (xs := l0_1) (j := x5_1) (0 : Int) (by exact hv0_1) rfl (by omega) (by omega) K27 Z3 rfl rfl ?_
    rintro p2 q2 h6
    obtain rfl : p2 = [.lit (.int .i64 (rd l0_1 x5_1))] := h6
    refine Opl.lda (.lit (.int .i64 (rd l0_1 x5_1))) rfl T3 rfl rfl rfl rfl (Opl.p1 (v := .ptr i3 1) (n := Opl.ldb (v := v0_1) h3 rfl T27 rfl rfl rfl rfl (Opl.one (v := .lit (.int .i64 x5_1)) rfl rfl rfl (Opl.subi (k := .i64) (a := x5_1) (b := 1) K3 rfl rfl rfl rfl (Opl.idx (M := (cInt .i64)) (xs := l0_1) (j := (wrap64 (x5_1 - 1))) (0 : Int) (by exact hv0_1) rfl (by omega) (by omega) K27 Z3 rfl rfl ?_)))))
    rintro p3 q3 h7
    obtain rfl : p3 = [.lit (.int .i64 (rd l0_1 (wrap64 (x5_1 - 1))))] := h7
    refine Opl.lda (.lit (.int .i64 (rd l0_1 (wrap64 (x5_1 - 1))))) rfl T3 rfl rfl rfl rfl (Opl.leq (a := (rd l0_1 x5_1)) (b := (rd l0_1 (wrap64 (x5_1 - 1)))) K3 rfl rfl rfl rfl (Opl.p1 (n := Opl.p1 (n := Opl.one (v := .lit (.bool (decide ((rd l0_1 x5_1) ≤ (rd l0_1 (wrap64 (x5_1 - 1))))))) rfl rfl rfl ?_))))
    by_cases c9 : (rd l0_1 x5_1) ≤ (rd l0_1 (wrap64 (x5_1 - 1)))
    case pos =>
     rw [if_pos c9] at H
     have e4 : (decide ((rd l0_1 x5_1) ≤ (rd l0_1 (wrap64 (x5_1 - 1))))) = true := by simpa using c9
     try rw [e4]
     refine Opl.sk8 rfl rfl rfl rfl rfl rfl rfl rfl (Opl.p1 (n := Opl.nil ?_))
     exact hk2 _ _ ⟨_, _, _, H, by omega, ⟨rfl, rfl, rfl, (by first | rfl | (show PV.lit (.bool _) = _; congr 2; simp_all)), trivial⟩, h3⟩
    rw [if_neg c9] at H
    have e5 : (decide ((rd l0_1 x5_1) ≤ (rd l0_1 (wrap64 (x5_1 - 1))))) = false := by simpa using c9
    try rw [e5]
    refine Opl.p1 (v := .ptr i3 2) (n := Opl.ldb (v := v0_2) h3 rfl T104 rfl rfl rfl rfl (Opl.one (v := .lit (.int .i64 x5_1)) rfl rfl rfl ?_))
    obtain ⟨c10, H⟩ := peel H
    refine Opl.idx (M := (cSl cITerm)) (xs := l0_2) (j := x5_1) ([] : List ITerm) (by exact hv0_2) rfl (by omega) (by omega) K104 Z66 rfl rfl ?_
    rintro p4 q4 h8
    obtain ⟨pv1, rfl, h9⟩ := h8
    refine Opl.lda (pv1) rfl T66 rfl rfl rfl rfl (Opl.one (v := .lit (.int .i64 a1)) rfl rfl rfl ?_)
    obtain ⟨t433, h_t433, H⟩ := obs H
    refine Opl.callc (spec_l2Is.ev h9 h_t433) rfl rfl rfl rfl ⟨h9.plain, (.lit _), (.lit _), trivial⟩ (by decide) (Opl.p1 (n := Opl.p1 (n := Opl.nil ?_)))
    exact hk2 _ _ ⟨_, _, _, H, by omega, ⟨rfl, rfl, rfl, (by first | rfl | (show PV.lit (.bool _) = _; congr 2; simp_all)), trivial⟩, h3⟩
 ·
  refine Evr.regionN rfl (Opl.p1 (v := .ptr i1 0) (n := Opl.ldb (v := v0_0) h1 rfl T66 rfl rfl rfl rfl (Opl.p1 (n := ?_))))
  obtain ⟨t427, h_t427, H⟩ := obs H
  refine Opl.callc (spec_l2Is.ev hv0_0 h_t427) rfl rfl rfl rfl ⟨hv0_0.plain, (.lit _), (.lit _), trivial⟩ (by decide) (Opl.p1 (n := Opl.p1 (n := ?_)))
  by_cases c12 : t427 = true
  case neg =>
   rw [if_neg c12] at H
   have e12 : (!t427) = true := by simpa using c12
   try rw [e12]
   refine Opl.sk4 rfl rfl rfl rfl (Opl.sk2 rfl rfl (Opl.skp rfl (Opl.p1 (n := Opl.p1 (n := Opl.sk4 rfl rfl rfl rfl (Opl.skp rfl (Opl.p1 (n := Opl.nil ?_))))))))
   exact hk1 _ _ ⟨_, _, _, H, ⟨rfl, rfl, (by first | rfl | (show PV.lit (.bool _) = _; congr 2; simp_all)), trivial⟩, h1⟩
  rw [if_pos c12] at H
  have e9 : (!t427) = false := by simpa using c12
  try rw [e9]
  refine Opl.p1 (v := .ptr i1 1) (n := Opl.ldb (v := v0_1) h1 rfl T27 rfl rfl rfl rfl (Opl.len (xs := l0_1) (by exact hv0_1) K27 rfl rfl rfl rfl (Opl.p1 (v := .ptr i1 2) (n := Opl.ldb (v := v0_2) h1 rfl T104 rfl rfl rfl rfl (Opl.len (xs := l0_2) (by exact hv0_2) K104 rfl rfl rfl rfl (Opl.p1 (n := Opl.p1 (n := Opl.p1 (n := ?_)))))))))
  by_cases c13 : (l0_1.length : Int) = (l0_2.length : Int)
  case neg =>
   rw [if_neg c13] at H
   have e11 : ((l0_1.length : Int) != (l0_2.length : Int)) = true := by simpa using c13
   try rw [e11]
   refine Opl.sk4 rfl rfl rfl rfl (Opl.skp rfl (Opl.p1 (n := Opl.nil ?_)))
   exact hk1 _ _ ⟨_, _, _, H, ⟨rfl, rfl, (by first | rfl | (show PV.lit (.bool _) = _; congr 2; simp_all)), trivial⟩, h1⟩
  rw [if_pos c13] at H
  have e10 : ((l0_1.length : Int) != (l0_2.length : Int)) = false := by simpa using c13
  try rw [e10]
  refine Opl.p1 (v := .ptr i1 1) (n := Opl.ldb (v := v0_1) h1 rfl T27 rfl rfl rfl rfl (Opl.len (xs := l0_1) (by exact hv0_1) K27 rfl rfl rfl rfl (Opl.p1 (n := Opl.p1 (n := Opl.p1 (n := Opl.nil ?_))))))
  exact hk1 _ _ ⟨_, _, _, H, ⟨rfl, rfl, (by first | rfl | (show PV.lit (.bool _) = _; congr 2; simp_all)), trivial⟩, h1⟩
theorem spec_l2Var.ev {a0_0 : Int} {a0_1 : Int} {a0_2 : Int} {r : Bool} (H : spec_l2Var.f a0_0 a0_1 a0_2 = some r) : Ret Try.prog 94 [.agg [.lit (.int .i64 a0_0), .lit (.int .i64 a0_1), .lit (.int .i64 a0_2)]] fun v S => v = .lit (.bool r) := by
 unfold spec_l2Var.f at H
 refine Ret.intro Try.func94 rfl (Nat.le_of_ble_eq_true rfl) rfl ?_
 rw [tm1]
 refine Evr.sr rfl (Opl.box (cs := [.lit (.int .i64 a0_0), .lit (.int .i64 a0_1), .lit (.int .i64 a0_2)]) rfl rfl rfl rfl ?_)
 rintro i1 S h1 u1 w1
 refine Opl.p1 (n := Opl.nil (Evr.sr rfl (Opl.p1 (v := .ptr i1 0) (n := Opl.ldb (v := .lit (.int .i64 a0_0)) h1 rfl T3 rfl rfl rfl rfl ?_))))
 obtain ⟨t419, h_t419, H⟩ := obs H
 refine Opl.callc (spec_l1In.ev h_t419) rfl rfl rfl rfl ⟨(.lit _), (.lit _), (.lit _), trivial⟩ (by decide) (Opl.p1 (n := ?_))
 by_cases c1 : t419 = true
 case neg =>
  rw [if_neg c1] at H
  obtain rfl : t419 = false := by simpa using c1
  refine Opl.sk4 rfl rfl rfl rfl (Opl.skp rfl (Opl.p1 (n := Opl.p1 (n := Opl.sk4 rfl rfl rfl rfl (Opl.sk2 rfl rfl (Opl.p1 (n := Opl.p1 (n := Opl.sk4 rfl rfl rfl rfl (Opl.sk2 rfl rfl (Opl.skp rfl (Opl.p1 (n := Opl.p1 (n := Opl.nil ?_)))))))))))))
  obtain rfl := sinj H
  refine Evr.ret1 Try.func94 rfl ?_
  show (.lit (.bool false) : PV) = _
  first | rfl | (simp only [go_sem]; rfl)
 rw [if_pos c1] at H
 obtain rfl : t419 = true := by simpa using c1
 refine Opl.p1 (v := .ptr i1 1) (n := Opl.ldb (v := .lit (.int .i64 a0_1)) h1 rfl T3 rfl rfl rfl rfl (Opl.p1 (v := .ptr i1 0) (n := Opl.ldb (v := .lit (.int .i64 a0_0)) h1 rfl T3 rfl rfl rfl rfl ?_)))
 obtain ⟨t420, h_t420, H⟩ := obs H
 refine Opl.callc (spec_l1In.ev h_t420) rfl rfl rfl rfl ⟨(.lit _), (.lit _), (.lit _), trivial⟩ (by decide) (Opl.p1 (n := Opl.p1 (n := ?_)))
 by_cases c2 : t420 = true
 case neg =>
  rw [if_neg c2] at H
  obtain rfl : t420 = false := by simpa using c2
  refine Opl.sk4 rfl rfl rfl rfl (Opl.sk2 rfl rfl (Opl.p1 (n := Opl.p1 (n := Opl.sk4 rfl rfl rfl rfl (Opl.sk2 rfl rfl (Opl.skp rfl (Opl.p1 (n := Opl.p1 (n := Opl.nil ?_)))))))))
  obtain rfl := sinj H
  refine Evr.ret1 Try.func94 rfl ?_
  show (.lit (.bool false) : PV) = _
  first | rfl | (simp only [go_sem]; rfl)
 rw [if_pos c2] at H
 obtain rfl : t420 = true := by simpa using c2
 refine Opl.p1 (v := .ptr i1 1) (n := Opl.ldb (v := .lit (.int .i64 a0_1)) h1 rfl T3 rfl rfl rfl rfl (Opl.p1 (v := .ptr i1 0) (n := Opl.ldb (v := .lit (.int .i64 a0_0)) h1 rfl T3 rfl rfl rfl rfl (Opl.subi (k := .i64) (a := a0_1) (b := a0_0) K3 rfl rfl rfl rfl (Opl.lss (a := (wrap64 (a0_1 - a0_0))) (b := 20) K3 rfl rfl rfl rfl (Opl.p1 (n := Opl.one (v := .lit (.bool (decide ((wrap64 (a0_1 - a0_0)) < 20)))) rfl rfl rfl ?_)))))))
 by_cases c3 : (wrap64 (a0_1 - a0_0)) < 20
 case neg =>
  rw [if_neg c3] at H
  have e2 : (decide ((wrap64 (a0_1 - a0_0)) < 20)) = false := by simpa using c3
  try rw [e2]
  refine Opl.sk4 rfl rfl rfl rfl (Opl.sk2 rfl rfl (Opl.skp rfl (Opl.p1 (n := Opl.one (v := .lit (.bool false)) rfl rfl rfl (Opl.nil ?_)))))
  obtain rfl := sinj H
  refine Evr.ret1 Try.func94 rfl ?_
  show (.lit (.bool false) : PV) = _
  first | rfl | (simp only [go_sem]; rfl)
 rw [if_pos c3] at H
 have e1 : (decide ((wrap64 (a0_1 - a0_0)) < 20)) = true := by simpa using c3
 try rw [e1]
 refine Opl.p1 (v := .ptr i1 2) (n := Opl.ldb (v := .lit (.int .i64 a0_2)) h1 rfl T3 rfl rfl rfl rfl (Opl.p1 (v := .ptr i1 0) (n := Opl.ldb (v := .lit (.int .i64 a0_0)) h1 rfl T3 rfl rfl rfl rfl (Opl.p1 (v := .ptr i1 1) (n := Opl.ldb (v := .lit (.int .i64 a0_1)) h1 rfl T3 rfl rfl rfl rfl ?_)))))
 obtain ⟨t421, h_t421, H⟩ := obs H
 refine Opl.callc (spec_l1In.ev h_t421) rfl rfl rfl rfl ⟨(.lit _), (.lit _), (.lit _), trivial⟩ (by decide) (Opl.p1 (n := Opl.one (v := .lit (.bool t421)) rfl rfl rfl (Opl.nil ?_)))
 obtain rfl := sinj H
 refine Evr.ret1 Try.func94 rfl ?_
 show (.lit (.bool t421) : PV) = _
 first | rfl | (simp only [go_sem]; rfl)
theorem spec_SystemValid.ev {k : Nat} {l0_0 : List IVar} {v0_0 : PV} (hv0_0 : Sl cIVar l0_0 v0_0) {l0_1 : List IRule} {v0_1 : PV} (hv0_1 : Sl cIRule l0_1 v0_1) {r : Bool} (H : spec_SystemValid.f k l0_0 l0_1 = some r) : Ret Try.prog 27 [.agg [v0_0, v0_1]] fun v S => v = .lit (.bool r) := by
 unfold spec_SystemValid.f at H
 refine Ret.intro Try.func27 rfl (Nat.le_of_ble_eq_true rfl) rfl ?_
 rw [tm1]
 refine Evr.sr rfl (Opl.box (cs := [v0_0, v0_1]) rfl rfl rfl rfl ?_)
 rintro i1 S h1 u1 w1
 refine Opl.p1 (n := Opl.nil (Evr.seq (Evr.seq ?_)))
 refine Evr.join (fun tm S => ∃ (kq1 : Nat) (x16_1 : Bool) (i2 : Abs.Id), spec_SystemValid.j0 kq1 x16_1 l0_0 l0_1 = some r ∧ Has tm [(1, .ptr i2 0), (16, .lit (.bool x16_1))] ∧ Box (.ptr i2 0) [v0_0, v0_1] S) ?_ fun hk1 => ?_
 ·
  rintro tm S ⟨kq1, x16_1, i2, H, hh, h2⟩
  rw [hh.eq]
  obtain _ | k1 := kq1
  · simp [spec_SystemValid.j0] at H
  simp only [spec_SystemValid.j0] at H
  by_cases c1 : x16_1 = true
  case pos =>
   rw [if_pos c1] at H
   obtain rfl : x16_1 = true := by simpa using c1
   refine Evr.condT rfl (Evr.sr rfl (Opl.p1 (n := Opl.nil ?_)))
   obtain rfl := sinj H
   refine Evr.ret1 Try.func27 rfl ?_
   show (.lit (.bool false) : PV) = _
   first | rfl | (simp only [go_sem]; rfl)
  rw [if_neg c1] at H
  obtain rfl : x16_1 = false := by simpa using c1
  refine Evr.condF rfl (Evr.skip (Evr.sr rfl (Opl.p1 (n := Opl.nil (Evr.seq (Evr.sr rfl (Opl.p1 (n := Opl.nil (Evr.block ?_)))))))))
  refine Evr.loop (Evr.rounds (n := k1) (Inv := fun n tm S => n ≤ k1 ∧ ∃ (x3_1 : Int) (x4_1 : Int) (i3 : Abs.Id), spec_SystemValid.l0 n x3_1 x4_1 l0_0 l0_1 = some r ∧ Has tm [(1, .ptr i3 0), (3, .lit (.int .i64 x3_1)), (4, .lit (.int .i64 x4_1))] ∧ Box (.ptr i3 0) [v0_0, v0_1] S) ?_ ?_ ?_)
  · exact ⟨Nat.le_refl _, _, _, _, H, ⟨rfl, rfl, rfl, trivial⟩, h2⟩
  ·
   rintro tm S ⟨_, _, _, _, H, -⟩
   simp [spec_SystemValid.l0] at H
  ·
   rintro n1 ih1 tm S ⟨hle, x3_1, x4_1, i3, H, hh, h3⟩
   simp only [spec_SystemValid.l0] at H
   rw [hh.eq]
   refine Evr.seq (Evr.sr rfl (Opl.p1 (n := Opl.p1 (v := .ptr i3 0) (n := Opl.ldb (v := v0_0) h3 rfl T23 rfl rfl rfl rfl (Opl.len (xs := l0_0) (by exact hv0_0) K23 rfl rfl rfl rfl (Opl.p1 (n := Opl.nil ?_)))))))
   by_cases c2 : x4_1 < (l0_0.length : Int)
   case neg =>
    rw [if_neg c2] at H
    have e4 : (decide (x4_1 < (l0_0.length : Int))) = false := by simpa using c2
    try rw [e4]
    refine Evr.condF rfl (Evr.exit rfl (Evr.seq (Evr.sr rfl (Opl.p1 (n := Opl.nil (Evr.block ?_))))))
    refine Evr.loop (Evr.rounds (n := n1) (Inv := fun n tm S => n ≤ n1 ∧ ∃ (x5_1 : Int) (i4 : Abs.Id), spec_SystemValid.l1 n x3_1 x5_1 l0_0 l0_1 = some r ∧ Has tm [(1, .ptr i4 0), (3, .lit (.int .i64 x3_1)), (5, .lit (.int .i64 x5_1))] ∧ Box (.ptr i4 0) [v0_0, v0_1] S) ?_ ?_ ?_)
    · exact ⟨Nat.le_refl _, _, _, H, ⟨rfl, rfl, rfl, trivial⟩, h3⟩
    ·
     rintro tm S ⟨_, _, _, H, -⟩
     simp [spec_SystemValid.l1] at H
    ·
     rintro n2 ih2 tm S ⟨hle, x5_1, i4, H, hh, h7⟩
     simp only [spec_SystemValid.l1] at H
     rw [hh.eq]
     refine Evr.seq (Evr.sr rfl (Opl.p1 (n := Opl.p1 (v := .ptr i4 1) (n := Opl.ldb (v := v0_1) h7 rfl T24 rfl rfl rfl rfl (Opl.len (xs := l0_1) (by exact hv0_1) K24 rfl rfl rfl rfl (Opl.p1 (n := Opl.nil ?_)))))))
     by_cases c5 : x5_1 < (l0_1.length : Int)
     case neg =>
      rw [if_neg c5] at H
      have e8 : (decide (x5_1 < (l0_1.length : Int))) = false := by simpa using c5
      try rw [e8]
      refine Evr.condF rfl (Evr.exit rfl (Evr.sr rfl (Opl.p1 (n := Opl.p1 (n := Opl.p1 (n := Opl.nil ?_))))))
      obtain rfl := sinj H
      refine Evr.ret1 Try.func27 rfl ?_
      show (.lit (.bool (decide (x3_1 ≤ 400))) : PV) = _
      first | rfl | (simp only [go_sem]; rfl)
     rw [if_pos c5] at H
     have e5 : (decide (x5_1 < (l0_1.length : Int))) = true := by simpa using c5
     try rw [e5]
     refine Evr.condT rfl (Evr.skip (Evr.seq (Evr.block (Evr.seq (Evr.regionD rfl (by kernel_rfl) (Opl.p1 (v := .ptr i4 1) (n := Opl.ldb (v := v0_1) h7 rfl T24 rfl rfl rfl rfl (Opl.p1 (n := ?_)))))))))
     obtain ⟨c6, H⟩ := peel H
     refine Opl.idx (M := cIRule) (xs := l0_1) (j := x5_1) zIRule (by exact hv0_1) rfl (by omega) (by omega) K24 Z106 rfl rfl ?_
     rintro p4 q4 h8
     obtain ⟨pv1, pv2, pv3, rfl, h9, h10, h11⟩ := cIRule_R (x := (rd_IRule l0_1 x5_1)) h8
     refine Opl.lda (.agg [pv1, pv2, pv3]) rfl T106 rfl rfl rfl rfl (Opl.p1 (v := .ptr i4 0) (n := Opl.ldb (v := v0_0) h7 rfl T23 rfl rfl rfl rfl (Opl.len (xs := l0_0) (by exact hv0_0) K23 rfl rfl rfl rfl ?_)))
     obtain ⟨t443, h_t443, H⟩ := obs H
     refine Opl.callc (spec_l2Rule.ev h9 h10 h11 h_t443) rfl rfl rfl rfl ⟨(.aggL ⟨h9.plain, h10.plain, h11.plain, trivial⟩), (.lit _), trivial⟩ (by decide) (Opl.p1 (n := Opl.nil ?_))
     by_cases c7 : t443 = true
     case neg =>
      rw [if_neg c7] at H
      have e7 : (!t443) = true := by simpa using c7
      try rw [e7]
      refine Evr.condT rfl (Evr.sr rfl (Opl.p1 (n := Opl.nil ?_)))
      obtain rfl := sinj H
      refine Evr.ret1 Try.func27 rfl ?_
      show (.lit (.bool false) : PV) = _
      first | rfl | (simp only [go_sem]; rfl)
     rw [if_pos c7] at H
     have e6 : (!t443) = false := by simpa using c7
     try rw [e6]
     refine Evr.condF rfl (Evr.skip (Evr.inBlock (Evr.regionN rfl (Opl.p1 (n := Opl.add (k := .i64) (a := x5_1) (b := 1) K3 rfl rfl rfl rfl (Opl.one (v := .lit (.int .i64 (wrap64 (x5_1 + 1)))) rfl rfl rfl (Opl.nil ?_)))))))
     exact ih2 _ (by omega) _ _ ⟨by omega, _, _, H, ⟨rfl, rfl, rfl, trivial⟩, h7⟩
   rw [if_pos c2] at H
   have e1 : (decide (x4_1 < (l0_0.length : Int))) = true := by simpa using c2
   try rw [e1]
   refine Evr.condT rfl (Evr.skip (Evr.seq (Evr.block (Evr.seq (Evr.sr rfl (Opl.p1 (v := .ptr i3 0) (n := Opl.ldb (v := v0_0) h3 rfl T23 rfl rfl rfl rfl (Opl.p1 (n := ?_)))))))))
   obtain ⟨c3, H⟩ := peel H
   refine Opl.idx (M := cIVar) (xs := l0_0) (j := x4_1) zIVar (by exact hv0_0) rfl (by omega) (by omega) K23 Z101 rfl rfl ?_
   rintro p1 q1 h4
   obtain rfl := cIVar_R (x := (rd_IVar l0_0 x4_1)) h4
   refine Opl.lda (.agg [.lit (.int .i64 ((rd_IVar l0_0 x4_1).f0)), .lit (.int .i64 ((rd_IVar l0_0 x4_1).f1)), .lit (.int .i64 ((rd_IVar l0_0 x4_1).f2))]) rfl T101 rfl rfl rfl rfl ?_
   obtain ⟨t439, h_t439, H⟩ := obs H
   refine Opl.callc (spec_l2Var.ev h_t439) rfl rfl rfl rfl ⟨(.aggL ⟨(.lit _), (.lit _), (.lit _), trivial⟩), trivial⟩ (by decide) (Opl.p1 (n := Opl.nil ?_))
   by_cases c4 : t439 = true
   case neg =>
    rw [if_neg c4] at H
    have e3 : (!t439) = true := by simpa using c4
    try rw [e3]
    refine Evr.condT rfl (Evr.sr rfl (Opl.p1 (n := Opl.nil ?_)))
    obtain rfl := sinj H
    refine Evr.ret1 Try.func27 rfl ?_
    show (.lit (.bool false) : PV) = _
    first | rfl | (simp only [go_sem]; rfl)
   rw [if_pos c4] at H
   have e2 : (!t439) = false := by simpa using c4
   try rw [e2]
   refine Evr.condF rfl (Evr.skip (Evr.regionD rfl (by kernel_rfl) (Opl.p1 (n := Opl.p1 (v := .ptr i3 0) (n := Opl.ldb (v := v0_0) h3 rfl T23 rfl rfl rfl rfl (Opl.p1 (n := Opl.idx (M := cIVar) (xs := l0_0) (j := x4_1) zIVar (by exact hv0_0) rfl (by omega) (by omega) K23 Z101 rfl rfl ?_)))))))
   rintro p2 q2 h5
   obtain rfl := cIVar_R (x := (rd_IVar l0_0 x4_1)) h5
   refine Opl.p1 (v := .fel ((.lit (.int .i64 ((rd_IVar l0_0 x4_1).f1))) :: (.lit (.int .i64 ((rd_IVar l0_0 x4_1).f2))) :: q2)) (n := Opl.lda (.lit (.int .i64 ((rd_IVar l0_0 x4_1).f1))) rfl T3 rfl rfl rfl rfl (Opl.p1 (v := .ptr i3 0) (n := Opl.ldb (v := v0_0) h3 rfl T23 rfl rfl rfl rfl (Opl.p1 (n := Opl.idx (M := cIVar) (xs := l0_0) (j := x4_1) zIVar (by exact hv0_0) rfl (by omega) (by omega) K23 Z101 rfl rfl ?_)))))
   rintro p3 q3 h6
   obtain rfl := cIVar_R (x := (rd_IVar l0_0 x4_1)) h6
   refine Opl.p1 (v := .fel ((.lit (.int .i64 ((rd_IVar l0_0 x4_1).f0))) :: (.lit (.int .i64 ((rd_IVar l0_0 x4_1).f1))) :: (.lit (.int .i64 ((rd_IVar l0_0 x4_1).f2))) :: q3)) (n := Opl.lda (.lit (.int .i64 ((rd_IVar l0_0 x4_1).f0))) rfl T3 rfl rfl rfl rfl (Opl.subi (k := .i64) (a := ((rd_IVar l0_0 x4_1).f1)) (b := ((rd_IVar l0_0 x4_1).f0)) K3 rfl rfl rfl rfl (Opl.add (k := .i64) (a := (wrap64 (((rd_IVar l0_0 x4_1).f1) - ((rd_IVar l0_0 x4_1).f0)))) (b := 1) K3 rfl rfl rfl rfl (Opl.mul (k := .i64) (a := x3_1) (b := (wrap64 ((wrap64 (((rd_IVar l0_0 x4_1).f1) - ((rd_IVar l0_0 x4_1).f0))) + 1))) K3 rfl rfl rfl rfl (Opl.one (v := .lit (.int .i64 (wrap64 (x3_1 * (wrap64 ((wrap64 (((rd_IVar l0_0 x4_1).f1) - ((rd_IVar l0_0 x4_1).f0))) + 1)))))) rfl rfl rfl (Opl.nil (Evr.inBlock (Evr.regionN rfl (Opl.one (v := .lit (.int .i64 x4_1)) rfl rfl rfl (Opl.add (k := .i64) (a := x4_1) (b := 1) K3 rfl rfl rfl rfl (Opl.one (v := .lit (.int .i64 (wrap64 (x4_1 + 1)))) rfl rfl rfl (Opl.nil ?_))))))))))))
   exact ih1 _ (by omega) _ _ ⟨by omega, _, _, _, H, ⟨rfl, rfl, rfl, trivial⟩, h3⟩
 ·
  refine Evr.regionN rfl (Opl.p1 (v := .ptr i1 0) (n := Opl.ldb (v := v0_0) h1 rfl T23 rfl rfl rfl rfl (Opl.len (xs := l0_0) (by exact hv0_0) K23 rfl rfl rfl rfl ?_)))
  obtain ⟨t437, h_t437, H⟩ := obs H
  refine Opl.callc (spec_l1In.ev h_t437) rfl rfl rfl rfl ⟨(.lit _), (.lit _), (.lit _), trivial⟩ (by decide) (Opl.p1 (n := Opl.p1 (n := ?_)))
  by_cases c8 : t437 = true
  case neg =>
   rw [if_neg c8] at H
   have e10 : (!t437) = true := by simpa using c8
   try rw [e10]
   refine Opl.sk4 rfl rfl rfl rfl (Opl.p1 (n := Opl.nil ?_))
   exact hk1 _ _ ⟨_, _, _, H, ⟨rfl, (by first | rfl | (show PV.lit (.bool _) = _; congr 2; simp_all)), trivial⟩, h1⟩
  rw [if_pos c8] at H
  have e9 : (!t437) = false := by simpa using c8
  try rw [e9]
  refine Opl.p1 (v := .ptr i1 1) (n := Opl.ldb (v := v0_1) h1 rfl T24 rfl rfl rfl rfl (Opl.len (xs := l0_1) (by exact hv0_1) K24 rfl rfl rfl rfl (Opl.p1 (n := Opl.p1 (n := Opl.nil ?_)))))
  exact hk1 _ _ ⟨_, _, _, H, ⟨rfl, (by first | rfl | (show PV.lit (.bool _) = _; congr 2; simp_all)), trivial⟩, h1⟩
theorem spec_l2Const.ev {a0 : Int} {r : (Int × Int × Int × Int)} (H : spec_l2Const.f a0 = some r) : Ret Try.prog 126 [.lit (.int .i64 a0)] fun v S => Out (fun q => ∃ q1 q2 q3 q4, q = .agg [q1, q2, q3, q4] ∧ q1 = .lit (.int .i64 r.1) ∧ q2 = .lit (.int .i64 r.2.1) ∧ q3 = .lit (.int .i64 r.2.2.1) ∧ q4 = .lit (.int .i64 r.2.2.2)) v S := by
 unfold spec_l2Const.f at H
 refine Ret.intro Try.func126 rfl (Nat.le_of_ble_eq_true rfl) rfl ?_
 rw [tm1]
 refine Evr.sr rfl (Opl.alloc T128 rfl rfl rfl ?_)
 rintro i1 S h1 u1 w1
 refine Opl.nil (Evr.sr rfl (Opl.p1 (n := Opl.p1 (v := .agg [.lit (.int .i64 0), .lit (.int .i64 a0), .lit (.int .i64 0), .lit (.int .i64 0)]) (n := Opl.stb (vs := [.lit (.int .i64 0), .lit (.int .i64 a0), .lit (.int .i64 0), .lit (.int .i64 0)]) h1 rfl rfl Z128 rfl (Nat.le_of_ble_eq_true rfl) rfl rfl rfl rfl ?_))))
 rintro S (h2 : Box (.ptr i1 0) [.lit (.int .i64 0), .lit (.int .i64 a0), .lit (.int .i64 0), .lit (.int .i64 0)] _) u2
 refine Opl.nil ?_
 obtain rfl := sinj H
 refine Evr.retb (v := .agg [.lit (.int .i64 0), .lit (.int .i64 a0), .lit (.int .i64 0), .lit (.int .i64 0)]) Try.func126 rfl h2 rfl T128 rfl ?_
 show Out _ (.agg [.lit (.int .i64 0), .lit (.int .i64 a0), .lit (.int .i64 0), .lit (.int .i64 0)]) _
 exact (.agg4 .lit .lit .lit .lit)
theorem spec_l40Rd_pick.evb {k : Nat} {S0 : Sto} {l0_0 : List Int} {a0_1 : Int} {i0 : Abs.Id} {q0 : PV} (hq0 : Sl (cInt .u8) l0_0 q0) (hb0 : Box (.ptr i0 0) [q0, .lit (.int .i64 a0_1)] S0) {a1 : Int} {r : Int × Int} (H : spec_l40Rd_pick.f k l0_0 a0_1 a1 = some r) : RetS Try.prog 70 [.ptr i0 0, .lit (.int .i64 a1)] S0 fun v S => v = .lit (.int .i64 r.2) ∧ Box (.ptr i0 0) [q0, .lit (.int .i64 r.1)] S ∧ Same S0 S [i0] := by
 have hs0 : Same S0 S0 [i0] := .refl _ _
 unfold spec_l40Rd_pick.f at H
 refine RetS.intro Try.func70 rfl (Nat.le_of_ble_eq_true rfl) rfl ?_
 rw [tm2]
 refine Evr.sr rfl (Opl.p1 (n := Opl.nil (Evr.sr rfl (Opl.p1 (n := Opl.p1 (n := Opl.p1 (v := .ptr i0 0) (n := Opl.p1 (v := .ptr i0 1) (n := Opl.ldb (v := .lit (.int .i64 a0_1)) hb0 rfl T3 rfl rfl rfl rfl (Opl.add (k := .i64) (a := a0_1) (b := 1) K3 rfl rfl rfl rfl (Opl.p1 (v := .ptr i0 0) (n := Opl.p1 (v := .ptr i0 1) (n := Opl.stb (vs := [.lit (.int .i64 (wrap64 (a0_1 + 1)))]) hb0 rfl rfl Z3 rfl (Nat.le_of_ble_eq_true rfl) rfl rfl rfl rfl ?_))))))))))))
 rintro S (h1 : Box (.ptr i0 0) [q0, .lit (.int .i64 (wrap64 (a0_1 + 1)))] _) u1
 have h2 := u1.sameP hs0 OutT.box
 refine Opl.nil (Evr.seq (Evr.sr rfl (Opl.one (v := .lit (.int .i64 a1)) rfl rfl rfl (Opl.p1 (n := Opl.one (v := .lit (.bool (decide (a1 < 1)))) rfl rfl rfl ?_)))))
 by_cases c1 : a1 < 1
 case pos =>
  rw [if_pos c1] at H
  have e1 : (decide (a1 < 1)) = true := by simpa using c1
  try rw [e1]
  refine Opl.sk4 rfl rfl rfl rfl (Opl.sk2 rfl rfl (Opl.p1 (n := Opl.nil (Evr.condT rfl (Evr.sr rfl (Opl.one (v := .lit (.int .i64 0)) rfl rfl rfl (Opl.nil ?_)))))))
  obtain rfl := sinj H
  refine Evr.ret1 Try.func70 rfl ?_
  exact ⟨(by first | rfl | (simp only [go_sem]; rfl)), h1, h2⟩
 rw [if_neg c1] at H
 have e2 : (decide (a1 < 1)) = false := by simpa using c1
 try rw [e2]
 refine Opl.one (v := .ptr i0 0) rfl rfl rfl (Opl.p1 (v := .ptr i0 0) (n := Opl.p1 (v := .ptr i0 0) (n := Opl.ldb (v := q0) h1 rfl T22 rfl rfl rfl rfl (Opl.len (xs := l0_0) (by exact hq0) K22 rfl rfl rfl rfl (Opl.p1 (n := Opl.p1 (n := Opl.nil ?_)))))))
 by_cases c2 : (l0_0.length : Int) = 0
 case pos =>
  rw [if_pos c2] at H
  have e3 : ((l0_0.length : Int) == 0) = true := by simpa using c2
  try rw [e3]
  refine Evr.condT rfl (Evr.sr rfl (Opl.one (v := .lit (.int .i64 0)) rfl rfl rfl (Opl.nil ?_)))
  obtain rfl := sinj H
  refine Evr.ret1 Try.func70 rfl ?_
  exact ⟨(by first | rfl | (simp only [go_sem]; rfl)), h1, h2⟩
 rw [if_neg c2] at H
 have e4 : ((l0_0.length : Int) == 0) = false := by simpa using c2
 try rw [e4]
 refine Evr.condF rfl (Evr.skip (Evr.sr rfl (Opl.one (v := .ptr i0 0) rfl rfl rfl (Opl.p1 (v := .ptr i0 0) (n := Opl.p1 (v := .ptr i0 1) (n := Opl.ldb (v := .lit (.int .i64 (wrap64 (a0_1 + 1)))) h1 rfl T3 rfl rfl rfl rfl (Opl.subi (k := .i64) (a := (wrap64 (a0_1 + 1))) (b := 1) K3 rfl rfl rfl rfl (Opl.one (v := .lit (.int .i64 (wrap64 ((wrap64 (a0_1 + 1)) - 1)))) rfl rfl rfl (Opl.nil (Evr.seq (Evr.sr rfl (Opl.one (v := .lit (.int .i64 (wrap64 ((wrap64 (a0_1 + 1)) - 1)))) rfl rfl rfl (Opl.one (v := .ptr i0 0) rfl rfl rfl (Opl.p1 (v := .ptr i0 0) (n := Opl.p1 (v := .ptr i0 0) (n := Opl.ldb (v := q0) h1 rfl T22 rfl rfl rfl rfl (Opl.len (xs := l0_0) (by exact hq0) K22 rfl rfl rfl rfl (Opl.lss (a := (wrap64 ((wrap64 (a0_1 + 1)) - 1))) (b := (l0_0.length : Int)) K3 rfl rfl rfl rfl (Opl.nil ?_)))))))))))))))))))
 by_cases c3 : (wrap64 ((wrap64 (a0_1 + 1)) - 1)) < (l0_0.length : Int)
 case pos =>
  rw [if_pos c3] at H
  have e5 : (decide ((wrap64 ((wrap64 (a0_1 + 1)) - 1)) < (l0_0.length : Int))) = true := by simpa using c3
  try rw [e5]
  refine Evr.condT rfl (Evr.sr rfl (Opl.one (v := .ptr i0 0) rfl rfl rfl (Opl.p1 (v := .ptr i0 0) (n := Opl.p1 (v := .ptr i0 0) (n := Opl.ldb (v := q0) h1 rfl T22 rfl rfl rfl rfl (Opl.one (v := .lit (.int .i64 (wrap64 ((wrap64 (a0_1 + 1)) - 1)))) rfl rfl rfl ?_))))))
  obtain ⟨c4, H⟩ := peel H
  obtain ⟨c5, H⟩ := peel H
  obtain ⟨c6, H⟩ := peel H
  refine Opl.idx (M := (cInt .u8)) (xs := l0_0) (j := (wrap64 ((wrap64 (a0_1 + 1)) - 1))) (0 : Int) (by exact hq0) rfl (by omega) (by omega) K22 Z5 rfl rfl ?_
  rintro p1 q1 h3
  obtain rfl : p1 = [.lit (.int .u8 (rd l0_0 (wrap64 ((wrap64 (a0_1 + 1)) - 1))))] := h3
  refine Opl.lda (.lit (.int .u8 (rd l0_0 (wrap64 ((wrap64 (a0_1 + 1)) - 1))))) rfl T5 rfl rfl rfl rfl (Opl.p1 (v := .lit (.int .i64 (wrap64 (rd l0_0 (wrap64 ((wrap64 (a0_1 + 1)) - 1)))))) (n := Opl.one (v := .lit (.int .i64 a1)) rfl rfl rfl (Opl.one (v := .lit (.int .i64 (Int.tmod (wrap64 (rd l0_0 (wrap64 ((wrap64 (a0_1 + 1)) - 1)))) a1))) rfl rfl (by simp only [go_sem]; rw [if_neg (by first | assumption | decide | omega)]; rfl) (Opl.one (v := .lit (.int .i64 (Int.tmod (wrap64 (rd l0_0 (wrap64 ((wrap64 (a0_1 + 1)) - 1)))) a1))) rfl rfl rfl (Opl.nil ?_)))))
  obtain rfl := sinj H
  refine Evr.ret1 Try.func70 rfl ?_
  exact ⟨(by first | rfl | (simp only [go_sem]; rfl)), h1, h2⟩
 rw [if_neg c3] at H
 have e6 : (decide ((wrap64 ((wrap64 (a0_1 + 1)) - 1)) < (l0_0.length : Int))) = false := by simpa using c3
 try rw [e6]
 refine Evr.condF rfl (Evr.skip (Evr.seq (Evr.regionD rfl (by kernel_rfl) (Opl.one (v := .ptr i0 0) rfl rfl rfl (Opl.p1 (v := .ptr i0 0) (n := Opl.p1 (v := .ptr i0 0) (n := Opl.ldb (v := q0) h1 rfl T22 rfl rfl rfl rfl (Opl.one (v := .lit (.int .i64 (wrap64 ((wrap64 (a0_1 + 1)) - 1)))) rfl rfl rfl (Opl.one (v := .ptr i0 0) rfl rfl rfl (Opl.p1 (v := .ptr i0 0) (n := Opl.p1 (v := .ptr i0 0) (n := Opl.ldb (v := q0) h1 rfl T22 rfl rfl rfl rfl (Opl.len (xs := l0_0) (by exact hq0) K22 rfl rfl rfl rfl ?_)))))))))))))
 obtain ⟨c7, H⟩ := peel H
 obtain ⟨c8, H⟩ := peel H
 obtain ⟨c9, H⟩ := peel H
 obtain ⟨c10, H⟩ := peel H
 obtain ⟨c11, H⟩ := peel H
 obtain ⟨c12, H⟩ := peel H
 obtain ⟨c13, H⟩ := peel H
 obtain ⟨c14, H⟩ := peel H
 refine Opl.one (v := .lit (.int .i64 (Int.tmod (wrap64 ((wrap64 (a0_1 + 1)) - 1)) (l0_0.length : Int)))) rfl rfl (by simp only [go_sem]; rw [if_neg (by first | assumption | decide | omega)]; rfl) (Opl.idx (M := (cInt .u8)) (xs := l0_0) (j := (Int.tmod (wrap64 ((wrap64 (a0_1 + 1)) - 1)) (l0_0.length : Int))) (0 : Int) (by exact hq0) rfl (by omega) (by omega) K22 Z5 rfl rfl ?_)
 rintro p2 q2 h4
 obtain rfl : p2 = [.lit (.int .u8 (rd l0_0 (Int.tmod (wrap64 ((wrap64 (a0_1 + 1)) - 1)) (l0_0.length : Int))))] := h4
 refine Opl.lda (.lit (.int .u8 (rd l0_0 (Int.tmod (wrap64 ((wrap64 (a0_1 + 1)) - 1)) (l0_0.length : Int))))) rfl T5 rfl rfl rfl rfl (Opl.p1 (v := .lit (.int .i64 (wrap64 (rd l0_0 (Int.tmod (wrap64 ((wrap64 (a0_1 + 1)) - 1)) (l0_0.length : Int)))))) (n := Opl.mul (k := .i64) (a := wrap64 (rd l0_0 (Int.tmod (wrap64 ((wrap64 (a0_1 + 1)) - 1)) (l0_0.length : Int)))) (b := 131) K3 rfl rfl rfl rfl (Opl.one (v := .ptr i0 0) rfl rfl rfl (Opl.p1 (v := .ptr i0 0) (n := Opl.p1 (v := .ptr i0 0) (n := Opl.ldb (v := q0) h1 rfl T22 rfl rfl rfl rfl (Opl.one (v := .lit (.int .i64 (wrap64 ((wrap64 (a0_1 + 1)) - 1)))) rfl rfl rfl (Opl.mul (k := .i64) (a := (wrap64 ((wrap64 (a0_1 + 1)) - 1))) (b := 7) K3 rfl rfl rfl rfl (Opl.add (k := .i64) (a := (wrap64 ((wrap64 ((wrap64 (a0_1 + 1)) - 1)) * 7))) (b := 3) K3 rfl rfl rfl rfl (Opl.one (v := .ptr i0 0) rfl rfl rfl (Opl.p1 (v := .ptr i0 0) (n := Opl.p1 (v := .ptr i0 0) (n := Opl.ldb (v := q0) h1 rfl T22 rfl rfl rfl rfl (Opl.len (xs := l0_0) (by exact hq0) K22 rfl rfl rfl rfl (Opl.one (v := .lit (.int .i64 (Int.tmod (wrap64 ((wrap64 ((wrap64 ((wrap64 (a0_1 + 1)) - 1)) * 7)) + 3)) (l0_0.length : Int)))) rfl rfl (by simp only [go_sem]; rw [if_neg (by first | assumption | decide | omega)]; rfl) (Opl.idx (M := (cInt .u8)) (xs := l0_0) (j := (Int.tmod (wrap64 ((wrap64 ((wrap64 ((wrap64 (a0_1 + 1)) - 1)) * 7)) + 3)) (l0_0.length : Int))) (0 : Int) (by exact hq0) rfl (by omega) (by omega) K22 Z5 rfl rfl ?_))))))))))))))))
 rintro p3 q3 h5
 obtain rfl : p3 = [.lit (.int .u8 (rd l0_0 (Int.tmod (wrap64 ((wrap64 ((wrap64 ((wrap64 (a0_1 + 1)) - 1)) * 7)) + 3)) (l0_0.length : Int))))] := h5
 refine Opl.lda (.lit (.int .u8 (rd l0_0 (Int.tmod (wrap64 ((wrap64 ((wrap64 ((wrap64 (a0_1 + 1)) - 1)) * 7)) + 3)) (l0_0.length : Int))))) rfl T5 rfl rfl rfl rfl (Opl.p1 (v := .lit (.int .i64 (wrap64 (rd l0_0 (Int.tmod (wrap64 ((wrap64 ((wrap64 ((wrap64 (a0_1 + 1)) - 1)) * 7)) + 3)) (l0_0.length : Int)))))) (n := Opl.mul (k := .i64) (a := wrap64 (rd l0_0 (Int.tmod (wrap64 ((wrap64 ((wrap64 ((wrap64 (a0_1 + 1)) - 1)) * 7)) + 3)) (l0_0.length : Int)))) (b := 1117) K3 rfl rfl rfl rfl (Opl.add (k := .i64) (a := (wrap64 ((wrap64 (rd l0_0 (Int.tmod (wrap64 ((wrap64 (a0_1 + 1)) - 1)) (l0_0.length : Int)))) * 131))) (b := (wrap64 ((wrap64 (rd l0_0 (Int.tmod (wrap64 ((wrap64 ((wrap64 ((wrap64 (a0_1 + 1)) - 1)) * 7)) + 3)) (l0_0.length : Int)))) * 1117))) K3 rfl rfl rfl rfl (Opl.one (v := .lit (.int .i64 (wrap64 ((wrap64 (a0_1 + 1)) - 1)))) rfl rfl rfl (Opl.mul (k := .i64) (a := (wrap64 ((wrap64 (a0_1 + 1)) - 1))) (b := 29) K3 rfl rfl rfl rfl (Opl.add (k := .i64) (a := (wrap64 ((wrap64 ((wrap64 (rd l0_0 (Int.tmod (wrap64 ((wrap64 (a0_1 + 1)) - 1)) (l0_0.length : Int)))) * 131)) + (wrap64 ((wrap64 (rd l0_0 (Int.tmod (wrap64 ((wrap64 ((wrap64 ((wrap64 (a0_1 + 1)) - 1)) * 7)) + 3)) (l0_0.length : Int)))) * 1117))))) (b := (wrap64 ((wrap64 ((wrap64 (a0_1 + 1)) - 1)) * 29))) K3 rfl rfl rfl rfl (Opl.one (v := .lit (.int .i64 (wrap64 ((wrap64 (a0_1 + 1)) - 1)))) rfl rfl rfl (Opl.one (v := .ptr i0 0) rfl rfl rfl (Opl.p1 (v := .ptr i0 0) (n := Opl.p1 (v := .ptr i0 0) (n := Opl.ldb (v := q0) h1 rfl T22 rfl rfl rfl rfl (Opl.len (xs := l0_0) (by exact hq0) K22 rfl rfl rfl rfl (Opl.one (v := .lit (.int .i64 (wrap64 (Int.tdiv (wrap64 ((wrap64 (a0_1 + 1)) - 1)) (l0_0.length : Int))))) rfl rfl (by simp only [go_sem]; rw [if_neg (by first | assumption | decide | omega)]; rfl) (Opl.mul (k := .i64) (a := (wrap64 (Int.tdiv (wrap64 ((wrap64 (a0_1 + 1)) - 1)) (l0_0.length : Int)))) (b := 53) K3 rfl rfl rfl rfl (Opl.add (k := .i64) (a := (wrap64 ((wrap64 ((wrap64 ((wrap64 (rd l0_0 (Int.tmod (wrap64 ((wrap64 (a0_1 + 1)) - 1)) (l0_0.length : Int)))) * 131)) + (wrap64 ((wrap64 (rd l0_0 (Int.tmod (wrap64 ((wrap64 ((wrap64 ((wrap64 (a0_1 + 1)) - 1)) * 7)) + 3)) (l0_0.length : Int)))) * 1117)))) + (wrap64 ((wrap64 ((wrap64 (a0_1 + 1)) - 1)) * 29))))) (b := (wrap64 ((wrap64 (Int.tdiv (wrap64 ((wrap64 (a0_1 + 1)) - 1)) (l0_0.length : Int))) * 53))) K3 rfl rfl rfl rfl (Opl.one (v := .lit (.int .i64 (wrap64 ((wrap64 ((wrap64 ((wrap64 ((wrap64 (rd l0_0 (Int.tmod (wrap64 ((wrap64 (a0_1 + 1)) - 1)) (l0_0.length : Int)))) * 131)) + (wrap64 ((wrap64 (rd l0_0 (Int.tmod (wrap64 ((wrap64 ((wrap64 ((wrap64 (a0_1 + 1)) - 1)) * 7)) + 3)) (l0_0.length : Int)))) * 1117)))) + (wrap64 ((wrap64 ((wrap64 (a0_1 + 1)) - 1)) * 29)))) + (wrap64 ((wrap64 (Int.tdiv (wrap64 ((wrap64 (a0_1 + 1)) - 1)) (l0_0.length : Int))) * 53)))))) rfl rfl rfl (Opl.nil (Evr.sr rfl (Opl.one (v := .lit (.int .i64 (wrap64 ((wrap64 ((wrap64 ((wrap64 ((wrap64 (rd l0_0 (Int.tmod (wrap64 ((wrap64 (a0_1 + 1)) - 1)) (l0_0.length : Int)))) * 131)) + (wrap64 ((wrap64 (rd l0_0 (Int.tmod (wrap64 ((wrap64 ((wrap64 ((wrap64 (a0_1 + 1)) - 1)) * 7)) + 3)) (l0_0.length : Int)))) * 1117)))) + (wrap64 ((wrap64 ((wrap64 (a0_1 + 1)) - 1)) * 29)))) + (wrap64 ((wrap64 (Int.tdiv (wrap64 ((wrap64 (a0_1 + 1)) - 1)) (l0_0.length : Int))) * 53)))))) rfl rfl rfl (Opl.one (v := .lit (.int .i64 (wrap64 ((wrap64 ((wrap64 ((wrap64 ((wrap64 (rd l0_0 (Int.tmod (wrap64 ((wrap64 (a0_1 + 1)) - 1)) (l0_0.length : Int)))) * 131)) + (wrap64 ((wrap64 (rd l0_0 (Int.tmod (wrap64 ((wrap64 ((wrap64 ((wrap64 (a0_1 + 1)) - 1)) * 7)) + 3)) (l0_0.length : Int)))) * 1117)))) + (wrap64 ((wrap64 ((wrap64 (a0_1 + 1)) - 1)) * 29)))) + (wrap64 ((wrap64 (Int.tdiv (wrap64 ((wrap64 (a0_1 + 1)) - 1)) (l0_0.length : Int))) * 53)))))) rfl rfl rfl (Opl.one (v := .lit (.int .i64 (wrap64 (Int.tdiv (wrap64 ((wrap64 ((wrap64 ((wrap64 ((wrap64 (rd l0_0 (Int.tmod (wrap64 ((wrap64 (a0_1 + 1)) - 1)) (l0_0.length : Int)))) * 131)) + (wrap64 ((wrap64 (rd l0_0 (Int.tmod (wrap64 ((wrap64 ((wrap64 ((wrap64 (a0_1 + 1)) - 1)) * 7)) + 3)) (l0_0.length : Int)))) * 1117)))) + (wrap64 ((wrap64 ((wrap64 (a0_1 + 1)) - 1)) * 29)))) + (wrap64 ((wrap64 (Int.tdiv (wrap64 ((wrap64 (a0_1 + 1)) - 1)) (l0_0.length : Int))) * 53)))) 64)))) rfl rfl (by simp only [go_sem]; rw [if_neg (by first | assumption | decide | omega)]; rfl) (Opl.one (v := .lit (.int .i64 (Go.bits .xor .i64 (wrap64 ((wrap64 ((wrap64 ((wrap64 ((wrap64 (rd l0_0 (Int.tmod (wrap64 ((wrap64 (a0_1 + 1)) - 1)) (l0_0.length : Int)))) * 131)) + (wrap64 ((wrap64 (rd l0_0 (Int.tmod (wrap64 ((wrap64 ((wrap64 ((wrap64 (a0_1 + 1)) - 1)) * 7)) + 3)) (l0_0.length : Int)))) * 1117)))) + (wrap64 ((wrap64 ((wrap64 (a0_1 + 1)) - 1)) * 29)))) + (wrap64 ((wrap64 (Int.tdiv (wrap64 ((wrap64 (a0_1 + 1)) - 1)) (l0_0.length : Int))) * 53)))) (wrap64 (Int.tdiv (wrap64 ((wrap64 ((wrap64 ((wrap64 ((wrap64 (rd l0_0 (Int.tmod (wrap64 ((wrap64 (a0_1 + 1)) - 1)) (l0_0.length : Int)))) * 131)) + (wrap64 ((wrap64 (rd l0_0 (Int.tmod (wrap64 ((wrap64 ((wrap64 ((wrap64 (a0_1 + 1)) - 1)) * 7)) + 3)) (l0_0.length : Int)))) * 1117)))) + (wrap64 ((wrap64 ((wrap64 (a0_1 + 1)) - 1)) * 29)))) + (wrap64 ((wrap64 (Int.tdiv (wrap64 ((wrap64 (a0_1 + 1)) - 1)) (l0_0.length : Int))) * 53)))) 64))))) rfl rfl (by simp only [go_sem]; simp only [Go.bits, w64]; rfl) (Opl.one (v := .lit (.int .i64 (Go.bits .xor .i64 (wrap64 ((wrap64 ((wrap64 ((wrap64 ((wrap64 (rd l0_0 (Int.tmod (wrap64 ((wrap64 (a0_1 + 1)) - 1)) (l0_0.length : Int)))) * 131)) + (wrap64 ((wrap64 (rd l0_0 (Int.tmod (wrap64 ((wrap64 ((wrap64 ((wrap64 (a0_1 + 1)) - 1)) * 7)) + 3)) (l0_0.length : Int)))) * 1117)))) + (wrap64 ((wrap64 ((wrap64 (a0_1 + 1)) - 1)) * 29)))) + (wrap64 ((wrap64 (Int.tdiv (wrap64 ((wrap64 (a0_1 + 1)) - 1)) (l0_0.length : Int))) * 53)))) (wrap64 (Int.tdiv (wrap64 ((wrap64 ((wrap64 ((wrap64 ((wrap64 (rd l0_0 (Int.tmod (wrap64 ((wrap64 (a0_1 + 1)) - 1)) (l0_0.length : Int)))) * 131)) + (wrap64 ((wrap64 (rd l0_0 (Int.tmod (wrap64 ((wrap64 ((wrap64 ((wrap64 (a0_1 + 1)) - 1)) * 7)) + 3)) (l0_0.length : Int)))) * 1117)))) + (wrap64 ((wrap64 ((wrap64 (a0_1 + 1)) - 1)) * 29)))) + (wrap64 ((wrap64 (Int.tdiv (wrap64 ((wrap64 (a0_1 + 1)) - 1)) (l0_0.length : Int))) * 53)))) 64))))) rfl rfl rfl (Opl.nil (Evr.sr rfl (Opl.one (v := .lit (.int .i64 (Go.bits .xor .i64 (wrap64 ((wrap64 ((wrap64 ((wrap64 ((wrap64 (rd l0_0 (Int.tmod (wrap64 ((wrap64 (a0_1 + 1)) - 1)) (l0_0.length : Int)))) * 131)) + (wrap64 ((wrap64 (rd l0_0 (Int.tmod (wrap64 ((wrap64 ((wrap64 ((wrap64 (a0_1 + 1)) - 1)) * 7)) + 3)) (l0_0.length : Int)))) * 1117)))) + (wrap64 ((wrap64 ((wrap64 (a0_1 + 1)) - 1)) * 29)))) + (wrap64 ((wrap64 (Int.tdiv (wrap64 ((wrap64 (a0_1 + 1)) - 1)) (l0_0.length : Int))) * 53)))) (wrap64 (Int.tdiv (wrap64 ((wrap64 ((wrap64 ((wrap64 ((wrap64 (rd l0_0 (Int.tmod (wrap64 ((wrap64 (a0_1 + 1)) - 1)) (l0_0.length : Int)))) * 131)) + (wrap64 ((wrap64 (rd l0_0 (Int.tmod (wrap64 ((wrap64 ((wrap64 ((wrap64 (a0_1 + 1)) - 1)) * 7)) + 3)) (l0_0.length : Int)))) * 1117)))) + (wrap64 ((wrap64 ((wrap64 (a0_1 + 1)) - 1)) * 29)))) + (wrap64 ((wrap64 (Int.tdiv (wrap64 ((wrap64 (a0_1 + 1)) - 1)) (l0_0.length : Int))) * 53)))) 64))))) rfl rfl rfl (Opl.one (v := .lit (.int .i64 a1)) rfl rfl rfl (Opl.one (v := .lit (.int .i64 (Int.tmod (Go.bits .xor .i64 (wrap64 ((wrap64 ((wrap64 ((wrap64 ((wrap64 (rd l0_0 (Int.tmod (wrap64 ((wrap64 (a0_1 + 1)) - 1)) (l0_0.length : Int)))) * 131)) + (wrap64 ((wrap64 (rd l0_0 (Int.tmod (wrap64 ((wrap64 ((wrap64 ((wrap64 (a0_1 + 1)) - 1)) * 7)) + 3)) (l0_0.length : Int)))) * 1117)))) + (wrap64 ((wrap64 ((wrap64 (a0_1 + 1)) - 1)) * 29)))) + (wrap64 ((wrap64 (Int.tdiv (wrap64 ((wrap64 (a0_1 + 1)) - 1)) (l0_0.length : Int))) * 53)))) (wrap64 (Int.tdiv (wrap64 ((wrap64 ((wrap64 ((wrap64 ((wrap64 (rd l0_0 (Int.tmod (wrap64 ((wrap64 (a0_1 + 1)) - 1)) (l0_0.length : Int)))) * 131)) + (wrap64 ((wrap64 (rd l0_0 (Int.tmod (wrap64 ((wrap64 ((wrap64 ((wrap64 (a0_1 + 1)) - 1)) * 7)) + 3)) (l0_0.length : Int)))) * 1117)))) + (wrap64 ((wrap64 ((wrap64 (a0_1 + 1)) - 1)) * 29)))) + (wrap64 ((wrap64 (Int.tdiv (wrap64 ((wrap64 (a0_1 + 1)) - 1)) (l0_0.length : Int))) * 53)))) 64))) a1))) rfl rfl (by simp only [go_sem]; rw [if_neg (by first | assumption | decide | omega)]; rfl) (Opl.one (v := .lit (.int .i64 (Int.tmod (Go.bits .xor .i64 (wrap64 ((wrap64 ((wrap64 ((wrap64 ((wrap64 (rd l0_0 (Int.tmod (wrap64 ((wrap64 (a0_1 + 1)) - 1)) (l0_0.length : Int)))) * 131)) + (wrap64 ((wrap64 (rd l0_0 (Int.tmod (wrap64 ((wrap64 ((wrap64 ((wrap64 (a0_1 + 1)) - 1)) * 7)) + 3)) (l0_0.length : Int)))) * 1117)))) + (wrap64 ((wrap64 ((wrap64 (a0_1 + 1)) - 1)) * 29)))) + (wrap64 ((wrap64 (Int.tdiv (wrap64 ((wrap64 (a0_1 + 1)) - 1)) (l0_0.length : Int))) * 53)))) (wrap64 (Int.tdiv (wrap64 ((wrap64 ((wrap64 ((wrap64 ((wrap64 (rd l0_0 (Int.tmod (wrap64 ((wrap64 (a0_1 + 1)) - 1)) (l0_0.length : Int)))) * 131)) + (wrap64 ((wrap64 (rd l0_0 (Int.tmod (wrap64 ((wrap64 ((wrap64 ((wrap64 (a0_1 + 1)) - 1)) * 7)) + 3)) (l0_0.length : Int)))) * 1117)))) + (wrap64 ((wrap64 ((wrap64 (a0_1 + 1)) - 1)) * 29)))) + (wrap64 ((wrap64 (Int.tdiv (wrap64 ((wrap64 (a0_1 + 1)) - 1)) (l0_0.length : Int))) * 53)))) 64))) a1))) rfl rfl rfl (Opl.nil ?_))))))))))))))))))))))))))))))
 obtain rfl := sinj H
 refine Evr.ret1 Try.func70 rfl ?_
 exact ⟨(by first | rfl | (simp only [go_sem]; rfl)), h1, h2⟩
theorem spec_l40Rd_num.evb {k : Nat} {S0 : Sto} {l0_0 : List Int} {a0_1 : Int} {i0 : Abs.Id} {q0 : PV} (hq0 : Sl (cInt .u8) l0_0 q0) (hb0 : Box (.ptr i0 0) [q0, .lit (.int .i64 a0_1)] S0) {l1 : List Int} {v1 : PV} (hv1 : Sl (cInt .i64) l1 v1) {r : Int × Int} (H : spec_l40Rd_num.f k l0_0 a0_1 l1 = some r) : RetS Try.prog 115 [.ptr i0 0, v1] S0 fun v S => v = .lit (.int .i64 r.2) ∧ Box (.ptr i0 0) [q0, .lit (.int .i64 r.1)] S ∧ Same S0 S [i0] := by
 have hs0 : Same S0 S0 [i0] := .refl _ _
 unfold spec_l40Rd_num.f at H
 refine RetS.intro Try.func115 rfl (Nat.le_of_ble_eq_true rfl) rfl ?_
 rw [tm2]
 refine Evr.sr rfl (Opl.p1 (n := Opl.nil (Evr.sr rfl (Opl.p1 (n := Opl.p1 (n := Opl.p1 (n := Opl.len (xs := l1) (by exact hv1) K27 rfl rfl rfl rfl ?_)))))))
 obtain ⟨r1, h_r1, H⟩ := obs H
 refine Opl.calls (spec_l40Rd_pick.evb hq0 hb0 h_r1) rfl rfl rfl rfl rfl ?_
 rintro _ S ⟨rfl, h1, u1⟩
 have h2 := u1.sameP hs0 OutT.box
 obtain ⟨c1, H⟩ := peel H
 obtain ⟨c2, H⟩ := peel H
 refine Opl.idx (M := (cInt .i64)) (xs := l1) (j := r1.2) (0 : Int) (by exact hv1) rfl (by omega) (by omega) K27 Z3 rfl rfl ?_
 rintro p1 q1 h3
 obtain rfl : p1 = [.lit (.int .i64 (rd l1 r1.2))] := h3
 refine Opl.lda (.lit (.int .i64 (rd l1 r1.2))) rfl T3 rfl rfl rfl rfl (Opl.p1 (n := Opl.nil ?_))
 obtain rfl := sinj H
 refine Evr.ret1 Try.func115 rfl ?_
 exact ⟨(by first | rfl | (simp only [go_sem]; rfl)), h1, h2⟩
theorem spec_l1Number.evb {k : Nat} {S0 : Sto} {l0_0 : List Int} {a0_1 : Int} {i0 : Abs.Id} {q0 : PV} (hq0 : Sl (cInt .u8) l0_0 q0) (hb0 : Box (.ptr i0 0) [q0, .lit (.int .i64 a0_1)] S0) {r : Int × Int} (H : spec_l1Number.f k l0_0 a0_1 = some r) : RetS Try.prog 164 [.ptr i0 0] S0 fun v S => v = .lit (.int .i64 r.2) ∧ Box (.ptr i0 0) [q0, .lit (.int .i64 r.1)] S ∧ Same S0 S [i0] := by
 have hs0 : Same S0 S0 [i0] := .refl _ _
 unfold spec_l1Number.f at H
 refine RetS.intro Try.func164 rfl (Nat.le_of_ble_eq_true rfl) rfl ?_
 rw [tm1]
 refine Evr.sr rfl (Opl.p1 (n := Opl.nil (Evr.sr rfl (Opl.p1 (n := Opl.p1 (n := ?_))))))
 obtain ⟨r1, h_r1, H⟩ := obs H
 refine Opl.calls (spec_l40Rd_pick.evb hq0 hb0 h_r1) rfl rfl rfl rfl rfl ?_
 rintro _ S ⟨rfl, h1, u1⟩
 have h2 := u1.sameP hs0 OutT.box
 refine Opl.p1 (n := ?_)
 obtain ⟨r2, h_r2, H⟩ := obs H
 refine Opl.calls (spec_l40Rd_pick.evb hq0 h1 h_r2) rfl rfl rfl rfl rfl ?_
 rintro _ S ⟨rfl, h3, u2⟩
 have h4 := u2.sameP h2 OutT.box
 refine Opl.p1 (n := ?_)
 obtain ⟨r3, h_r3, H⟩ := obs H
 refine Opl.calls (spec_l40Rd_pick.evb hq0 h3 h_r3) rfl rfl rfl rfl rfl ?_
 rintro _ S ⟨rfl, h5, u3⟩
 have h6 := u3.sameP h4 OutT.box
 refine Opl.subi (k := .i64) (a := r3.2) (b := 3) K3 rfl rfl rfl rfl (Opl.one (v := .ptr i0 0) rfl rfl rfl ?_)
 obtain ⟨r4, h_r4, H⟩ := obs H
 refine Opl.calls (spec_l40Rd_pick.evb hq0 h5 h_r4) rfl rfl rfl rfl rfl ?_
 rintro _ S ⟨rfl, h7, u4⟩
 have h8 := u4.sameP h6 OutT.box
 refine Opl.subi (k := .i64) (a := r4.2) (b := 100) K3 rfl rfl rfl rfl (Opl.lits (M := (cInt .i64)) (ys := [9999, (-9999), 5000, 100]) [.const (.int .i64 9999), .const (.int .i64 (-9999)), .const (.int .i64 5000), .const (.int .i64 100)] K27 T3 rfl rfl rfl (by exact ⟨rfl, rfl, rfl, rfl, trivial⟩) rfl (by decide) rfl rfl rfl ?_)
 rintro pv1 S h9 u5 w1
 have ap1 := w1.sameP h8
 have h10 := u5.sameP h8 ap1
 have ap2 := w1.box h7
 have h11 := u5.box h7 ap2
 refine Opl.one (v := .ptr i0 0) rfl rfl rfl ?_
 obtain ⟨r5, h_r5, H⟩ := obs H
 refine Opl.calls (spec_l40Rd_pick.evb hq0 h11 h_r5) rfl rfl rfl rfl rfl ?_
 rintro _ S ⟨rfl, h12, u6⟩
 have h13 := u6.sameP h10 OutT.box
 have h14 := u6.vec h9 (ap2.symm).pt
 obtain ⟨c1, H⟩ := peel H
 obtain ⟨c2, H⟩ := peel H
 refine Opl.idv (M := (cInt .i64)) (xs := [9999, (-9999), 5000, 100]) (j := r5.2) (v := pv1) h14 rfl rfl (by omega) (by omega) K27 Z3 rfl rfl ?_
 rintro d1 z1 q1 h15 h16
 refine Opl.ldv (M := (cInt .i64)) (xs := [9999, (-9999), 5000, 100]) (j := r5.2) (0 : Int) h15 h16 (by omega) (by omega) rfl T3 rfl rfl rfl ?_
 rintro p1 q2 h17
 obtain rfl : p1 = [.lit (.int .i64 (rd [9999, (-9999), 5000, 100] r5.2))] := h17
 refine ⟨.lit (.int .i64 (rd [9999, (-9999), 5000, 100] r5.2)), rfl, ?_⟩
 refine Opl.liti (M := (cInt .i64)) (ys := [r1.2, r2.2, (wrap64 (r3.2 - 3)), 1, 0, (wrap64 (r4.2 - 100)), (rd [9999, (-9999), 5000, 100] r5.2)]) [.tmp 5, .tmp 7, .tmp 10, .const (.int .i64 1), .const (.int .i64 0), .tmp 13, .tmp 18] K27 T3 rfl rfl rfl (by exact ⟨rfl, rfl, rfl, rfl, rfl, rfl, rfl, trivial⟩) rfl (by decide) rfl rfl ?_
 rintro pv3 h18
 obtain ⟨r6, h_r6, H⟩ := obs H
 refine Opl.calls (spec_l40Rd_num.evb hq0 h12 h18 h_r6) rfl rfl rfl rfl rfl ?_
 rintro _ S ⟨rfl, h19, u7⟩
 have h20 := u7.sameP h13 OutT.box
 have h21 := u7.vec h14 (ap2.symm).pt
 refine Opl.one (v := .lit (.int .i64 r6.2)) rfl rfl rfl (Opl.nil ?_)
 obtain rfl := sinj H
 refine Evr.ret1 Try.func164 rfl ?_
 exact ⟨(by first | rfl | (simp only [go_sem]; rfl)), h19, h20⟩
theorem spec_l1Pick.evv {k : Nat} {S0 : Sto} {l0_0 : List Int} {a0_1 : Int} {i0 : Abs.Id} {q0 : PV} (hq0 : Sl (cInt .u8) l0_0 q0) (hb0 : Box (.ptr i0 0) [q0, .lit (.int .i64 a0_1)] S0) {l1 : List Int} {v1 : PV} (hv1 : Vec (cInt .i64) l1 v1 S0) (pa1 : Ap v1 (.ptr i0 0)) {a2 : Int} {r : Int × Int} (H : spec_l1Pick.f k l0_0 a0_1 l1 a2 = some r) : RetS Try.prog 195 [.ptr i0 0, v1, .lit (.int .i64 a2)] S0 fun v S => v = .lit (.int .i64 r.2) ∧ Box (.ptr i0 0) [q0, .lit (.int .i64 r.1)] S ∧ Same S0 S [i0] := by
 have hs0 : Same S0 S0 [i0] := .refl _ _
 unfold spec_l1Pick.f at H
 refine RetS.intro Try.func195 rfl (Nat.le_of_ble_eq_true rfl) rfl ?_
 rw [tm3]
 refine Evr.sr rfl (Opl.p1 (n := Opl.nil (Evr.sr rfl (Opl.p1 (n := Opl.p1 (n := Opl.lenv (xs := l1) (by exact hv1) K27 rfl rfl rfl rfl ?_))))))
 obtain ⟨r1, h_r1, H⟩ := obs H
 refine Opl.calls (spec_l40Rd_pick.evb hq0 hb0 h_r1) rfl rfl rfl rfl rfl ?_
 rintro _ S ⟨rfl, h1, u1⟩
 have h2 := u1.sameP hs0 OutT.box
 have h3 := u1.vec hv1 (pa1).pt
 refine Opl.p1 (n := Opl.nil (Evr.seq (Evr.sr rfl (Opl.p1 (n := Opl.nil (Evr.block ?_))))))
 refine Evr.loop (Evr.rounds (n := k) (Inv := fun n tm S => n ≤ k ∧ ∃ (x8_1 : Int) (pv1 : PV), spec_l1Pick.l1 n x8_1 l0_0 l1 a2 r1 = some r ∧ Has tm [(0, .ptr i0 0), (1, pv1), (2, .lit (.int .i64 a2)), (7, .lit (.int .i64 r1.2)), (8, .lit (.int .i64 x8_1))] ∧ Box (.ptr i0 0) [q0, .lit (.int .i64 r1.1)] S ∧ Vec (cInt .i64) l1 pv1 S ∧ Same S0 S [i0] ∧ Ap (.ptr i0 0) pv1) ?_ ?_ ?_)
 · exact ⟨Nat.le_refl _, _, _, H, ⟨rfl, rfl, rfl, rfl, rfl, trivial⟩, h1, h3, h2, pa1.symm⟩
 ·
  rintro tm S ⟨_, _, _, H, -⟩
  simp [spec_l1Pick.l1] at H
 ·
  rintro n1 ih1 tm S ⟨hle, x8_1, pv1, H, hh, h4, h5, h6, ap1⟩
  simp only [spec_l1Pick.l1] at H
  rw [hh.eq]
  refine Evr.seq (Evr.sr rfl (Opl.p1 (n := Opl.p1 (n := Opl.lenv (xs := l1) (by exact h5) K27 rfl rfl rfl rfl (Opl.p1 (n := Opl.nil ?_))))))
  by_cases c1 : x8_1 < (l1.length : Int)
  case neg =>
   rw [if_neg c1] at H
   have e4 : (decide (x8_1 < (l1.length : Int))) = false := by simpa using c1
   try rw [e4]
   refine Evr.condF rfl (Evr.exit rfl (Evr.sr rfl (Opl.p1 (n := Opl.nil ?_))))
   obtain rfl := sinj H
   refine Evr.ret1 Try.func195 rfl ?_
   exact ⟨(by first | rfl | (simp only [go_sem]; rfl)), h4, h6⟩
  rw [if_pos c1] at H
  have e1 : (decide (x8_1 < (l1.length : Int))) = true := by simpa using c1
  try rw [e1]
  refine Evr.condT rfl (Evr.skip (Evr.seq (Evr.block (Evr.sr rfl (Opl.p1 (n := Opl.p1 (n := Opl.add (k := .i64) (a := r1.2) (b := x8_1) K3 rfl rfl rfl rfl (Opl.one (v := pv1) rfl rfl rfl (Opl.lenv (xs := l1) (by exact h5) K27 rfl rfl rfl rfl ?_)))))))))
  obtain ⟨c2, H⟩ := peel H
  obtain ⟨c3, H⟩ := peel H
  obtain ⟨c4, H⟩ := peel H
  refine Opl.one (v := .lit (.int .i64 (Int.tmod (wrap64 (r1.2 + x8_1)) (l1.length : Int)))) rfl rfl (by simp only [go_sem]; rw [if_neg (by first | assumption | decide | omega)]; rfl) (Opl.one (v := .lit (.int .i64 (Int.tmod (wrap64 (r1.2 + x8_1)) (l1.length : Int)))) rfl rfl rfl (Opl.nil (Evr.sr rfl (Opl.one (v := pv1) rfl rfl rfl (Opl.one (v := .lit (.int .i64 (Int.tmod (wrap64 (r1.2 + x8_1)) (l1.length : Int)))) rfl rfl rfl (Opl.idv (M := (cInt .i64)) (xs := l1) (j := (Int.tmod (wrap64 (r1.2 + x8_1)) (l1.length : Int))) (v := pv1) h5 rfl rfl (by omega) (by omega) K27 Z3 rfl rfl ?_))))))
  rintro d1 z1 q1 h7 h8
  refine Opl.ldv (M := (cInt .i64)) (xs := l1) (j := (Int.tmod (wrap64 (r1.2 + x8_1)) (l1.length : Int))) (0 : Int) h7 h8 (by omega) (by omega) rfl T3 rfl rfl rfl ?_
  rintro p1 q2 h9
  obtain rfl : p1 = [.lit (.int .i64 (rd l1 (Int.tmod (wrap64 (r1.2 + x8_1)) (l1.length : Int))))] := h9
  refine ⟨.lit (.int .i64 (rd l1 (Int.tmod (wrap64 (r1.2 + x8_1)) (l1.length : Int)))), rfl, ?_⟩
  refine Opl.one (v := .lit (.int .i64 a2)) rfl rfl rfl (Opl.eql (a := (rd l1 (Int.tmod (wrap64 (r1.2 + x8_1)) (l1.length : Int)))) (b := a2) K3 rfl rfl rfl rfl (Opl.nil ?_))
  by_cases c5 : (rd l1 (Int.tmod (wrap64 (r1.2 + x8_1)) (l1.length : Int))) = a2
  case neg =>
   rw [if_neg c5] at H
   have e3 : ((rd l1 (Int.tmod (wrap64 (r1.2 + x8_1)) (l1.length : Int))) == a2) = false := by simpa using c5
   try rw [e3]
   refine Evr.condF rfl (Evr.skip (Evr.inBlock (Evr.regionN rfl (Opl.one (v := .lit (.int .i64 x8_1)) rfl rfl rfl (Opl.add (k := .i64) (a := x8_1) (b := 1) K3 rfl rfl rfl rfl (Opl.one (v := .lit (.int .i64 (wrap64 (x8_1 + 1)))) rfl rfl rfl (Opl.nil ?_)))))))
   exact ih1 _ (by omega) _ _ ⟨by omega, _, _, H, ⟨rfl, rfl, rfl, rfl, rfl, trivial⟩, h4, h5, h6, ap1⟩
  rw [if_pos c5] at H
  have e2 : ((rd l1 (Int.tmod (wrap64 (r1.2 + x8_1)) (l1.length : Int))) == a2) = true := by simpa using c5
  try rw [e2]
  refine Evr.condT rfl (Evr.sr rfl (Opl.one (v := .lit (.int .i64 (Int.tmod (wrap64 (r1.2 + x8_1)) (l1.length : Int)))) rfl rfl rfl (Opl.one (v := .lit (.int .i64 (Int.tmod (wrap64 (r1.2 + x8_1)) (l1.length : Int)))) rfl rfl rfl (Opl.nil ?_))))
  obtain rfl := sinj H
  refine Evr.ret1 Try.func195 rfl ?_
  exact ⟨(by first | rfl | (simp only [go_sem]; rfl)), h4, h6⟩
theorem spec_l1Terms.evb {k : Nat} {S0 : Sto} {l0_0 : List Int} {a0_1 : Int} {i0 : Abs.Id} {q0 : PV} (hq0 : Sl (cInt .u8) l0_0 q0) (hb0 : Box (.ptr i0 0) [q0, .lit (.int .i64 a0_1)] S0) {a1 : Int} {a2 : Int} {a3 : Int} {r : Int × (List ITerm)} (H : spec_l1Terms.f k l0_0 a0_1 a1 a2 a3 = some r) : RetS Try.prog 163 [.ptr i0 0, .lit (.int .i64 a1), .lit (.int .i64 a2), .lit (.int .i64 a3)] S0 fun v S => Vec cITerm r.2 v S ∧ New S0 v ∧ Box (.ptr i0 0) [q0, .lit (.int .i64 r.1)] S ∧ Same S0 S [i0] := by
 have hs0 : Same S0 S0 [i0] := .refl _ _
 unfold spec_l1Terms.f at H
 refine RetS.intro Try.func163 rfl (Nat.le_of_ble_eq_true rfl) rfl ?_
 rw [tm4]
 refine Evr.sr rfl (Opl.p1 (n := Opl.nil (Evr.sr rfl (Opl.lits (M := cITerm) (ys := []) [] K66 T128 rfl rfl rfl trivial rfl (by decide) rfl rfl rfl ?_))))
 rintro pv1 S h1 u1 w1
 have ap1 := w1.sameP hs0
 have h2 := u1.sameP hs0 ap1
 have ap2 := w1.box hb0
 have h3 := u1.box hb0 ap2
 refine Opl.p1 (n := Opl.nil (Evr.sr rfl (Opl.lits (M := (cInt .i64)) (ys := []) [] K27 T3 rfl rfl rfl trivial rfl (by decide) rfl rfl rfl ?_)))
 rintro pv2 S h4 u2 w2
 have ap3 := w2.sameP h2
 have h5 := u2.sameP h2 ap3
 have ap4 := w2.box h3
 have h6 := u2.box h3 ap4
 have ap5 := w2.vec h1
 have h7 := u2.vec h1 ap5
 refine Opl.p1 (n := Opl.nil (Evr.seq (Evr.sr rfl (Opl.p1 (n := Opl.p1 (n := ?_))))))
 obtain ⟨r1, h_r1, H⟩ := obs H
 refine Opl.calls (spec_l40Rd_pick.evb hq0 h6 h_r1) rfl rfl rfl rfl rfl ?_
 rintro _ S ⟨rfl, h8, u3⟩
 have h9 := u3.sameP h5 OutT.box
 have h10 := u3.vec h7 (ap2.symm).pt
 have h11 := u3.vec h4 (ap4.symm).pt
 refine Opl.add (k := .i64) (a := 2) (b := r1.2) K3 rfl rfl rfl rfl (Opl.one (v := .lit (.int .i64 (wrap64 (2 + r1.2)))) rfl rfl rfl (Opl.nil (Evr.block ?_)))
 refine Evr.loop (Evr.rounds (n := k) (Inv := fun n tm S => n ≤ k ∧ ∃ (x0b1q22_1 : Int) (x9q3_1 : List ITerm) (x10q3_1 : List Int) (x11_1 : Int) (pv3 : PV) (pv4 : PV), spec_l1Terms.l1 n x0b1q22_1 x9q3_1 x10q3_1 x11_1 l0_0 a1 a2 = some r ∧ Has tm [(0, .ptr i0 0), (1, .lit (.int .i64 a1)), (2, .lit (.int .i64 a2)), (9, pv3), (10, pv4), (11, .lit (.int .i64 x11_1))] ∧ Box (.ptr i0 0) [q0, .lit (.int .i64 x0b1q22_1)] S ∧ Vec cITerm x9q3_1 pv3 S ∧ Vec (cInt .i64) x10q3_1 pv4 S ∧ Same S0 S [i0] ∧ OutT S0 [i0] (PV.id? pv3).toList ∧ OutT S0 [i0] (PV.id? pv4).toList ∧ Ap (.ptr i0 0) pv3 ∧ Ap (.ptr i0 0) pv4 ∧ Ap pv3 pv4) ?_ ?_ ?_)
 · exact ⟨Nat.le_refl _, _, _, _, _, _, _, H, ⟨rfl, rfl, rfl, rfl, rfl, rfl, trivial⟩, h8, h10, h11, h9, ap1, ap3, ap2, ap4, ap5⟩
 ·
  rintro tm S ⟨_, _, _, _, _, _, _, H, -⟩
  simp [spec_l1Terms.l1] at H
 ·
  rintro n1 ih1 tm S ⟨hle, x0b1q22_1, x9q3_1, x10q3_1, x11_1, pv3, pv4, H, hh, h12, h13, h14, h15, o1, o2, ap6, ap7, ap8⟩
  simp only [spec_l1Terms.l1] at H
  rw [hh.eq]
  refine Evr.seq (Evr.sr rfl (Opl.p1 (n := Opl.p1 (n := Opl.nil ?_))))
  by_cases c1 : x11_1 > 0
  case neg =>
   rw [if_neg c1] at H
   have e32 : (decide (x11_1 > 0)) = false := by simpa using c1
   try rw [e32]
   refine Evr.condF rfl (Evr.exit rfl (Evr.seq (Evr.sr rfl (Opl.p1 (n := Opl.lenv (xs := x9q3_1) (by exact h13) K66 rfl rfl rfl rfl (Opl.p1 (n := Opl.nil ?_)))))))
   by_cases c34 : (x9q3_1.length : Int) = 0
   case neg =>
    rw [if_neg c34] at H
    have e46 : ((x9q3_1.length : Int) == 0) = false := by simpa using c34
    try rw [e46]
    refine Evr.condF rfl (Evr.skip (Evr.sr rfl (Opl.p1 (n := Opl.lenv (xs := x9q3_1) (by exact h13) K66 rfl rfl rfl rfl (Opl.subi (k := .i64) (a := (x9q3_1.length : Int)) (b := 1) K3 rfl rfl rfl rfl (Opl.one (v := .lit (.int .i64 (wrap64 ((x9q3_1.length : Int) - 1)))) rfl rfl rfl (Opl.nil (Evr.seq (Evr.sr rfl (Opl.one (v := .lit (.int .i64 a2)) rfl rfl rfl (Opl.p1 (n := Opl.one (v := .lit (.bool (a2 == 2))) rfl rfl rfl ?_))))))))))))
    obtain _ | k28 := n1
    · simp [spec_l1Terms.j10] at H
    simp only [spec_l1Terms.j10] at H
    by_cases c52 : a2 = 2
    case neg =>
     rw [if_neg c52] at H
     have e54 : (a2 == 2) = false := by simpa using c52
     try rw [e54]
     refine Opl.sk4 rfl rfl rfl rfl (Opl.sk2 rfl rfl (Opl.p1 (n := Opl.nil (Evr.condF rfl (Evr.sr rfl (Opl.one (v := .lit (.int .i64 a2)) rfl rfl rfl (Opl.p1 (n := Opl.one (v := .lit (.bool (a2 == 1))) rfl rfl rfl ?_))))))))
     by_cases c62 : a2 = 1
     case neg =>
      rw [if_neg c62] at H
      have e58 : (a2 == 1) = false := by simpa using c62
      try rw [e58]
      refine Opl.sk4 rfl rfl rfl rfl (Opl.sk2 rfl rfl (Opl.p1 (n := Opl.nil (Evr.condF rfl (Evr.skip (Evr.sr rfl (Opl.one (v := pv3) rfl rfl rfl (Opl.one (v := pv3) rfl rfl rfl (Opl.nil ?_)))))))))
      obtain rfl := sinj H
      refine Evr.ret1 Try.func163 rfl ?_
      exact ⟨h13, (OutT.new (i := i0) o1 ap6.symm), h12, h15⟩
     rw [if_pos c62] at H
     have e55 : (a2 == 1) = true := by simpa using c62
     try rw [e55]
     refine Opl.one (v := pv4) rfl rfl rfl (Opl.one (v := .lit (.int .i64 (wrap64 ((x9q3_1.length : Int) - 1)))) rfl rfl rfl ?_)
     obtain ⟨c63, H⟩ := peel H
     obtain ⟨c64, H⟩ := peel H
     refine Opl.idv (M := (cInt .i64)) (xs := x10q3_1) (j := (wrap64 ((x9q3_1.length : Int) - 1))) (v := pv4) h14 rfl rfl (by omega) (by omega) K27 Z3 rfl rfl ?_
     rintro d6 z6 q11 h352 h353
     refine Opl.ldv (M := (cInt .i64)) (xs := x10q3_1) (j := (wrap64 ((x9q3_1.length : Int) - 1))) (0 : Int) h352 h353 (by omega) (by omega) rfl T3 rfl rfl rfl ?_
     rintro p6 q12 h354
     obtain rfl : p6 = [.lit (.int .i64 (rd x10q3_1 (wrap64 ((x9q3_1.length : Int) - 1))))] := h354
     refine ⟨.lit (.int .i64 (rd x10q3_1 (wrap64 ((x9q3_1.length : Int) - 1)))), rfl, ?_⟩
     refine Opl.one (v := .lit (.int .i64 a2)) rfl rfl rfl (Opl.neq (a := (rd x10q3_1 (wrap64 ((x9q3_1.length : Int) - 1)))) (b := a2) K3 rfl rfl rfl rfl (Opl.p1 (n := Opl.nil ?_)))
     by_cases c65 : (rd x10q3_1 (wrap64 ((x9q3_1.length : Int) - 1))) ≠ a2
     case neg =>
      rw [if_neg c65] at H
      have e57 : ((rd x10q3_1 (wrap64 ((x9q3_1.length : Int) - 1))) != a2) = false := by simpa using c65
      try rw [e57]
      refine Evr.condF rfl (Evr.skip (Evr.sr rfl (Opl.one (v := pv3) rfl rfl rfl (Opl.one (v := pv3) rfl rfl rfl (Opl.nil ?_)))))
      obtain rfl := sinj H
      refine Evr.ret1 Try.func163 rfl ?_
      exact ⟨h13, (OutT.new (i := i0) o1 ap6.symm), h12, h15⟩
     rw [if_pos c65] at H
     have e56 : ((rd x10q3_1 (wrap64 ((x9q3_1.length : Int) - 1))) != a2) = true := by simpa using c65
     try rw [e56]
     refine Evr.condT rfl (Evr.sr rfl (Opl.one (v := .ptr i0 0) rfl rfl rfl (Opl.one (v := pv4) rfl rfl rfl ?_)))
     obtain ⟨r16, h_r16, H⟩ := obs H
     refine Opl.calls (spec_l1Pick.evv hq0 h12 h14 ap7.symm h_r16) rfl rfl rfl rfl rfl ?_
     rintro _ S ⟨rfl, h355, u56⟩
     have h356 := u56.vec h13 (ap6.symm).pt
     have h357 := u56.vec h14 (ap7.symm).pt
     have h358 := u56.sameP h15 OutT.box
     refine Opl.one (v := .lit (.int .i64 r16.2)) rfl rfl rfl (Opl.nil (Evr.regionN rfl (Opl.one (v := pv3) rfl rfl rfl (Opl.one (v := .ptr i0 0) rfl rfl rfl (Opl.liti (M := (cInt .i64)) (ys := [2, 3]) [.const (.int .i64 2), .const (.int .i64 3)] K27 T3 rfl rfl rfl (by exact ⟨rfl, rfl, trivial⟩) rfl (by decide) rfl rfl ?_)))))
     rintro pv113 h359
     obtain ⟨r17, h_r17, H⟩ := obs H
     refine Opl.calls (spec_l40Rd_num.evb hq0 h355 h359 h_r17) rfl rfl rfl rfl rfl ?_
     rintro _ S ⟨rfl, h360, u57⟩
     have h361 := u57.vec h356 (ap6.symm).pt
     have h362 := u57.vec h357 (ap7.symm).pt
     have h363 := u57.sameP h358 OutT.box
     refine Opl.one (v := .lit (.int .i64 r16.2)) rfl rfl rfl (Opl.one (v := .ptr i0 0) rfl rfl rfl (Opl.one (v := pv4) rfl rfl rfl ?_))
     obtain ⟨r18, h_r18, H⟩ := obs H
     refine Opl.calls (spec_l1Pick.evv hq0 h360 h362 ap7.symm h_r18) rfl rfl rfl rfl rfl ?_
     rintro _ S ⟨rfl, h364, u58⟩
     have h365 := u58.vec h361 (ap6.symm).pt
     have h366 := u58.vec h362 (ap7.symm).pt
     have h367 := u58.sameP h363 OutT.box
     refine Opl.p1 (v := .agg [.lit (.int .i64 r17.2), .lit (.int .i64 0), .lit (.int .i64 r16.2), .lit (.int .i64 r18.2)]) (n := Opl.liti (M := cITerm) (ys := [(⟨r17.2, 0, r16.2, r18.2⟩ : ITerm)]) [.tmp 139] K66 T128 rfl rfl rfl (by exact ⟨cITerm_mk, trivial⟩) rfl (by decide) rfl rfl ?_)
     rintro pv115 h368
     obtain ⟨c66, H⟩ := peel H
     refine Opl.app (M := cITerm) (xs := x9q3_1) (ys := [(⟨r17.2, 0, r16.2, r18.2⟩ : ITerm)]) (v := pv3) h365 (.sl h368) oITerm rfl rfl K66 T128 rfl rfl (by (try simp only [List.length_cons, List.length_nil]); omega) (by show (_ + _) * 32 ≤ 140737488355328; (try simp only [List.length_cons, List.length_nil]); omega) rfl rfl rfl rfl rfl ?_
     rintro pv116 S h369 u59 w35
     have ap128 := w35.box h364
     have h370 := u59.box h364 ap6
     have ap129 := w35.vec h366
     have h371 := u59.vec h366 ap8.symm
     have ap130 := w35.sameP h367
     have h372 := u59.sameP h367 o1
     refine Opl.one (v := pv116) rfl rfl rfl (Opl.nil (Evr.sr rfl (Opl.one (v := pv116) rfl rfl rfl (Opl.one (v := pv116) rfl rfl rfl (Opl.nil ?_)))))
     obtain rfl := sinj H
     refine Evr.ret1 Try.func163 rfl ?_
     exact ⟨h369, (OutT.new (i := i0) ap130 ap128.symm), h370, h372⟩
    rw [if_pos c52] at H
    have e47 : (a2 == 2) = true := by simpa using c52
    try rw [e47]
    refine Opl.one (v := pv4) rfl rfl rfl (Opl.one (v := .lit (.int .i64 (wrap64 ((x9q3_1.length : Int) - 1)))) rfl rfl rfl ?_)
    obtain ⟨c53, H⟩ := peel H
    obtain ⟨c54, H⟩ := peel H
    refine Opl.idv (M := (cInt .i64)) (xs := x10q3_1) (j := (wrap64 ((x9q3_1.length : Int) - 1))) (v := pv4) h14 rfl rfl (by omega) (by omega) K27 Z3 rfl rfl ?_
    rintro d4 z4 q7 h314 h315
    refine Opl.ldv (M := (cInt .i64)) (xs := x10q3_1) (j := (wrap64 ((x9q3_1.length : Int) - 1))) (0 : Int) h314 h315 (by omega) (by omega) rfl T3 rfl rfl rfl ?_
    rintro p4 q8 h316
    obtain rfl : p4 = [.lit (.int .i64 (rd x10q3_1 (wrap64 ((x9q3_1.length : Int) - 1))))] := h316
    refine ⟨.lit (.int .i64 (rd x10q3_1 (wrap64 ((x9q3_1.length : Int) - 1)))), rfl, ?_⟩
    refine Opl.one (v := .lit (.int .i64 a2)) rfl rfl rfl (Opl.neq (a := (rd x10q3_1 (wrap64 ((x9q3_1.length : Int) - 1)))) (b := a2) K3 rfl rfl rfl rfl (Opl.p1 (n := Opl.nil ?_)))
    by_cases c55 : (rd x10q3_1 (wrap64 ((x9q3_1.length : Int) - 1))) ≠ a2
    case pos =>
     rw [if_pos c55] at H
     have e48 : ((rd x10q3_1 (wrap64 ((x9q3_1.length : Int) - 1))) != a2) = true := by simpa using c55
     try rw [e48]
     refine Evr.condT rfl (Evr.regionN rfl (Opl.one (v := pv3) rfl rfl rfl (Opl.one (v := .ptr i0 0) rfl rfl rfl (Opl.liti (M := (cInt .i64)) (ys := [5, 6]) [.const (.int .i64 5), .const (.int .i64 6)] K27 T3 rfl rfl rfl (by exact ⟨rfl, rfl, trivial⟩) rfl (by decide) rfl rfl ?_))))
     rintro pv103 h317
     obtain ⟨r11, h_r11, H⟩ := obs H
     refine Opl.calls (spec_l40Rd_num.evb hq0 h12 h317 h_r11) rfl rfl rfl rfl rfl ?_
     rintro _ S ⟨rfl, h318, u49⟩
     have h319 := u49.vec h13 (ap6.symm).pt
     have h320 := u49.vec h14 (ap7.symm).pt
     have h321 := u49.sameP h15 OutT.box
     refine Opl.one (v := .lit (.int .i64 (wrap64 ((x9q3_1.length : Int) - 1)))) rfl rfl rfl (Opl.one (v := .ptr i0 0) rfl rfl rfl (Opl.one (v := pv4) rfl rfl rfl ?_))
     obtain ⟨r12, h_r12, H⟩ := obs H
     refine Opl.calls (spec_l1Pick.evv hq0 h318 h320 ap7.symm h_r12) rfl rfl rfl rfl rfl ?_
     rintro _ S ⟨rfl, h322, u50⟩
     have h323 := u50.vec h319 (ap6.symm).pt
     have h324 := u50.vec h320 (ap7.symm).pt
     have h325 := u50.sameP h321 OutT.box
     refine Opl.p1 (v := .agg [.lit (.int .i64 r11.2), .lit (.int .i64 0), .lit (.int .i64 (wrap64 ((x9q3_1.length : Int) - 1))), .lit (.int .i64 r12.2)]) (n := Opl.liti (M := cITerm) (ys := [(⟨r11.2, 0, (wrap64 ((x9q3_1.length : Int) - 1)), r12.2⟩ : ITerm)]) [.tmp 115] K66 T128 rfl rfl rfl (by exact ⟨cITerm_mk, trivial⟩) rfl (by decide) rfl rfl ?_)
     rintro pv105 h326
     obtain ⟨c56, H⟩ := peel H
     refine Opl.app (M := cITerm) (xs := x9q3_1) (ys := [(⟨r11.2, 0, (wrap64 ((x9q3_1.length : Int) - 1)), r12.2⟩ : ITerm)]) (v := pv3) h323 (.sl h326) oITerm rfl rfl K66 T128 rfl rfl (by (try simp only [List.length_cons, List.length_nil]); omega) (by show (_ + _) * 32 ≤ 140737488355328; (try simp only [List.length_cons, List.length_nil]); omega) rfl rfl rfl rfl rfl ?_
     rintro pv106 S h327 u51 w33
     have ap122 := w33.box h322
     have h328 := u51.box h322 ap6
     have ap123 := w33.vec h324
     have h329 := u51.vec h324 ap8.symm
     have ap124 := w33.sameP h325
     have h330 := u51.sameP h325 o1
     refine Opl.one (v := pv106) rfl rfl rfl (Opl.nil (Evr.sr rfl (Opl.one (v := pv106) rfl rfl rfl (Opl.one (v := pv106) rfl rfl rfl (Opl.nil ?_)))))
     obtain rfl := sinj H
     refine Evr.ret1 Try.func163 rfl ?_
     exact ⟨h327, (OutT.new (i := i0) ap124 ap122.symm), h328, h330⟩
    rw [if_neg c55] at H
    have e49 : ((rd x10q3_1 (wrap64 ((x9q3_1.length : Int) - 1))) != a2) = false := by simpa using c55
    try rw [e49]
    refine Evr.condF rfl (Evr.sr rfl (Opl.one (v := .lit (.int .i64 a2)) rfl rfl rfl (Opl.p1 (n := Opl.one (v := .lit (.bool (a2 == 1))) rfl rfl rfl ?_))))
    by_cases c57 : a2 = 1
    case neg =>
     rw [if_neg c57] at H
     have e53 : (a2 == 1) = false := by simpa using c57
     try rw [e53]
     refine Opl.sk4 rfl rfl rfl rfl (Opl.sk2 rfl rfl (Opl.p1 (n := Opl.nil (Evr.condF rfl (Evr.skip (Evr.sr rfl (Opl.one (v := pv3) rfl rfl rfl (Opl.one (v := pv3) rfl rfl rfl (Opl.nil ?_)))))))))
     obtain rfl := sinj H
     refine Evr.ret1 Try.func163 rfl ?_
     exact ⟨h13, (OutT.new (i := i0) o1 ap6.symm), h12, h15⟩
    rw [if_pos c57] at H
    have e50 : (a2 == 1) = true := by simpa using c57
    try rw [e50]
    refine Opl.one (v := pv4) rfl rfl rfl (Opl.one (v := .lit (.int .i64 (wrap64 ((x9q3_1.length : Int) - 1)))) rfl rfl rfl ?_)
    obtain ⟨c58, H⟩ := peel H
    obtain ⟨c59, H⟩ := peel H
    refine Opl.idv (M := (cInt .i64)) (xs := x10q3_1) (j := (wrap64 ((x9q3_1.length : Int) - 1))) (v := pv4) h14 rfl rfl (by omega) (by omega) K27 Z3 rfl rfl ?_
    rintro d5 z5 q9 h331 h332
    refine Opl.ldv (M := (cInt .i64)) (xs := x10q3_1) (j := (wrap64 ((x9q3_1.length : Int) - 1))) (0 : Int) h331 h332 (by omega) (by omega) rfl T3 rfl rfl rfl ?_
    rintro p5 q10 h333
    obtain rfl : p5 = [.lit (.int .i64 (rd x10q3_1 (wrap64 ((x9q3_1.length : Int) - 1))))] := h333
    refine ⟨.lit (.int .i64 (rd x10q3_1 (wrap64 ((x9q3_1.length : Int) - 1)))), rfl, ?_⟩
    refine Opl.one (v := .lit (.int .i64 a2)) rfl rfl rfl (Opl.neq (a := (rd x10q3_1 (wrap64 ((x9q3_1.length : Int) - 1)))) (b := a2) K3 rfl rfl rfl rfl (Opl.p1 (n := Opl.nil ?_)))
    by_cases c60 : (rd x10q3_1 (wrap64 ((x9q3_1.length : Int) - 1))) ≠ a2
    case neg =>
     rw [if_neg c60] at H
     have e52 : ((rd x10q3_1 (wrap64 ((x9q3_1.length : Int) - 1))) != a2) = false := by simpa using c60
     try rw [e52]
     refine Evr.condF rfl (Evr.skip (Evr.sr rfl (Opl.one (v := pv3) rfl rfl rfl (Opl.one (v := pv3) rfl rfl rfl (Opl.nil ?_)))))
     obtain rfl := sinj H
     refine Evr.ret1 Try.func163 rfl ?_
     exact ⟨h13, (OutT.new (i := i0) o1 ap6.symm), h12, h15⟩
    rw [if_pos c60] at H
    have e51 : ((rd x10q3_1 (wrap64 ((x9q3_1.length : Int) - 1))) != a2) = true := by simpa using c60
    try rw [e51]
    refine Evr.condT rfl (Evr.sr rfl (Opl.one (v := .ptr i0 0) rfl rfl rfl (Opl.one (v := pv4) rfl rfl rfl ?_)))
    obtain ⟨r13, h_r13, H⟩ := obs H
    refine Opl.calls (spec_l1Pick.evv hq0 h12 h14 ap7.symm h_r13) rfl rfl rfl rfl rfl ?_
    rintro _ S ⟨rfl, h334, u52⟩
    have h335 := u52.vec h13 (ap6.symm).pt
    have h336 := u52.vec h14 (ap7.symm).pt
    have h337 := u52.sameP h15 OutT.box
    refine Opl.one (v := .lit (.int .i64 r13.2)) rfl rfl rfl (Opl.nil (Evr.regionN rfl (Opl.one (v := pv3) rfl rfl rfl (Opl.one (v := .ptr i0 0) rfl rfl rfl (Opl.liti (M := (cInt .i64)) (ys := [2, 3]) [.const (.int .i64 2), .const (.int .i64 3)] K27 T3 rfl rfl rfl (by exact ⟨rfl, rfl, trivial⟩) rfl (by decide) rfl rfl ?_)))))
    rintro pv108 h338
    obtain ⟨r14, h_r14, H⟩ := obs H
    refine Opl.calls (spec_l40Rd_num.evb hq0 h334 h338 h_r14) rfl rfl rfl rfl rfl ?_
    rintro _ S ⟨rfl, h339, u53⟩
    have h340 := u53.vec h335 (ap6.symm).pt
    have h341 := u53.vec h336 (ap7.symm).pt
    have h342 := u53.sameP h337 OutT.box
    refine Opl.one (v := .lit (.int .i64 r13.2)) rfl rfl rfl (Opl.one (v := .ptr i0 0) rfl rfl rfl (Opl.one (v := pv4) rfl rfl rfl ?_))
    obtain ⟨r15, h_r15, H⟩ := obs H
    refine Opl.calls (spec_l1Pick.evv hq0 h339 h341 ap7.symm h_r15) rfl rfl rfl rfl rfl ?_
    rintro _ S ⟨rfl, h343, u54⟩
    have h344 := u54.vec h340 (ap6.symm).pt
    have h345 := u54.vec h341 (ap7.symm).pt
    have h346 := u54.sameP h342 OutT.box
    refine Opl.p1 (v := .agg [.lit (.int .i64 r14.2), .lit (.int .i64 0), .lit (.int .i64 r13.2), .lit (.int .i64 r15.2)]) (n := Opl.liti (M := cITerm) (ys := [(⟨r14.2, 0, r13.2, r15.2⟩ : ITerm)]) [.tmp 139] K66 T128 rfl rfl rfl (by exact ⟨cITerm_mk, trivial⟩) rfl (by decide) rfl rfl ?_)
    rintro pv110 h347
    obtain ⟨c61, H⟩ := peel H
    refine Opl.app (M := cITerm) (xs := x9q3_1) (ys := [(⟨r14.2, 0, r13.2, r15.2⟩ : ITerm)]) (v := pv3) h344 (.sl h347) oITerm rfl rfl K66 T128 rfl rfl (by (try simp only [List.length_cons, List.length_nil]); omega) (by show (_ + _) * 32 ≤ 140737488355328; (try simp only [List.length_cons, List.length_nil]); omega) rfl rfl rfl rfl rfl ?_
    rintro pv111 S h348 u55 w34
    have ap125 := w34.box h343
    have h349 := u55.box h343 ap6
    have ap126 := w34.vec h345
    have h350 := u55.vec h345 ap8.symm
    have ap127 := w34.sameP h346
    have h351 := u55.sameP h346 o1
    refine Opl.one (v := pv111) rfl rfl rfl (Opl.nil (Evr.sr rfl (Opl.one (v := pv111) rfl rfl rfl (Opl.one (v := pv111) rfl rfl rfl (Opl.nil ?_)))))
    obtain rfl := sinj H
    refine Evr.ret1 Try.func163 rfl ?_
    exact ⟨h348, (OutT.new (i := i0) ap127 ap125.symm), h349, h351⟩
   rw [if_pos c34] at H
   have e33 : ((x9q3_1.length : Int) == 0) = true := by simpa using c34
   try rw [e33]
   refine Evr.condT rfl (Evr.sr rfl (Opl.p1 (n := Opl.p1 (v := .agg [.lit (.int .i64 0), .lit (.int .i64 1), .lit (.int .i64 0), .lit (.int .i64 0)]) (n := Opl.liti (M := cITerm) (ys := [(⟨0, 1, 0, 0⟩ : ITerm)]) [.tmp 88] K66 T128 rfl rfl rfl (by exact ⟨cITerm_mk, trivial⟩) rfl (by decide) rfl rfl ?_))))
   rintro pv82 h245
   obtain ⟨c35, H⟩ := peel H
   obtain ⟨c36, H⟩ := peel H
   obtain _ | k27 := n1
   · simp [spec_l1Terms.j10] at H
   simp only [spec_l1Terms.j10] at H
   refine Opl.app (M := cITerm) (xs := x9q3_1) (ys := [(⟨0, 1, 0, 0⟩ : ITerm)]) (v := pv3) h13 (.sl h245) oITerm rfl rfl K66 T128 rfl rfl (by (try simp only [List.length_cons, List.length_nil]); omega) (by show (_ + _) * 32 ≤ 140737488355328; (try simp only [List.length_cons, List.length_nil]); omega) rfl rfl rfl rfl rfl ?_
   rintro pv83 S h246 u36 w28
   have ap107 := w28.box h12
   have h247 := u36.box h12 ap6
   have ap108 := w28.vec h14
   have h248 := u36.vec h14 ap8.symm
   have ap109 := w28.sameP h15
   have h249 := u36.sameP h15 o1
   refine Opl.p1 (n := Opl.nil (Evr.regionN rfl (Opl.p1 (n := Opl.liti (M := (cInt .i64)) (ys := [1]) [.const (.int .i64 1)] K27 T3 rfl rfl rfl (by exact ⟨rfl, trivial⟩) rfl (by decide) rfl rfl ?_))))
   rintro pv85 h250
   refine Opl.app (M := (cInt .i64)) (xs := x10q3_1) (ys := [1]) (v := pv4) h248 (.sl h250) (oInt .i64) rfl rfl K27 T3 rfl rfl (by (try simp only [List.length_cons, List.length_nil]); omega) (by show (_ + _) * 8 ≤ 140737488355328; (try simp only [List.length_cons, List.length_nil]); omega) rfl rfl rfl rfl rfl ?_
   rintro pv86 S h251 u37 w29
   have ap110 := w29.box h247
   have h252 := u37.box h247 ap7
   have ap111 := w29.sameP h249
   have h253 := u37.sameP h249 o2
   have ap112 := w29.vec h246
   have h254 := u37.vec h246 ap108.symm
   refine Opl.p1 (n := Opl.nil (Evr.sr rfl (Opl.p1 (n := Opl.lenv (xs := (x9q3_1 ++ [(⟨0, 1, 0, 0⟩ : ITerm)])) (by exact h254) K66 rfl rfl rfl rfl (Opl.subi (k := .i64) (a := ((x9q3_1 ++ [(⟨0, 1, 0, 0⟩ : ITerm)]).length : Int)) (b := 1) K3 rfl rfl rfl rfl (Opl.one (v := .lit (.int .i64 (wrap64 (((x9q3_1 ++ [(⟨0, 1, 0, 0⟩ : ITerm)]).length : Int) - 1)))) rfl rfl rfl (Opl.nil (Evr.seq (Evr.sr rfl (Opl.one (v := .lit (.int .i64 a2)) rfl rfl rfl (Opl.p1 (n := Opl.one (v := .lit (.bool (a2 == 2))) rfl rfl rfl ?_))))))))))))
   by_cases c37 : a2 = 2
   case neg =>
    rw [if_neg c37] at H
    have e41 : (a2 == 2) = false := by simpa using c37
    try rw [e41]
    refine Opl.sk4 rfl rfl rfl rfl (Opl.sk2 rfl rfl (Opl.p1 (n := Opl.nil (Evr.condF rfl (Evr.sr rfl (Opl.one (v := .lit (.int .i64 a2)) rfl rfl rfl (Opl.p1 (n := Opl.one (v := .lit (.bool (a2 == 1))) rfl rfl rfl ?_))))))))
    by_cases c47 : a2 = 1
    case neg =>
     rw [if_neg c47] at H
     have e45 : (a2 == 1) = false := by simpa using c47
     try rw [e45]
     refine Opl.sk4 rfl rfl rfl rfl (Opl.sk2 rfl rfl (Opl.p1 (n := Opl.nil (Evr.condF rfl (Evr.skip (Evr.sr rfl (Opl.one (v := pv83) rfl rfl rfl (Opl.one (v := pv83) rfl rfl rfl (Opl.nil ?_)))))))))
     obtain rfl := sinj H
     refine Evr.ret1 Try.func163 rfl ?_
     exact ⟨h254, (OutT.new (i := i0) ap109 ap107.symm), h252, h253⟩
    rw [if_pos c47] at H
    have e42 : (a2 == 1) = true := by simpa using c47
    try rw [e42]
    refine Opl.one (v := pv86) rfl rfl rfl (Opl.one (v := .lit (.int .i64 (wrap64 (((x9q3_1 ++ [(⟨0, 1, 0, 0⟩ : ITerm)]).length : Int) - 1)))) rfl rfl rfl ?_)
    obtain ⟨c48, H⟩ := peel H
    obtain ⟨c49, H⟩ := peel H
    refine Opl.idv (M := (cInt .i64)) (xs := (x10q3_1 ++ [1])) (j := (wrap64 (((x9q3_1 ++ [(⟨0, 1, 0, 0⟩ : ITerm)]).length : Int) - 1))) (v := pv86) h251 rfl rfl (by omega) (by omega) K27 Z3 rfl rfl ?_
    rintro d3 z3 q5 h293 h294
    refine Opl.ldv (M := (cInt .i64)) (xs := (x10q3_1 ++ [1])) (j := (wrap64 (((x9q3_1 ++ [(⟨0, 1, 0, 0⟩ : ITerm)]).length : Int) - 1))) (0 : Int) h293 h294 (by omega) (by omega) rfl T3 rfl rfl rfl ?_
    rintro p3 q6 h295
    obtain rfl : p3 = [.lit (.int .i64 (rd (x10q3_1 ++ [1]) (wrap64 (((x9q3_1 ++ [(⟨0, 1, 0, 0⟩ : ITerm)]).length : Int) - 1))))] := h295
    refine ⟨.lit (.int .i64 (rd (x10q3_1 ++ [1]) (wrap64 (((x9q3_1 ++ [(⟨0, 1, 0, 0⟩ : ITerm)]).length : Int) - 1)))), rfl, ?_⟩
    refine Opl.one (v := .lit (.int .i64 a2)) rfl rfl rfl (Opl.neq (a := (rd (x10q3_1 ++ [1]) (wrap64 (((x9q3_1 ++ [(⟨0, 1, 0, 0⟩ : ITerm)]).length : Int) - 1)))) (b := a2) K3 rfl rfl rfl rfl (Opl.p1 (n := Opl.nil ?_)))
    by_cases c50 : (rd (x10q3_1 ++ [1]) (wrap64 (((x9q3_1 ++ [(⟨0, 1, 0, 0⟩ : ITerm)]).length : Int) - 1))) ≠ a2
    case neg =>
     rw [if_neg c50] at H
     have e44 : ((rd (x10q3_1 ++ [1]) (wrap64 (((x9q3_1 ++ [(⟨0, 1, 0, 0⟩ : ITerm)]).length : Int) - 1))) != a2) = false := by simpa using c50
     try rw [e44]
     refine Evr.condF rfl (Evr.skip (Evr.sr rfl (Opl.one (v := pv83) rfl rfl rfl (Opl.one (v := pv83) rfl rfl rfl (Opl.nil ?_)))))
     obtain rfl := sinj H
     refine Evr.ret1 Try.func163 rfl ?_
     exact ⟨h254, (OutT.new (i := i0) ap109 ap107.symm), h252, h253⟩
    rw [if_pos c50] at H
    have e43 : ((rd (x10q3_1 ++ [1]) (wrap64 (((x9q3_1 ++ [(⟨0, 1, 0, 0⟩ : ITerm)]).length : Int) - 1))) != a2) = true := by simpa using c50
    try rw [e43]
    refine Evr.condT rfl (Evr.sr rfl (Opl.one (v := .ptr i0 0) rfl rfl rfl (Opl.one (v := pv86) rfl rfl rfl ?_)))
    obtain ⟨r16, h_r16, H⟩ := obs H
    refine Opl.calls (spec_l1Pick.evv hq0 h252 h251 ap110.symm h_r16) rfl rfl rfl rfl rfl ?_
    rintro _ S ⟨rfl, h296, u45⟩
    have h297 := u45.sameP h253 OutT.box
    have h298 := u45.vec h254 (ap107.symm).pt
    have h299 := u45.vec h251 (ap110.symm).pt
    refine Opl.one (v := .lit (.int .i64 r16.2)) rfl rfl rfl (Opl.nil (Evr.regionN rfl (Opl.one (v := pv83) rfl rfl rfl (Opl.one (v := .ptr i0 0) rfl rfl rfl (Opl.liti (M := (cInt .i64)) (ys := [2, 3]) [.const (.int .i64 2), .const (.int .i64 3)] K27 T3 rfl rfl rfl (by exact ⟨rfl, rfl, trivial⟩) rfl (by decide) rfl rfl ?_)))))
    rintro pv98 h300
    obtain ⟨r17, h_r17, H⟩ := obs H
    refine Opl.calls (spec_l40Rd_num.evb hq0 h296 h300 h_r17) rfl rfl rfl rfl rfl ?_
    rintro _ S ⟨rfl, h301, u46⟩
    have h302 := u46.sameP h297 OutT.box
    have h303 := u46.vec h298 (ap107.symm).pt
    have h304 := u46.vec h299 (ap110.symm).pt
    refine Opl.one (v := .lit (.int .i64 r16.2)) rfl rfl rfl (Opl.one (v := .ptr i0 0) rfl rfl rfl (Opl.one (v := pv86) rfl rfl rfl ?_))
    obtain ⟨r18, h_r18, H⟩ := obs H
    refine Opl.calls (spec_l1Pick.evv hq0 h301 h304 ap110.symm h_r18) rfl rfl rfl rfl rfl ?_
    rintro _ S ⟨rfl, h305, u47⟩
    have h306 := u47.sameP h302 OutT.box
    have h307 := u47.vec h303 (ap107.symm).pt
    have h308 := u47.vec h304 (ap110.symm).pt
    refine Opl.p1 (v := .agg [.lit (.int .i64 r17.2), .lit (.int .i64 0), .lit (.int .i64 r16.2), .lit (.int .i64 r18.2)]) (n := Opl.liti (M := cITerm) (ys := [(⟨r17.2, 0, r16.2, r18.2⟩ : ITerm)]) [.tmp 139] K66 T128 rfl rfl rfl (by exact ⟨cITerm_mk, trivial⟩) rfl (by decide) rfl rfl ?_)
    rintro pv100 h309
    obtain ⟨c51, H⟩ := peel H
    refine Opl.app (M := cITerm) (xs := (x9q3_1 ++ [(⟨0, 1, 0, 0⟩ : ITerm)])) (ys := [(⟨r17.2, 0, r16.2, r18.2⟩ : ITerm)]) (v := pv83) h307 (.sl h309) oITerm rfl rfl K66 T128 rfl rfl (by (try simp only [List.length_cons, List.length_nil]); omega) (by show (_ + _) * 32 ≤ 140737488355328; (try simp only [List.length_cons, List.length_nil]); omega) rfl rfl rfl rfl rfl ?_
    rintro pv101 S h310 u48 w32
    have ap119 := w32.box h305
    have h311 := u48.box h305 ap107
    have ap120 := w32.sameP h306
    have h312 := u48.sameP h306 ap109
    have ap121 := w32.vec h308
    have h313 := u48.vec h308 ap112.symm
    refine Opl.one (v := pv101) rfl rfl rfl (Opl.nil (Evr.sr rfl (Opl.one (v := pv101) rfl rfl rfl (Opl.one (v := pv101) rfl rfl rfl (Opl.nil ?_)))))
    obtain rfl := sinj H
    refine Evr.ret1 Try.func163 rfl ?_
    exact ⟨h310, (OutT.new (i := i0) ap120 ap119.symm), h311, h312⟩
   rw [if_pos c37] at H
   have e34 : (a2 == 2) = true := by simpa using c37
   try rw [e34]
   refine Opl.one (v := pv86) rfl rfl rfl (Opl.one (v := .lit (.int .i64 (wrap64 (((x9q3_1 ++ [(⟨0, 1, 0, 0⟩ : ITerm)]).length : Int) - 1)))) rfl rfl rfl ?_)
   obtain ⟨c38, H⟩ := peel H
   obtain ⟨c39, H⟩ := peel H
   refine Opl.idv (M := (cInt .i64)) (xs := (x10q3_1 ++ [1])) (j := (wrap64 (((x9q3_1 ++ [(⟨0, 1, 0, 0⟩ : ITerm)]).length : Int) - 1))) (v := pv86) h251 rfl rfl (by omega) (by omega) K27 Z3 rfl rfl ?_
   rintro d1 z1 q1 h255 h256
   refine Opl.ldv (M := (cInt .i64)) (xs := (x10q3_1 ++ [1])) (j := (wrap64 (((x9q3_1 ++ [(⟨0, 1, 0, 0⟩ : ITerm)]).length : Int) - 1))) (0 : Int) h255 h256 (by omega) (by omega) rfl T3 rfl rfl rfl ?_
   rintro p1 q2 h257
   obtain rfl : p1 = [.lit (.int .i64 (rd (x10q3_1 ++ [1]) (wrap64 (((x9q3_1 ++ [(⟨0, 1, 0, 0⟩ : ITerm)]).length : Int) - 1))))] := h257
   refine ⟨.lit (.int .i64 (rd (x10q3_1 ++ [1]) (wrap64 (((x9q3_1 ++ [(⟨0, 1, 0, 0⟩ : ITerm)]).length : Int) - 1)))), rfl, ?_⟩
   refine Opl.one (v := .lit (.int .i64 a2)) rfl rfl rfl (Opl.neq (a := (rd (x10q3_1 ++ [1]) (wrap64 (((x9q3_1 ++ [(⟨0, 1, 0, 0⟩ : ITerm)]).length : Int) - 1)))) (b := a2) K3 rfl rfl rfl rfl (Opl.p1 (n := Opl.nil ?_)))
   by_cases c40 : (rd (x10q3_1 ++ [1]) (wrap64 (((x9q3_1 ++ [(⟨0, 1, 0, 0⟩ : ITerm)]).length : Int) - 1))) ≠ a2
   case pos =>
    rw [if_pos c40] at H
    have e35 : ((rd (x10q3_1 ++ [1]) (wrap64 (((x9q3_1 ++ [(⟨0, 1, 0, 0⟩ : ITerm)]).length : Int) - 1))) != a2) = true := by simpa using c40
    try rw [e35]
    refine Evr.condT rfl (Evr.regionN rfl (Opl.one (v := pv83) rfl rfl rfl (Opl.one (v := .ptr i0 0) rfl rfl rfl (Opl.liti (M := (cInt .i64)) (ys := [5, 6]) [.const (.int .i64 5), .const (.int .i64 6)] K27 T3 rfl rfl rfl (by exact ⟨rfl, rfl, trivial⟩) rfl (by decide) rfl rfl ?_))))
    rintro pv88 h258
    obtain ⟨r11, h_r11, H⟩ := obs H
    refine Opl.calls (spec_l40Rd_num.evb hq0 h252 h258 h_r11) rfl rfl rfl rfl rfl ?_
    rintro _ S ⟨rfl, h259, u38⟩
    have h260 := u38.sameP h253 OutT.box
    have h261 := u38.vec h254 (ap107.symm).pt
    have h262 := u38.vec h251 (ap110.symm).pt
    refine Opl.one (v := .lit (.int .i64 (wrap64 (((x9q3_1 ++ [(⟨0, 1, 0, 0⟩ : ITerm)]).length : Int) - 1)))) rfl rfl rfl (Opl.one (v := .ptr i0 0) rfl rfl rfl (Opl.one (v := pv86) rfl rfl rfl ?_))
    obtain ⟨r12, h_r12, H⟩ := obs H
    refine Opl.calls (spec_l1Pick.evv hq0 h259 h262 ap110.symm h_r12) rfl rfl rfl rfl rfl ?_
    rintro _ S ⟨rfl, h263, u39⟩
    have h264 := u39.sameP h260 OutT.box
    have h265 := u39.vec h261 (ap107.symm).pt
    have h266 := u39.vec h262 (ap110.symm).pt
    refine Opl.p1 (v := .agg [.lit (.int .i64 r11.2), .lit (.int .i64 0), .lit (.int .i64 (wrap64 (((x9q3_1 ++ [(⟨0, 1, 0, 0⟩ : ITerm)]).length : Int) - 1))), .lit (.int .i64 r12.2)]) (n := Opl.liti (M := cITerm) (ys := [(⟨r11.2, 0, (wrap64 (((x9q3_1 ++ [(⟨0, 1, 0, 0⟩ : ITerm)]).length : Int) - 1)), r12.2⟩ : ITerm)]) [.tmp 115] K66 T128 rfl rfl rfl (by exact ⟨cITerm_mk, trivial⟩) rfl (by decide) rfl rfl ?_)
    rintro pv90 h267
    obtain ⟨c41, H⟩ := peel H
    refine Opl.app (M := cITerm) (xs := (x9q3_1 ++ [(⟨0, 1, 0, 0⟩ : ITerm)])) (ys := [(⟨r11.2, 0, (wrap64 (((x9q3_1 ++ [(⟨0, 1, 0, 0⟩ : ITerm)]).length : Int) - 1)), r12.2⟩ : ITerm)]) (v := pv83) h265 (.sl h267) oITerm rfl rfl K66 T128 rfl rfl (by (try simp only [List.length_cons, List.length_nil]); omega) (by show (_ + _) * 32 ≤ 140737488355328; (try simp only [List.length_cons, List.length_nil]); omega) rfl rfl rfl rfl rfl ?_
    rintro pv91 S h268 u40 w30
    have ap113 := w30.box h263
    have h269 := u40.box h263 ap107
    have ap114 := w30.sameP h264
    have h270 := u40.sameP h264 ap109
    have ap115 := w30.vec h266
    have h271 := u40.vec h266 ap112.symm
    refine Opl.one (v := pv91) rfl rfl rfl (Opl.nil (Evr.sr rfl (Opl.one (v := pv91) rfl rfl rfl (Opl.one (v := pv91) rfl rfl rfl (Opl.nil ?_)))))
    obtain rfl := sinj H
    refine Evr.ret1 Try.func163 rfl ?_
    exact ⟨h268, (OutT.new (i := i0) ap114 ap113.symm), h269, h270⟩
   rw [if_neg c40] at H
   have e36 : ((rd (x10q3_1 ++ [1]) (wrap64 (((x9q3_1 ++ [(⟨0, 1, 0, 0⟩ : ITerm)]).length : Int) - 1))) != a2) = false := by simpa using c40
   try rw [e36]
   refine Evr.condF rfl (Evr.sr rfl (Opl.one (v := .lit (.int .i64 a2)) rfl rfl rfl (Opl.p1 (n := Opl.one (v := .lit (.bool (a2 == 1))) rfl rfl rfl ?_))))
   by_cases c42 : a2 = 1
   case neg =>
    rw [if_neg c42] at H
    have e40 : (a2 == 1) = false := by simpa using c42
    try rw [e40]
    refine Opl.sk4 rfl rfl rfl rfl (Opl.sk2 rfl rfl (Opl.p1 (n := Opl.nil (Evr.condF rfl (Evr.skip (Evr.sr rfl (Opl.one (v := pv83) rfl rfl rfl (Opl.one (v := pv83) rfl rfl rfl (Opl.nil ?_)))))))))
    obtain rfl := sinj H
    refine Evr.ret1 Try.func163 rfl ?_
    exact ⟨h254, (OutT.new (i := i0) ap109 ap107.symm), h252, h253⟩
   rw [if_pos c42] at H
   have e37 : (a2 == 1) = true := by simpa using c42
   try rw [e37]
   refine Opl.one (v := pv86) rfl rfl rfl (Opl.one (v := .lit (.int .i64 (wrap64 (((x9q3_1 ++ [(⟨0, 1, 0, 0⟩ : ITerm)]).length : Int) - 1)))) rfl rfl rfl ?_)
   obtain ⟨c43, H⟩ := peel H
   obtain ⟨c44, H⟩ := peel H
   refine Opl.idv (M := (cInt .i64)) (xs := (x10q3_1 ++ [1])) (j := (wrap64 (((x9q3_1 ++ [(⟨0, 1, 0, 0⟩ : ITerm)]).length : Int) - 1))) (v := pv86) h251 rfl rfl (by omega) (by omega) K27 Z3 rfl rfl ?_
   rintro d2 z2 q3 h272 h273
   refine Opl.ldv (M := (cInt .i64)) (xs := (x10q3_1 ++ [1])) (j := (wrap64 (((x9q3_1 ++ [(⟨0, 1, 0, 0⟩ : ITerm)]).length : Int) - 1))) (0 : Int) h272 h273 (by omega) (by omega) rfl T3 rfl rfl rfl ?_
   rintro p2 q4 h274
   obtain rfl : p2 = [.lit (.int .i64 (rd (x10q3_1 ++ [1]) (wrap64 (((x9q3_1 ++ [(⟨0, 1, 0, 0⟩ : ITerm)]).length : Int) - 1))))] := h274
   refine ⟨.lit (.int .i64 (rd (x10q3_1 ++ [1]) (wrap64 (((x9q3_1 ++ [(⟨0, 1, 0, 0⟩ : ITerm)]).length : Int) - 1)))), rfl, ?_⟩
   refine Opl.one (v := .lit (.int .i64 a2)) rfl rfl rfl (Opl.neq (a := (rd (x10q3_1 ++ [1]) (wrap64 (((x9q3_1 ++ [(⟨0, 1, 0, 0⟩ : ITerm)]).length : Int) - 1)))) (b := a2) K3 rfl rfl rfl rfl (Opl.p1 (n := Opl.nil ?_)))
   by_cases c45 : (rd (x10q3_1 ++ [1]) (wrap64 (((x9q3_1 ++ [(⟨0, 1, 0, 0⟩ : ITerm)]).length : Int) - 1))) ≠ a2
   case neg =>
    rw [if_neg c45] at H
    have e39 : ((rd (x10q3_1 ++ [1]) (wrap64 (((x9q3_1 ++ [(⟨0, 1, 0, 0⟩ : ITerm)]).length : Int) - 1))) != a2) = false := by simpa using c45
    try rw [e39]
    refine Evr.condF rfl (Evr.skip (Evr.sr rfl (Opl.one (v := pv83) rfl rfl rfl (Opl.one (v := pv83) rfl rfl rfl (Opl.nil ?_)))))
    obtain rfl := sinj H
    refine Evr.ret1 Try.func163 rfl ?_
    exact ⟨h254, (OutT.new (i := i0) ap109 ap107.symm), h252, h253⟩
   rw [if_pos c45] at H
   have e38 : ((rd (x10q3_1 ++ [1]) (wrap64 (((x9q3_1 ++ [(⟨0, 1, 0, 0⟩ : ITerm)]).length : Int) - 1))) != a2) = true := by simpa using c45
   try rw [e38]
   refine Evr.condT rfl (Evr.sr rfl (Opl.one (v := .ptr i0 0) rfl rfl rfl (Opl.one (v := pv86) rfl rfl rfl ?_)))
   obtain ⟨r13, h_r13, H⟩ := obs H
   refine Opl.calls (spec_l1Pick.evv hq0 h252 h251 ap110.symm h_r13) rfl rfl rfl rfl rfl ?_
   rintro _ S ⟨rfl, h275, u41⟩
   have h276 := u41.sameP h253 OutT.box
   have h277 := u41.vec h254 (ap107.symm).pt
   have h278 := u41.vec h251 (ap110.symm).pt
   refine Opl.one (v := .lit (.int .i64 r13.2)) rfl rfl rfl (Opl.nil (Evr.regionN rfl (Opl.one (v := pv83) rfl rfl rfl (Opl.one (v := .ptr i0 0) rfl rfl rfl (Opl.liti (M := (cInt .i64)) (ys := [2, 3]) [.const (.int .i64 2), .const (.int .i64 3)] K27 T3 rfl rfl rfl (by exact ⟨rfl, rfl, trivial⟩) rfl (by decide) rfl rfl ?_)))))
   rintro pv93 h279
   obtain ⟨r14, h_r14, H⟩ := obs H
   refine Opl.calls (spec_l40Rd_num.evb hq0 h275 h279 h_r14) rfl rfl rfl rfl rfl ?_
   rintro _ S ⟨rfl, h280, u42⟩
   have h281 := u42.sameP h276 OutT.box
   have h282 := u42.vec h277 (ap107.symm).pt
   have h283 := u42.vec h278 (ap110.symm).pt
   refine Opl.one (v := .lit (.int .i64 r13.2)) rfl rfl rfl (Opl.one (v := .ptr i0 0) rfl rfl rfl (Opl.one (v := pv86) rfl rfl rfl ?_))
   obtain ⟨r15, h_r15, H⟩ := obs H
   refine Opl.calls (spec_l1Pick.evv hq0 h280 h283 ap110.symm h_r15) rfl rfl rfl rfl rfl ?_
   rintro _ S ⟨rfl, h284, u43⟩
   have h285 := u43.sameP h281 OutT.box
   have h286 := u43.vec h282 (ap107.symm).pt
   have h287 := u43.vec h283 (ap110.symm).pt
   refine Opl.p1 (v := .agg [.lit (.int .i64 r14.2), .lit (.int .i64 0), .lit (.int .i64 r13.2), .lit (.int .i64 r15.2)]) (n := Opl.liti (M := cITerm) (ys := [(⟨r14.2, 0, r13.2, r15.2⟩ : ITerm)]) [.tmp 139] K66 T128 rfl rfl rfl (by exact ⟨cITerm_mk, trivial⟩) rfl (by decide) rfl rfl ?_)
   rintro pv95 h288
   obtain ⟨c46, H⟩ := peel H
   refine Opl.app (M := cITerm) (xs := (x9q3_1 ++ [(⟨0, 1, 0, 0⟩ : ITerm)])) (ys := [(⟨r14.2, 0, r13.2, r15.2⟩ : ITerm)]) (v := pv83) h286 (.sl h288) oITerm rfl rfl K66 T128 rfl rfl (by (try simp only [List.length_cons, List.length_nil]); omega) (by show (_ + _) * 32 ≤ 140737488355328; (try simp only [List.length_cons, List.length_nil]); omega) rfl rfl rfl rfl rfl ?_
   rintro pv96 S h289 u44 w31
   have ap116 := w31.box h284
   have h290 := u44.box h284 ap107
   have ap117 := w31.sameP h285
   have h291 := u44.sameP h285 ap109
   have ap118 := w31.vec h287
   have h292 := u44.vec h287 ap112.symm
   refine Opl.one (v := pv96) rfl rfl rfl (Opl.nil (Evr.sr rfl (Opl.one (v := pv96) rfl rfl rfl (Opl.one (v := pv96) rfl rfl rfl (Opl.nil ?_)))))
   obtain rfl := sinj H
   refine Evr.ret1 Try.func163 rfl ?_
   exact ⟨h289, (OutT.new (i := i0) ap117 ap116.symm), h290, h291⟩
  rw [if_pos c1] at H
  have e1 : (decide (x11_1 > 0)) = true := by simpa using c1
  try rw [e1]
  refine Evr.condT rfl (Evr.skip (Evr.seq (Evr.block (Evr.sr rfl (Opl.p1 (n := Opl.liti (M := (cInt .i64)) (ys := [0, 1, 1, 2, 3, 4, 5, 6, 5, 6, 7, 8, 9]) [.const (.int .i64 0), .const (.int .i64 1), .const (.int .i64 1), .const (.int .i64 2), .const (.int .i64 3), .const (.int .i64 4), .const (.int .i64 5), .const (.int .i64 6), .const (.int .i64 5), .const (.int .i64 6), .const (.int .i64 7), .const (.int .i64 8), .const (.int .i64 9)] K27 T3 rfl rfl rfl (by exact ⟨rfl, rfl, rfl, rfl, rfl, rfl, rfl, rfl, rfl, rfl, rfl, rfl, rfl, trivial⟩) rfl (by decide) rfl rfl ?_))))))
  rintro pv6 h16
  obtain ⟨r2, h_r2, H⟩ := obs H
  refine Opl.calls (spec_l40Rd_num.evb hq0 h12 h16 h_r2) rfl rfl rfl rfl rfl ?_
  rintro _ S ⟨rfl, h17, u4⟩
  have h18 := u4.vec h13 (ap6.symm).pt
  have h19 := u4.vec h14 (ap7.symm).pt
  have h20 := u4.sameP h15 OutT.box
  refine Opl.p1 (n := Opl.nil (Evr.sr rfl (Opl.p1 (n := Opl.p1 (v := .agg [.lit (.int .i64 r2.2), .lit (.int .i64 0), .lit (.int .i64 0), .lit (.int .i64 0)]) (n := Opl.alloc T128 rfl rfl rfl ?_)))))
  rintro i1 S h21 u5 w3
  have ap9 := w3.box h17
  have h22 := u5.box h17 ap9
  have ap10 := w3.vec h18
  have h23 := u5.vec h18 ap10
  have ap11 := w3.vec h19
  have h24 := u5.vec h19 ap11
  have ap12 := w3.sameP h20
  have h25 := u5.sameP h20 ap12
  refine Opl.stb (vs := [.lit (.int .i64 r2.2), .lit (.int .i64 0), .lit (.int .i64 0), .lit (.int .i64 0)]) h21 rfl rfl Z128 rfl (Nat.le_of_ble_eq_true rfl) rfl rfl rfl rfl ?_
  rintro S (h26 : Box (.ptr i1 0) [.lit (.int .i64 r2.2), .lit (.int .i64 0), .lit (.int .i64 0), .lit (.int .i64 0)] _) u6
  have h27 := u6.box h22 ap9
  have h28 := u6.vec h23 ap10
  have h29 := u6.vec h24 ap11
  have h30 := u6.sameP h25 ap12
  refine Opl.nil (Evr.seq (Evr.sr rfl (Opl.p1 (n := Opl.lenv (xs := x9q3_1) (by exact h28) K66 rfl rfl rfl rfl (Opl.p1 (n := Opl.p1 (n := ?_)))))))
  by_cases c2 : (x9q3_1.length : Int) = 0
  case pos =>
   rw [if_pos c2] at H
   have e2 : ((x9q3_1.length : Int) == 0) = true := by simpa using c2
   try rw [e2]
   refine Opl.sk2 rfl rfl (Opl.p1 (n := Opl.nil (Evr.condT rfl (Evr.sr rfl (Opl.p1 (n := ?_))))))
   obtain ⟨r4, h_r4, H⟩ := obs H
   refine Opl.calls (spec_l1Number.evb hq0 h27 h_r4) rfl rfl rfl rfl rfl ?_
   rintro _ S ⟨rfl, h31, u7⟩
   have h32 := u7.vec h28 (ap6.symm).pt
   have h33 := u7.vec h29 (ap7.symm).pt
   have h34 := u7.sameP h30 OutT.box
   have h35 := u7.box h26 (ap9.symm).pt
   refine Opl.p1 (v := .agg [.lit (.int .i64 0), .lit (.int .i64 r4.2), .lit (.int .i64 0), .lit (.int .i64 0)]) (n := Opl.stb (vs := [.lit (.int .i64 0), .lit (.int .i64 r4.2), .lit (.int .i64 0), .lit (.int .i64 0)]) h35 rfl rfl Z128 rfl (Nat.le_of_ble_eq_true rfl) rfl rfl rfl rfl ?_)
   rintro S (h36 : Box (.ptr i1 0) [.lit (.int .i64 0), .lit (.int .i64 r4.2), .lit (.int .i64 0), .lit (.int .i64 0)] _) u8
   have h37 := u8.box h31 ap9
   have h38 := u8.vec h32 ap10
   have h39 := u8.vec h33 ap11
   have h40 := u8.sameP h34 ap12
   refine Opl.nil (Evr.sr rfl (Opl.p1 (n := Opl.p1 (n := Opl.p1 (n := ?_)))))
   by_cases c3 : a1 > 0
   case neg =>
    rw [if_neg c3] at H
    have e10 : (decide (a1 > 0)) = false := by simpa using c3
    try rw [e10]
    refine Opl.sk2 rfl rfl (Opl.p1 (n := Opl.nil (Evr.condF rfl (Evr.skip (Evr.sr rfl (Opl.ldb (v := .agg [.lit (.int .i64 0), .lit (.int .i64 r4.2), .lit (.int .i64 0), .lit (.int .i64 0)]) h36 rfl T128 rfl rfl rfl rfl (Opl.p1 (n := Opl.p1 (n := ?_)))))))))
    obtain _ | k7 := n1
    · simp [spec_l1Terms.j3] at H
    simp only [spec_l1Terms.j3] at H
    obtain _ | k8 := k7
    · simp [spec_l1Terms.j2] at H
    simp only [spec_l1Terms.j2] at H
    obtain ⟨r3, h_r3, H⟩ := obs H
    obtain ⟨pv25, h87, -, h88⟩ := Out.vec h39
    refine Opl.callw (spec_l1Kind.ev h88 h_r3) rfl rfl rfl (.cons (.refl _) (.cons h87 (.cons (.refl _) .nil))) ⟨(.aggL ⟨(.lit _), (.lit _), (.lit _), (.lit _), trivial⟩), h88.plain, (.lit _), trivial⟩ (by decide) (Opl.p1 (n := Opl.nil (Evr.sr rfl (Opl.p1 (n := Opl.p1 (n := Opl.nil ?_))))))
    refine Evr.join (fun tm S => ∃ (kq3 : Nat) (x9q3_4 : List ITerm) (x10q3_4 : List Int) (pv26 : PV) (pv27 : PV), spec_l1Terms.l1 kq3 r4.1 x9q3_4 x10q3_4 (wrap64 (x11_1 - 1)) l0_0 a1 a2 = some r ∧ kq3 ≤ k8 ∧ Has tm [(0, .ptr i0 0), (1, .lit (.int .i64 a1)), (2, .lit (.int .i64 a2)), (9, pv26), (10, pv27), (11, .lit (.int .i64 x11_1))] ∧ Box (.ptr i0 0) [q0, .lit (.int .i64 r4.1)] S ∧ Vec cITerm x9q3_4 pv26 S ∧ Vec (cInt .i64) x10q3_4 pv27 S ∧ Same S0 S [i0] ∧ OutT S0 [i0] (PV.id? pv26).toList ∧ OutT S0 [i0] (PV.id? pv27).toList ∧ Ap (.ptr i0 0) pv26 ∧ Ap (.ptr i0 0) pv27 ∧ Ap pv26 pv27) ?_ fun hk3 => ?_
    ·
     rintro tm S ⟨kq3, x9q3_4, x10q3_4, pv26, pv27, H, hle, hh, h89, h90, h91, h92, o7, o8, ap35, ap36, ap37⟩
     rw [hh.eq]
     refine Evr.inBlock (Evr.regionN rfl (Opl.p1 (n := Opl.subi (k := .i64) (a := x11_1) (b := 1) K3 rfl rfl rfl rfl (Opl.one (v := .lit (.int .i64 (wrap64 (x11_1 - 1)))) rfl rfl rfl (Opl.nil ?_)))))
     exact ih1 _ (by omega) _ _ ⟨by omega, _, _, _, _, _, _, H, ⟨rfl, rfl, rfl, rfl, rfl, rfl, trivial⟩, h89, h90, h91, h92, o7, o8, ap35, ap36, ap37⟩
    ·
     by_cases c11 : r3 ≠ 0
     case neg =>
      rw [if_neg c11] at H
      have e12 : (r3 != 0) = false := by simpa using c11
      try rw [e12]
      refine Evr.condF rfl (Evr.skip ?_)
      exact hk3 _ _ ⟨_, _, _, _, _, H, by omega, ⟨rfl, rfl, rfl, rfl, rfl, rfl, trivial⟩, h37, h38, h39, h40, o1, o2, ap6, ap7, ap8⟩
     rw [if_pos c11] at H
     have e11 : (r3 != 0) = true := by simpa using c11
     try rw [e11]
     refine Evr.condT rfl (Evr.sr rfl (Opl.p1 (n := Opl.ldb (v := .agg [.lit (.int .i64 0), .lit (.int .i64 r4.2), .lit (.int .i64 0), .lit (.int .i64 0)]) h36 rfl T128 rfl rfl rfl rfl (Opl.liti (M := cITerm) (ys := [(⟨0, r4.2, 0, 0⟩ : ITerm)]) [.tmp 77] K66 T128 rfl rfl rfl (by exact ⟨cITerm_mk, trivial⟩) rfl (by decide) rfl rfl ?_))))
     rintro pv29 h93
     obtain ⟨c12, H⟩ := peel H
     obtain ⟨c13, H⟩ := peel H
     refine Opl.app (M := cITerm) (xs := x9q3_1) (ys := [(⟨0, r4.2, 0, 0⟩ : ITerm)]) (v := pv3) h38 (.sl h93) oITerm rfl rfl K66 T128 rfl rfl (by (try simp only [List.length_cons, List.length_nil]); omega) (by show (_ + _) * 32 ≤ 140737488355328; (try simp only [List.length_cons, List.length_nil]); omega) rfl rfl rfl rfl rfl ?_
     rintro pv30 S h94 u15 w11
     have ap38 := w11.box h37
     have h95 := u15.box h37 ap6
     have ap39 := w11.vec h39
     have h96 := u15.vec h39 ap8.symm
     have ap40 := w11.sameP h40
     have h97 := u15.sameP h40 o1
     have ap41 := w11.box h36
     have h98 := u15.box h36 ap10.symm
     refine Opl.p1 (n := Opl.nil (Evr.regionN rfl (Opl.p1 (n := Opl.p1 (n := Opl.liti (M := (cInt .i64)) (ys := [r3]) [.tmp 81] K27 T3 rfl rfl rfl (by exact ⟨rfl, trivial⟩) rfl (by decide) rfl rfl ?_)))))
     rintro pv32 h99
     refine Opl.app (M := (cInt .i64)) (xs := x10q3_1) (ys := [r3]) (v := pv4) h96 (.sl h99) (oInt .i64) rfl rfl K27 T3 rfl rfl (by (try simp only [List.length_cons, List.length_nil]); omega) (by show (_ + _) * 8 ≤ 140737488355328; (try simp only [List.length_cons, List.length_nil]); omega) rfl rfl rfl rfl rfl ?_
     rintro pv33 S h100 u16 w12
     have ap42 := w12.box h95
     have h101 := u16.box h95 ap7
     have ap43 := w12.sameP h97
     have h102 := u16.sameP h97 o2
     have ap44 := w12.box h98
     have h103 := u16.box h98 ap11.symm
     have ap45 := w12.vec h94
     have h104 := u16.vec h94 ap39.symm
     refine Opl.p1 (n := Opl.nil ?_)
     exact hk3 _ _ ⟨_, _, _, _, _, H, by omega, ⟨rfl, rfl, rfl, rfl, rfl, rfl, trivial⟩, h101, h104, h100, h102, ap40, ap43, ap38, ap42, ap45⟩
   rw [if_pos c3] at H
   have e3 : (decide (a1 > 0)) = true := by simpa using c3
   try rw [e3]
   refine Opl.p1 (n := Opl.p1 (n := Opl.p1 (n := Opl.nil ?_)))
   by_cases c4 : r2.2 ≠ 0
   case neg =>
    rw [if_neg c4] at H
    have e7 : (r2.2 != 0) = false := by simpa using c4
    try rw [e7]
    refine Evr.condF rfl (Evr.skip (Evr.sr rfl (Opl.ldb (v := .agg [.lit (.int .i64 0), .lit (.int .i64 r4.2), .lit (.int .i64 0), .lit (.int .i64 0)]) h36 rfl T128 rfl rfl rfl rfl (Opl.p1 (n := Opl.p1 (n := ?_))))))
    obtain _ | k4 := n1
    · simp [spec_l1Terms.j4] at H
    simp only [spec_l1Terms.j4] at H
    obtain _ | k5 := k4
    · simp [spec_l1Terms.j3] at H
    simp only [spec_l1Terms.j3] at H
    obtain _ | k6 := k5
    · simp [spec_l1Terms.j2] at H
    simp only [spec_l1Terms.j2] at H
    obtain ⟨r3, h_r3, H⟩ := obs H
    obtain ⟨pv16, h69, -, h70⟩ := Out.vec h39
    refine Opl.callw (spec_l1Kind.ev h70 h_r3) rfl rfl rfl (.cons (.refl _) (.cons h69 (.cons (.refl _) .nil))) ⟨(.aggL ⟨(.lit _), (.lit _), (.lit _), (.lit _), trivial⟩), h70.plain, (.lit _), trivial⟩ (by decide) (Opl.p1 (n := Opl.nil (Evr.sr rfl (Opl.p1 (n := Opl.p1 (n := Opl.nil ?_))))))
    refine Evr.join (fun tm S => ∃ (kq2 : Nat) (x9q3_3 : List ITerm) (x10q3_3 : List Int) (pv17 : PV) (pv18 : PV), spec_l1Terms.l1 kq2 r4.1 x9q3_3 x10q3_3 (wrap64 (x11_1 - 1)) l0_0 a1 a2 = some r ∧ kq2 ≤ k6 ∧ Has tm [(0, .ptr i0 0), (1, .lit (.int .i64 a1)), (2, .lit (.int .i64 a2)), (9, pv17), (10, pv18), (11, .lit (.int .i64 x11_1))] ∧ Box (.ptr i0 0) [q0, .lit (.int .i64 r4.1)] S ∧ Vec cITerm x9q3_3 pv17 S ∧ Vec (cInt .i64) x10q3_3 pv18 S ∧ Same S0 S [i0] ∧ OutT S0 [i0] (PV.id? pv17).toList ∧ OutT S0 [i0] (PV.id? pv18).toList ∧ Ap (.ptr i0 0) pv17 ∧ Ap (.ptr i0 0) pv18 ∧ Ap pv17 pv18) ?_ fun hk2 => ?_
    ·
     rintro tm S ⟨kq2, x9q3_3, x10q3_3, pv17, pv18, H, hle, hh, h71, h72, h73, h74, o5, o6, ap24, ap25, ap26⟩
     rw [hh.eq]
     refine Evr.inBlock (Evr.regionN rfl (Opl.p1 (n := Opl.subi (k := .i64) (a := x11_1) (b := 1) K3 rfl rfl rfl rfl (Opl.one (v := .lit (.int .i64 (wrap64 (x11_1 - 1)))) rfl rfl rfl (Opl.nil ?_)))))
     exact ih1 _ (by omega) _ _ ⟨by omega, _, _, _, _, _, _, H, ⟨rfl, rfl, rfl, rfl, rfl, rfl, trivial⟩, h71, h72, h73, h74, o5, o6, ap24, ap25, ap26⟩
    ·
     by_cases c8 : r3 ≠ 0
     case neg =>
      rw [if_neg c8] at H
      have e9 : (r3 != 0) = false := by simpa using c8
      try rw [e9]
      refine Evr.condF rfl (Evr.skip ?_)
      exact hk2 _ _ ⟨_, _, _, _, _, H, by omega, ⟨rfl, rfl, rfl, rfl, rfl, rfl, trivial⟩, h37, h38, h39, h40, o1, o2, ap6, ap7, ap8⟩
     rw [if_pos c8] at H
     have e8 : (r3 != 0) = true := by simpa using c8
     try rw [e8]
     refine Evr.condT rfl (Evr.sr rfl (Opl.p1 (n := Opl.ldb (v := .agg [.lit (.int .i64 0), .lit (.int .i64 r4.2), .lit (.int .i64 0), .lit (.int .i64 0)]) h36 rfl T128 rfl rfl rfl rfl (Opl.liti (M := cITerm) (ys := [(⟨0, r4.2, 0, 0⟩ : ITerm)]) [.tmp 77] K66 T128 rfl rfl rfl (by exact ⟨cITerm_mk, trivial⟩) rfl (by decide) rfl rfl ?_))))
     rintro pv20 h75
     obtain ⟨c9, H⟩ := peel H
     obtain ⟨c10, H⟩ := peel H
     refine Opl.app (M := cITerm) (xs := x9q3_1) (ys := [(⟨0, r4.2, 0, 0⟩ : ITerm)]) (v := pv3) h38 (.sl h75) oITerm rfl rfl K66 T128 rfl rfl (by (try simp only [List.length_cons, List.length_nil]); omega) (by show (_ + _) * 32 ≤ 140737488355328; (try simp only [List.length_cons, List.length_nil]); omega) rfl rfl rfl rfl rfl ?_
     rintro pv21 S h76 u13 w9
     have ap27 := w9.box h37
     have h77 := u13.box h37 ap6
     have ap28 := w9.vec h39
     have h78 := u13.vec h39 ap8.symm
     have ap29 := w9.sameP h40
     have h79 := u13.sameP h40 o1
     have ap30 := w9.box h36
     have h80 := u13.box h36 ap10.symm
     refine Opl.p1 (n := Opl.nil (Evr.regionN rfl (Opl.p1 (n := Opl.p1 (n := Opl.liti (M := (cInt .i64)) (ys := [r3]) [.tmp 81] K27 T3 rfl rfl rfl (by exact ⟨rfl, trivial⟩) rfl (by decide) rfl rfl ?_)))))
     rintro pv23 h81
     refine Opl.app (M := (cInt .i64)) (xs := x10q3_1) (ys := [r3]) (v := pv4) h78 (.sl h81) (oInt .i64) rfl rfl K27 T3 rfl rfl (by (try simp only [List.length_cons, List.length_nil]); omega) (by show (_ + _) * 8 ≤ 140737488355328; (try simp only [List.length_cons, List.length_nil]); omega) rfl rfl rfl rfl rfl ?_
     rintro pv24 S h82 u14 w10
     have ap31 := w10.box h77
     have h83 := u14.box h77 ap7
     have ap32 := w10.sameP h79
     have h84 := u14.sameP h79 o2
     have ap33 := w10.box h80
     have h85 := u14.box h80 ap11.symm
     have ap34 := w10.vec h76
     have h86 := u14.vec h76 ap28.symm
     refine Opl.p1 (n := Opl.nil ?_)
     exact hk2 _ _ ⟨_, _, _, _, _, H, by omega, ⟨rfl, rfl, rfl, rfl, rfl, rfl, trivial⟩, h83, h86, h82, h84, ap29, ap32, ap27, ap31, ap34⟩
   rw [if_pos c4] at H
   have e4 : (r2.2 != 0) = true := by simpa using c4
   try rw [e4]
   refine Evr.condT rfl (Evr.regionN rfl (Opl.p1 (n := Opl.p1 (n := ?_))))
   obtain ⟨r5, h_r5, H⟩ := obs H
   refine Opl.calls (spec_l40Rd_pick.evb hq0 h37 h_r5) rfl rfl rfl rfl rfl ?_
   rintro _ S ⟨rfl, h41, u9⟩
   have h42 := u9.vec h38 (ap6.symm).pt
   have h43 := u9.vec h39 (ap7.symm).pt
   have h44 := u9.sameP h40 OutT.box
   have h45 := u9.box h36 (ap9.symm).pt
   refine Opl.p1 (v := .agg [.lit (.int .i64 1), .lit (.int .i64 r5.2), .lit (.int .i64 0), .lit (.int .i64 0)]) (n := ?_)
   obtain _ | k1 := n1
   · simp [spec_l1Terms.j4] at H
   simp only [spec_l1Terms.j4] at H
   obtain _ | k2 := k1
   · simp [spec_l1Terms.j3] at H
   simp only [spec_l1Terms.j3] at H
   obtain _ | k3 := k2
   · simp [spec_l1Terms.j2] at H
   simp only [spec_l1Terms.j2] at H
   refine Opl.stb (vs := [.lit (.int .i64 1), .lit (.int .i64 r5.2), .lit (.int .i64 0), .lit (.int .i64 0)]) h45 rfl rfl Z128 rfl (Nat.le_of_ble_eq_true rfl) rfl rfl rfl rfl ?_
   rintro S (h46 : Box (.ptr i1 0) [.lit (.int .i64 1), .lit (.int .i64 r5.2), .lit (.int .i64 0), .lit (.int .i64 0)] _) u10
   have h47 := u10.box h41 ap9
   have h48 := u10.vec h42 ap10
   have h49 := u10.vec h43 ap11
   have h50 := u10.sameP h44 ap12
   refine Opl.nil (Evr.sr rfl (Opl.ldb (v := .agg [.lit (.int .i64 1), .lit (.int .i64 r5.2), .lit (.int .i64 0), .lit (.int .i64 0)]) h46 rfl T128 rfl rfl rfl rfl (Opl.p1 (n := Opl.p1 (n := ?_)))))
   obtain ⟨r3, h_r3, H⟩ := obs H
   obtain ⟨pv7, h51, -, h52⟩ := Out.vec h49
   refine Opl.callw (spec_l1Kind.ev h52 h_r3) rfl rfl rfl (.cons (.refl _) (.cons h51 (.cons (.refl _) .nil))) ⟨(.aggL ⟨(.lit _), (.lit _), (.lit _), (.lit _), trivial⟩), h52.plain, (.lit _), trivial⟩ (by decide) (Opl.p1 (n := Opl.nil (Evr.sr rfl (Opl.p1 (n := Opl.p1 (n := Opl.nil ?_))))))
   refine Evr.join (fun tm S => ∃ (kq1 : Nat) (x9q3_2 : List ITerm) (x10q3_2 : List Int) (pv8 : PV) (pv9 : PV), spec_l1Terms.l1 kq1 r5.1 x9q3_2 x10q3_2 (wrap64 (x11_1 - 1)) l0_0 a1 a2 = some r ∧ kq1 ≤ k3 ∧ Has tm [(0, .ptr i0 0), (1, .lit (.int .i64 a1)), (2, .lit (.int .i64 a2)), (9, pv8), (10, pv9), (11, .lit (.int .i64 x11_1))] ∧ Box (.ptr i0 0) [q0, .lit (.int .i64 r5.1)] S ∧ Vec cITerm x9q3_2 pv8 S ∧ Vec (cInt .i64) x10q3_2 pv9 S ∧ Same S0 S [i0] ∧ OutT S0 [i0] (PV.id? pv8).toList ∧ OutT S0 [i0] (PV.id? pv9).toList ∧ Ap (.ptr i0 0) pv8 ∧ Ap (.ptr i0 0) pv9 ∧ Ap pv8 pv9) ?_ fun hk1 => ?_
   ·
    rintro tm S ⟨kq1, x9q3_2, x10q3_2, pv8, pv9, H, hle, hh, h53, h54, h55, h56, o3, o4, ap13, ap14, ap15⟩
    rw [hh.eq]
    refine Evr.inBlock (Evr.regionN rfl (Opl.p1 (n := Opl.subi (k := .i64) (a := x11_1) (b := 1) K3 rfl rfl rfl rfl (Opl.one (v := .lit (.int .i64 (wrap64 (x11_1 - 1)))) rfl rfl rfl (Opl.nil ?_)))))
    exact ih1 _ (by omega) _ _ ⟨by omega, _, _, _, _, _, _, H, ⟨rfl, rfl, rfl, rfl, rfl, rfl, trivial⟩, h53, h54, h55, h56, o3, o4, ap13, ap14, ap15⟩
   ·
    by_cases c5 : r3 ≠ 0
    case neg =>
     rw [if_neg c5] at H
     have e6 : (r3 != 0) = false := by simpa using c5
     try rw [e6]
     refine Evr.condF rfl (Evr.skip ?_)
     exact hk1 _ _ ⟨_, _, _, _, _, H, by omega, ⟨rfl, rfl, rfl, rfl, rfl, rfl, trivial⟩, h47, h48, h49, h50, o1, o2, ap6, ap7, ap8⟩
    rw [if_pos c5] at H
    have e5 : (r3 != 0) = true := by simpa using c5
    try rw [e5]
    refine Evr.condT rfl (Evr.sr rfl (Opl.p1 (n := Opl.ldb (v := .agg [.lit (.int .i64 1), .lit (.int .i64 r5.2), .lit (.int .i64 0), .lit (.int .i64 0)]) h46 rfl T128 rfl rfl rfl rfl (Opl.liti (M := cITerm) (ys := [(⟨1, r5.2, 0, 0⟩ : ITerm)]) [.tmp 77] K66 T128 rfl rfl rfl (by exact ⟨cITerm_mk, trivial⟩) rfl (by decide) rfl rfl ?_))))
    rintro pv11 h57
    obtain ⟨c6, H⟩ := peel H
    obtain ⟨c7, H⟩ := peel H
    refine Opl.app (M := cITerm) (xs := x9q3_1) (ys := [(⟨1, r5.2, 0, 0⟩ : ITerm)]) (v := pv3) h48 (.sl h57) oITerm rfl rfl K66 T128 rfl rfl (by (try simp only [List.length_cons, List.length_nil]); omega) (by show (_ + _) * 32 ≤ 140737488355328; (try simp only [List.length_cons, List.length_nil]); omega) rfl rfl rfl rfl rfl ?_
    rintro pv12 S h58 u11 w7
    have ap16 := w7.box h47
    have h59 := u11.box h47 ap6
    have ap17 := w7.vec h49
    have h60 := u11.vec h49 ap8.symm
    have ap18 := w7.sameP h50
    have h61 := u11.sameP h50 o1
    have ap19 := w7.box h46
    have h62 := u11.box h46 ap10.symm
    refine Opl.p1 (n := Opl.nil (Evr.regionN rfl (Opl.p1 (n := Opl.p1 (n := Opl.liti (M := (cInt .i64)) (ys := [r3]) [.tmp 81] K27 T3 rfl rfl rfl (by exact ⟨rfl, trivial⟩) rfl (by decide) rfl rfl ?_)))))
    rintro pv14 h63
    refine Opl.app (M := (cInt .i64)) (xs := x10q3_1) (ys := [r3]) (v := pv4) h60 (.sl h63) (oInt .i64) rfl rfl K27 T3 rfl rfl (by (try simp only [List.length_cons, List.length_nil]); omega) (by show (_ + _) * 8 ≤ 140737488355328; (try simp only [List.length_cons, List.length_nil]); omega) rfl rfl rfl rfl rfl ?_
    rintro pv15 S h64 u12 w8
    have ap20 := w8.box h59
    have h65 := u12.box h59 ap7
    have ap21 := w8.sameP h61
    have h66 := u12.sameP h61 o2
    have ap22 := w8.box h62
    have h67 := u12.box h62 ap11.symm
    have ap23 := w8.vec h58
    have h68 := u12.vec h58 ap17.symm
    refine Opl.p1 (n := Opl.nil ?_)
    exact hk1 _ _ ⟨_, _, _, _, _, H, by omega, ⟨rfl, rfl, rfl, rfl, rfl, rfl, trivial⟩, h65, h68, h64, h66, ap18, ap21, ap16, ap20, ap23⟩
  rw [if_neg c2] at H
  have e13 : ((x9q3_1.length : Int) == 0) = false := by simpa using c2
  try rw [e13]
  refine Opl.p1 (n := Opl.p1 (n := Opl.p1 (n := Opl.nil ?_)))
  by_cases c14 : r2.2 < 2
  case neg =>
   rw [if_neg c14] at H
   have e25 : (decide (r2.2 < 2)) = false := by simpa using c14
   try rw [e25]
   refine Evr.condF rfl (Evr.sr rfl (Opl.p1 (n := Opl.nil (Evr.seq (Evr.sr rfl (Opl.p1 (n := Opl.p1 (n := Opl.nil ?_))))))))
   refine Evr.join (fun tm S => ∃ (kq7 : Nat) (x14q8_1 : Int) (pv61 : PV) (pv62 : PV) (i2 : Abs.Id), spec_l1Terms.j8 kq7 x14q8_1 l0_0 a1 a2 x9q3_1 x10q3_1 x11_1 r2 = some r ∧ kq7 ≤ n1 ∧ Has tm [(0, .ptr i0 0), (1, .lit (.int .i64 a1)), (2, .lit (.int .i64 a2)), (9, pv61), (10, pv62), (11, .lit (.int .i64 x11_1)), (12, .lit (.int .i64 r2.2)), (13, .ptr i2 0), (14, .lit (.int .i64 x14q8_1))] ∧ Box (.ptr i0 0) [q0, .lit (.int .i64 r2.1)] S ∧ Vec cITerm x9q3_1 pv61 S ∧ Vec (cInt .i64) x10q3_1 pv62 S ∧ Box (.ptr i2 0) [.lit (.int .i64 r2.2), .lit (.int .i64 0), .lit (.int .i64 0), .lit (.int .i64 0)] S ∧ Same S0 S [i0] ∧ OutT S0 [i0] (PV.id? pv61).toList ∧ OutT S0 [i0] (PV.id? pv62).toList ∧ OutT S0 [i0] (PV.ptr i2 0).id?.toList ∧ Ap (.ptr i0 0) pv61 ∧ Ap (.ptr i0 0) pv62 ∧ Ap (.ptr i0 0) (.ptr i2 0) ∧ Ap pv61 pv62 ∧ Ap pv61 (.ptr i2 0) ∧ Ap pv62 (.ptr i2 0)) ?_ fun hk7 => ?_
   ·
    rintro tm S ⟨kq7, x14q8_1, pv61, pv62, i2, H, hle, hh, h179, h180, h181, h182, h183, o15, o16, o17, ap79, ap80, ap81, ap82, ap83, ap84⟩
    rw [hh.eq]
    refine Evr.sr rfl (Opl.p1 (n := Opl.p1 (n := Opl.p1 (n := ?_))))
    obtain _ | k20 := kq7
    · simp [spec_l1Terms.j8] at H
    simp only [spec_l1Terms.j8] at H
    obtain ⟨r8, h_r8, H⟩ := obs H
    refine Opl.calls (spec_l1Pick.evv hq0 h179 h181 ap80.symm h_r8) rfl rfl rfl rfl rfl ?_
    rintro _ S ⟨rfl, h184, u27⟩
    have h185 := u27.vec h180 (ap79.symm).pt
    have h186 := u27.vec h181 (ap80.symm).pt
    have h187 := u27.box h182 (ap81.symm).pt
    have h188 := u27.sameP h183 OutT.box
    refine Opl.p1 (v := .ptr i2 2) (n := Opl.stb (vs := [.lit (.int .i64 r8.2)]) h187 rfl rfl Z3 rfl (Nat.le_of_ble_eq_true rfl) rfl rfl rfl rfl ?_)
    rintro S (h189 : Box (.ptr i2 0) [.lit (.int .i64 r2.2), .lit (.int .i64 0), .lit (.int .i64 r8.2), .lit (.int .i64 0)] _) u28
    have h190 := u28.box h184 ap81
    have h191 := u28.vec h185 ap83
    have h192 := u28.vec h186 ap84
    have h193 := u28.sameP h188 o17
    refine Opl.nil (Evr.sr rfl (Opl.p1 (n := Opl.p1 (n := Opl.p1 (n := ?_)))))
    obtain ⟨r9, h_r9, H⟩ := obs H
    refine Opl.calls (spec_l1Pick.evv hq0 h190 h192 ap80.symm h_r9) rfl rfl rfl rfl rfl ?_
    rintro _ S ⟨rfl, h194, u29⟩
    have h195 := u29.vec h191 (ap79.symm).pt
    have h196 := u29.vec h192 (ap80.symm).pt
    have h197 := u29.box h189 (ap81.symm).pt
    have h198 := u29.sameP h193 OutT.box
    refine Opl.p1 (v := .ptr i2 3) (n := Opl.stb (vs := [.lit (.int .i64 r9.2)]) h197 rfl rfl Z3 rfl (Nat.le_of_ble_eq_true rfl) rfl rfl rfl rfl ?_)
    rintro S (h199 : Box (.ptr i2 0) [.lit (.int .i64 r2.2), .lit (.int .i64 0), .lit (.int .i64 r8.2), .lit (.int .i64 r9.2)] _) u30
    have h200 := u30.box h194 ap81
    have h201 := u30.vec h195 ap83
    have h202 := u30.vec h196 ap84
    have h203 := u30.sameP h198 o17
    refine Opl.nil (Evr.sr rfl (Opl.p1 (n := ?_)))
    obtain ⟨r10, h_r10, H⟩ := obs H
    refine Opl.callc (spec_l1One.ev h_r10) rfl rfl rfl rfl ⟨(.lit _), trivial⟩ (by decide) (Opl.nil ?_)
    by_cases c26 : r10 = true
    case neg =>
     rw [if_neg c26] at H
     obtain rfl : r10 = false := by simpa using c26
     refine Evr.condF rfl (Evr.skip (Evr.sr rfl (Opl.ldb (v := .agg [.lit (.int .i64 r2.2), .lit (.int .i64 0), .lit (.int .i64 r8.2), .lit (.int .i64 r9.2)]) h199 rfl T128 rfl rfl rfl rfl (Opl.p1 (n := Opl.p1 (n := ?_))))))
     obtain _ | k24 := k20
     · simp [spec_l1Terms.j9] at H
     simp only [spec_l1Terms.j9] at H
     obtain _ | k25 := k24
     · simp [spec_l1Terms.j5] at H
     simp only [spec_l1Terms.j5] at H
     obtain _ | k26 := k25
     · simp [spec_l1Terms.j2] at H
     simp only [spec_l1Terms.j2] at H
     obtain ⟨r3, h_r3, H⟩ := obs H
     obtain ⟨pv72, h227, -, h228⟩ := Out.vec h202
     refine Opl.callw (spec_l1Kind.ev h228 h_r3) rfl rfl rfl (.cons (.refl _) (.cons h227 (.cons (.refl _) .nil))) ⟨(.aggL ⟨(.lit _), (.lit _), (.lit _), (.lit _), trivial⟩), h228.plain, (.lit _), trivial⟩ (by decide) (Opl.p1 (n := Opl.nil (Evr.sr rfl (Opl.p1 (n := Opl.p1 (n := Opl.nil ?_))))))
     refine Evr.join (fun tm S => ∃ (kq9 : Nat) (x9q3_9 : List ITerm) (x10q3_9 : List Int) (pv73 : PV) (pv74 : PV), spec_l1Terms.l1 kq9 r9.1 x9q3_9 x10q3_9 (wrap64 (x11_1 - 1)) l0_0 a1 a2 = some r ∧ kq9 ≤ k26 ∧ Has tm [(0, .ptr i0 0), (1, .lit (.int .i64 a1)), (2, .lit (.int .i64 a2)), (9, pv73), (10, pv74), (11, .lit (.int .i64 x11_1))] ∧ Box (.ptr i0 0) [q0, .lit (.int .i64 r9.1)] S ∧ Vec cITerm x9q3_9 pv73 S ∧ Vec (cInt .i64) x10q3_9 pv74 S ∧ Same S0 S [i0] ∧ OutT S0 [i0] (PV.id? pv73).toList ∧ OutT S0 [i0] (PV.id? pv74).toList ∧ Ap (.ptr i0 0) pv73 ∧ Ap (.ptr i0 0) pv74 ∧ Ap pv73 pv74) ?_ fun hk9 => ?_
     ·
      rintro tm S ⟨kq9, x9q3_9, x10q3_9, pv73, pv74, H, hle, hh, h229, h230, h231, h232, o20, o21, ap96, ap97, ap98⟩
      rw [hh.eq]
      refine Evr.inBlock (Evr.regionN rfl (Opl.p1 (n := Opl.subi (k := .i64) (a := x11_1) (b := 1) K3 rfl rfl rfl rfl (Opl.one (v := .lit (.int .i64 (wrap64 (x11_1 - 1)))) rfl rfl rfl (Opl.nil ?_)))))
      exact ih1 _ (by omega) _ _ ⟨by omega, _, _, _, _, _, _, H, ⟨rfl, rfl, rfl, rfl, rfl, rfl, trivial⟩, h229, h230, h231, h232, o20, o21, ap96, ap97, ap98⟩
     ·
      by_cases c30 : r3 ≠ 0
      case neg =>
       rw [if_neg c30] at H
       have e29 : (r3 != 0) = false := by simpa using c30
       try rw [e29]
       refine Evr.condF rfl (Evr.skip ?_)
       exact hk9 _ _ ⟨_, _, _, _, _, H, by omega, ⟨rfl, rfl, rfl, rfl, rfl, rfl, trivial⟩, h200, h201, h202, h203, o15, o16, ap79, ap80, ap82⟩
      rw [if_pos c30] at H
      have e28 : (r3 != 0) = true := by simpa using c30
      try rw [e28]
      refine Evr.condT rfl (Evr.sr rfl (Opl.p1 (n := Opl.ldb (v := .agg [.lit (.int .i64 r2.2), .lit (.int .i64 0), .lit (.int .i64 r8.2), .lit (.int .i64 r9.2)]) h199 rfl T128 rfl rfl rfl rfl (Opl.liti (M := cITerm) (ys := [(⟨r2.2, 0, r8.2, r9.2⟩ : ITerm)]) [.tmp 77] K66 T128 rfl rfl rfl (by exact ⟨cITerm_mk, trivial⟩) rfl (by decide) rfl rfl ?_))))
      rintro pv76 h233
      obtain ⟨c31, H⟩ := peel H
      obtain ⟨c32, H⟩ := peel H
      refine Opl.app (M := cITerm) (xs := x9q3_1) (ys := [(⟨r2.2, 0, r8.2, r9.2⟩ : ITerm)]) (v := pv61) h201 (.sl h233) oITerm rfl rfl K66 T128 rfl rfl (by (try simp only [List.length_cons, List.length_nil]); omega) (by show (_ + _) * 32 ≤ 140737488355328; (try simp only [List.length_cons, List.length_nil]); omega) rfl rfl rfl rfl rfl ?_
      rintro pv77 S h234 u34 w26
      have ap99 := w26.box h200
      have h235 := u34.box h200 ap79
      have ap100 := w26.vec h202
      have h236 := u34.vec h202 ap82.symm
      have ap101 := w26.box h199
      have h237 := u34.box h199 ap83.symm
      have ap102 := w26.sameP h203
      have h238 := u34.sameP h203 o15
      refine Opl.p1 (n := Opl.nil (Evr.regionN rfl (Opl.p1 (n := Opl.p1 (n := Opl.liti (M := (cInt .i64)) (ys := [r3]) [.tmp 81] K27 T3 rfl rfl rfl (by exact ⟨rfl, trivial⟩) rfl (by decide) rfl rfl ?_)))))
      rintro pv79 h239
      refine Opl.app (M := (cInt .i64)) (xs := x10q3_1) (ys := [r3]) (v := pv62) h236 (.sl h239) (oInt .i64) rfl rfl K27 T3 rfl rfl (by (try simp only [List.length_cons, List.length_nil]); omega) (by show (_ + _) * 8 ≤ 140737488355328; (try simp only [List.length_cons, List.length_nil]); omega) rfl rfl rfl rfl rfl ?_
      rintro pv80 S h240 u35 w27
      have ap103 := w27.box h235
      have h241 := u35.box h235 ap80
      have ap104 := w27.box h237
      have h242 := u35.box h237 ap84.symm
      have ap105 := w27.sameP h238
      have h243 := u35.sameP h238 o16
      have ap106 := w27.vec h234
      have h244 := u35.vec h234 ap100.symm
      refine Opl.p1 (n := Opl.nil ?_)
      exact hk9 _ _ ⟨_, _, _, _, _, H, by omega, ⟨rfl, rfl, rfl, rfl, rfl, rfl, trivial⟩, h241, h244, h240, h243, ap102, ap105, ap99, ap103, ap106⟩
    rw [if_pos c26] at H
    obtain rfl : r10 = true := by simpa using c26
    refine Evr.condT rfl (Evr.regionN rfl (Opl.p1 (v := .ptr i2 2) (n := Opl.ldb (v := .lit (.int .i64 r8.2)) h199 rfl T3 rfl rfl rfl rfl (Opl.p1 (v := .ptr i2 3) (n := ?_)))))
    obtain _ | k21 := k20
    · simp [spec_l1Terms.j9] at H
    simp only [spec_l1Terms.j9] at H
    obtain _ | k22 := k21
    · simp [spec_l1Terms.j5] at H
    simp only [spec_l1Terms.j5] at H
    obtain _ | k23 := k22
    · simp [spec_l1Terms.j2] at H
    simp only [spec_l1Terms.j2] at H
    refine Opl.stb (vs := [.lit (.int .i64 r8.2)]) h199 rfl rfl Z3 rfl (Nat.le_of_ble_eq_true rfl) rfl rfl rfl rfl ?_
    rintro S (h204 : Box (.ptr i2 0) [.lit (.int .i64 r2.2), .lit (.int .i64 0), .lit (.int .i64 r8.2), .lit (.int .i64 r8.2)] _) u31
    have h205 := u31.box h200 ap81
    have h206 := u31.vec h201 ap83
    have h207 := u31.vec h202 ap84
    have h208 := u31.sameP h203 o17
    refine Opl.nil (Evr.sr rfl (Opl.ldb (v := .agg [.lit (.int .i64 r2.2), .lit (.int .i64 0), .lit (.int .i64 r8.2), .lit (.int .i64 r8.2)]) h204 rfl T128 rfl rfl rfl rfl (Opl.p1 (n := Opl.p1 (n := ?_)))))
    obtain ⟨r3, h_r3, H⟩ := obs H
    obtain ⟨pv63, h209, -, h210⟩ := Out.vec h207
    refine Opl.callw (spec_l1Kind.ev h210 h_r3) rfl rfl rfl (.cons (.refl _) (.cons h209 (.cons (.refl _) .nil))) ⟨(.aggL ⟨(.lit _), (.lit _), (.lit _), (.lit _), trivial⟩), h210.plain, (.lit _), trivial⟩ (by decide) (Opl.p1 (n := Opl.nil (Evr.sr rfl (Opl.p1 (n := Opl.p1 (n := Opl.nil ?_))))))
    refine Evr.join (fun tm S => ∃ (kq8 : Nat) (x9q3_8 : List ITerm) (x10q3_8 : List Int) (pv64 : PV) (pv65 : PV), spec_l1Terms.l1 kq8 r9.1 x9q3_8 x10q3_8 (wrap64 (x11_1 - 1)) l0_0 a1 a2 = some r ∧ kq8 ≤ k23 ∧ Has tm [(0, .ptr i0 0), (1, .lit (.int .i64 a1)), (2, .lit (.int .i64 a2)), (9, pv64), (10, pv65), (11, .lit (.int .i64 x11_1))] ∧ Box (.ptr i0 0) [q0, .lit (.int .i64 r9.1)] S ∧ Vec cITerm x9q3_8 pv64 S ∧ Vec (cInt .i64) x10q3_8 pv65 S ∧ Same S0 S [i0] ∧ OutT S0 [i0] (PV.id? pv64).toList ∧ OutT S0 [i0] (PV.id? pv65).toList ∧ Ap (.ptr i0 0) pv64 ∧ Ap (.ptr i0 0) pv65 ∧ Ap pv64 pv65) ?_ fun hk8 => ?_
    ·
     rintro tm S ⟨kq8, x9q3_8, x10q3_8, pv64, pv65, H, hle, hh, h211, h212, h213, h214, o18, o19, ap85, ap86, ap87⟩
     rw [hh.eq]
     refine Evr.inBlock (Evr.regionN rfl (Opl.p1 (n := Opl.subi (k := .i64) (a := x11_1) (b := 1) K3 rfl rfl rfl rfl (Opl.one (v := .lit (.int .i64 (wrap64 (x11_1 - 1)))) rfl rfl rfl (Opl.nil ?_)))))
     exact ih1 _ (by omega) _ _ ⟨by omega, _, _, _, _, _, _, H, ⟨rfl, rfl, rfl, rfl, rfl, rfl, trivial⟩, h211, h212, h213, h214, o18, o19, ap85, ap86, ap87⟩
    ·
     by_cases c27 : r3 ≠ 0
     case neg =>
      rw [if_neg c27] at H
      have e27 : (r3 != 0) = false := by simpa using c27
      try rw [e27]
      refine Evr.condF rfl (Evr.skip ?_)
      exact hk8 _ _ ⟨_, _, _, _, _, H, by omega, ⟨rfl, rfl, rfl, rfl, rfl, rfl, trivial⟩, h205, h206, h207, h208, o15, o16, ap79, ap80, ap82⟩
     rw [if_pos c27] at H
     have e26 : (r3 != 0) = true := by simpa using c27
     try rw [e26]
     refine Evr.condT rfl (Evr.sr rfl (Opl.p1 (n := Opl.ldb (v := .agg [.lit (.int .i64 r2.2), .lit (.int .i64 0), .lit (.int .i64 r8.2), .lit (.int .i64 r8.2)]) h204 rfl T128 rfl rfl rfl rfl (Opl.liti (M := cITerm) (ys := [(⟨r2.2, 0, r8.2, r8.2⟩ : ITerm)]) [.tmp 77] K66 T128 rfl rfl rfl (by exact ⟨cITerm_mk, trivial⟩) rfl (by decide) rfl rfl ?_))))
     rintro pv67 h215
     obtain ⟨c28, H⟩ := peel H
     obtain ⟨c29, H⟩ := peel H
     refine Opl.app (M := cITerm) (xs := x9q3_1) (ys := [(⟨r2.2, 0, r8.2, r8.2⟩ : ITerm)]) (v := pv61) h206 (.sl h215) oITerm rfl rfl K66 T128 rfl rfl (by (try simp only [List.length_cons, List.length_nil]); omega) (by show (_ + _) * 32 ≤ 140737488355328; (try simp only [List.length_cons, List.length_nil]); omega) rfl rfl rfl rfl rfl ?_
     rintro pv68 S h216 u32 w24
     have ap88 := w24.box h205
     have h217 := u32.box h205 ap79
     have ap89 := w24.vec h207
     have h218 := u32.vec h207 ap82.symm
     have ap90 := w24.box h204
     have h219 := u32.box h204 ap83.symm
     have ap91 := w24.sameP h208
     have h220 := u32.sameP h208 o15
     refine Opl.p1 (n := Opl.nil (Evr.regionN rfl (Opl.p1 (n := Opl.p1 (n := Opl.liti (M := (cInt .i64)) (ys := [r3]) [.tmp 81] K27 T3 rfl rfl rfl (by exact ⟨rfl, trivial⟩) rfl (by decide) rfl rfl ?_)))))
     rintro pv70 h221
     refine Opl.app (M := (cInt .i64)) (xs := x10q3_1) (ys := [r3]) (v := pv62) h218 (.sl h221) (oInt .i64) rfl rfl K27 T3 rfl rfl (by (try simp only [List.length_cons, List.length_nil]); omega) (by show (_ + _) * 8 ≤ 140737488355328; (try simp only [List.length_cons, List.length_nil]); omega) rfl rfl rfl rfl rfl ?_
     rintro pv71 S h222 u33 w25
     have ap92 := w25.box h217
     have h223 := u33.box h217 ap80
     have ap93 := w25.box h219
     have h224 := u33.box h219 ap84.symm
     have ap94 := w25.sameP h220
     have h225 := u33.sameP h220 o16
     have ap95 := w25.vec h216
     have h226 := u33.vec h216 ap89.symm
     refine Opl.p1 (n := Opl.nil ?_)
     exact hk8 _ _ ⟨_, _, _, _, _, H, by omega, ⟨rfl, rfl, rfl, rfl, rfl, rfl, trivial⟩, h223, h226, h222, h225, ap91, ap94, ap88, ap92, ap95⟩
   ·
    by_cases c33 : r2.2 ≥ 7
    case neg =>
     rw [if_neg c33] at H
     have e31 : (decide (r2.2 ≥ 7)) = false := by simpa using c33
     try rw [e31]
     refine Evr.condF rfl (Evr.skip ?_)
     exact hk7 _ _ ⟨_, _, _, _, _, H, by omega, ⟨rfl, rfl, rfl, rfl, rfl, rfl, rfl, rfl, rfl, trivial⟩, h27, h28, h29, h26, h30, o1, o2, ap12, ap6, ap7, ap9, ap8, ap10, ap11⟩
    rw [if_pos c33] at H
    have e30 : (decide (r2.2 ≥ 7)) = true := by simpa using c33
    try rw [e30]
    refine Evr.condT rfl (Evr.regionN rfl (Opl.p1 (n := Opl.nil ?_)))
    exact hk7 _ _ ⟨_, _, _, _, _, H, by omega, ⟨rfl, rfl, rfl, rfl, rfl, rfl, rfl, rfl, rfl, trivial⟩, h27, h28, h29, h26, h30, o1, o2, ap12, ap6, ap7, ap9, ap8, ap10, ap11⟩
  rw [if_pos c14] at H
  have e14 : (decide (r2.2 < 2)) = true := by simpa using c14
  try rw [e14]
  refine Evr.condT rfl (Evr.sr rfl (Opl.p1 (n := ?_)))
  obtain ⟨r6, h_r6, H⟩ := obs H
  refine Opl.calls (spec_l1Number.evb hq0 h27 h_r6) rfl rfl rfl rfl rfl ?_
  rintro _ S ⟨rfl, h105, u17⟩
  have h106 := u17.vec h28 (ap6.symm).pt
  have h107 := u17.vec h29 (ap7.symm).pt
  have h108 := u17.sameP h30 OutT.box
  have h109 := u17.box h26 (ap9.symm).pt
  refine Opl.p1 (v := .agg [.lit (.int .i64 0), .lit (.int .i64 r6.2), .lit (.int .i64 0), .lit (.int .i64 0)]) (n := Opl.stb (vs := [.lit (.int .i64 0), .lit (.int .i64 r6.2), .lit (.int .i64 0), .lit (.int .i64 0)]) h109 rfl rfl Z128 rfl (Nat.le_of_ble_eq_true rfl) rfl rfl rfl rfl ?_)
  rintro S (h110 : Box (.ptr i1 0) [.lit (.int .i64 0), .lit (.int .i64 r6.2), .lit (.int .i64 0), .lit (.int .i64 0)] _) u18
  have h111 := u18.box h105 ap9
  have h112 := u18.vec h106 ap10
  have h113 := u18.vec h107 ap11
  have h114 := u18.sameP h108 ap12
  refine Opl.nil (Evr.sr rfl (Opl.p1 (n := Opl.p1 (n := Opl.p1 (n := ?_)))))
  by_cases c15 : a1 > 0
  case neg =>
   rw [if_neg c15] at H
   have e22 : (decide (a1 > 0)) = false := by simpa using c15
   try rw [e22]
   refine Opl.sk2 rfl rfl (Opl.p1 (n := Opl.nil (Evr.condF rfl (Evr.skip (Evr.sr rfl (Opl.ldb (v := .agg [.lit (.int .i64 0), .lit (.int .i64 r6.2), .lit (.int .i64 0), .lit (.int .i64 0)]) h110 rfl T128 rfl rfl rfl rfl (Opl.p1 (n := Opl.p1 (n := ?_)))))))))
   obtain _ | k17 := n1
   · simp [spec_l1Terms.j6] at H
   simp only [spec_l1Terms.j6] at H
   obtain _ | k18 := k17
   · simp [spec_l1Terms.j5] at H
   simp only [spec_l1Terms.j5] at H
   obtain _ | k19 := k18
   · simp [spec_l1Terms.j2] at H
   simp only [spec_l1Terms.j2] at H
   obtain ⟨r3, h_r3, H⟩ := obs H
   obtain ⟨pv52, h161, -, h162⟩ := Out.vec h113
   refine Opl.callw (spec_l1Kind.ev h162 h_r3) rfl rfl rfl (.cons (.refl _) (.cons h161 (.cons (.refl _) .nil))) ⟨(.aggL ⟨(.lit _), (.lit _), (.lit _), (.lit _), trivial⟩), h162.plain, (.lit _), trivial⟩ (by decide) (Opl.p1 (n := Opl.nil (Evr.sr rfl (Opl.p1 (n := Opl.p1 (n := Opl.nil ?_))))))
   refine Evr.join (fun tm S => ∃ (kq6 : Nat) (x9q3_7 : List ITerm) (x10q3_7 : List Int) (pv53 : PV) (pv54 : PV), spec_l1Terms.l1 kq6 r6.1 x9q3_7 x10q3_7 (wrap64 (x11_1 - 1)) l0_0 a1 a2 = some r ∧ kq6 ≤ k19 ∧ Has tm [(0, .ptr i0 0), (1, .lit (.int .i64 a1)), (2, .lit (.int .i64 a2)), (9, pv53), (10, pv54), (11, .lit (.int .i64 x11_1))] ∧ Box (.ptr i0 0) [q0, .lit (.int .i64 r6.1)] S ∧ Vec cITerm x9q3_7 pv53 S ∧ Vec (cInt .i64) x10q3_7 pv54 S ∧ Same S0 S [i0] ∧ OutT S0 [i0] (PV.id? pv53).toList ∧ OutT S0 [i0] (PV.id? pv54).toList ∧ Ap (.ptr i0 0) pv53 ∧ Ap (.ptr i0 0) pv54 ∧ Ap pv53 pv54) ?_ fun hk6 => ?_
   ·
    rintro tm S ⟨kq6, x9q3_7, x10q3_7, pv53, pv54, H, hle, hh, h163, h164, h165, h166, o13, o14, ap68, ap69, ap70⟩
    rw [hh.eq]
    refine Evr.inBlock (Evr.regionN rfl (Opl.p1 (n := Opl.subi (k := .i64) (a := x11_1) (b := 1) K3 rfl rfl rfl rfl (Opl.one (v := .lit (.int .i64 (wrap64 (x11_1 - 1)))) rfl rfl rfl (Opl.nil ?_)))))
    exact ih1 _ (by omega) _ _ ⟨by omega, _, _, _, _, _, _, H, ⟨rfl, rfl, rfl, rfl, rfl, rfl, trivial⟩, h163, h164, h165, h166, o13, o14, ap68, ap69, ap70⟩
   ·
    by_cases c23 : r3 ≠ 0
    case neg =>
     rw [if_neg c23] at H
     have e24 : (r3 != 0) = false := by simpa using c23
     try rw [e24]
     refine Evr.condF rfl (Evr.skip ?_)
     exact hk6 _ _ ⟨_, _, _, _, _, H, by omega, ⟨rfl, rfl, rfl, rfl, rfl, rfl, trivial⟩, h111, h112, h113, h114, o1, o2, ap6, ap7, ap8⟩
    rw [if_pos c23] at H
    have e23 : (r3 != 0) = true := by simpa using c23
    try rw [e23]
    refine Evr.condT rfl (Evr.sr rfl (Opl.p1 (n := Opl.ldb (v := .agg [.lit (.int .i64 0), .lit (.int .i64 r6.2), .lit (.int .i64 0), .lit (.int .i64 0)]) h110 rfl T128 rfl rfl rfl rfl (Opl.liti (M := cITerm) (ys := [(⟨0, r6.2, 0, 0⟩ : ITerm)]) [.tmp 77] K66 T128 rfl rfl rfl (by exact ⟨cITerm_mk, trivial⟩) rfl (by decide) rfl rfl ?_))))
    rintro pv56 h167
    obtain ⟨c24, H⟩ := peel H
    obtain ⟨c25, H⟩ := peel H
    refine Opl.app (M := cITerm) (xs := x9q3_1) (ys := [(⟨0, r6.2, 0, 0⟩ : ITerm)]) (v := pv3) h112 (.sl h167) oITerm rfl rfl K66 T128 rfl rfl (by (try simp only [List.length_cons, List.length_nil]); omega) (by show (_ + _) * 32 ≤ 140737488355328; (try simp only [List.length_cons, List.length_nil]); omega) rfl rfl rfl rfl rfl ?_
    rintro pv57 S h168 u25 w19
    have ap71 := w19.box h111
    have h169 := u25.box h111 ap6
    have ap72 := w19.vec h113
    have h170 := u25.vec h113 ap8.symm
    have ap73 := w19.sameP h114
    have h171 := u25.sameP h114 o1
    have ap74 := w19.box h110
    have h172 := u25.box h110 ap10.symm
    refine Opl.p1 (n := Opl.nil (Evr.regionN rfl (Opl.p1 (n := Opl.p1 (n := Opl.liti (M := (cInt .i64)) (ys := [r3]) [.tmp 81] K27 T3 rfl rfl rfl (by exact ⟨rfl, trivial⟩) rfl (by decide) rfl rfl ?_)))))
    rintro pv59 h173
    refine Opl.app (M := (cInt .i64)) (xs := x10q3_1) (ys := [r3]) (v := pv4) h170 (.sl h173) (oInt .i64) rfl rfl K27 T3 rfl rfl (by (try simp only [List.length_cons, List.length_nil]); omega) (by show (_ + _) * 8 ≤ 140737488355328; (try simp only [List.length_cons, List.length_nil]); omega) rfl rfl rfl rfl rfl ?_
    rintro pv60 S h174 u26 w20
    have ap75 := w20.box h169
    have h175 := u26.box h169 ap7
    have ap76 := w20.sameP h171
    have h176 := u26.sameP h171 o2
    have ap77 := w20.box h172
    have h177 := u26.box h172 ap11.symm
    have ap78 := w20.vec h168
    have h178 := u26.vec h168 ap72.symm
    refine Opl.p1 (n := Opl.nil ?_)
    exact hk6 _ _ ⟨_, _, _, _, _, H, by omega, ⟨rfl, rfl, rfl, rfl, rfl, rfl, trivial⟩, h175, h178, h174, h176, ap73, ap76, ap71, ap75, ap78⟩
  rw [if_pos c15] at H
  have e15 : (decide (a1 > 0)) = true := by simpa using c15
  try rw [e15]
  refine Opl.p1 (n := Opl.p1 (n := Opl.p1 (n := Opl.nil ?_)))
  by_cases c16 : r2.2 ≠ 0
  case neg =>
   rw [if_neg c16] at H
   have e19 : (r2.2 != 0) = false := by simpa using c16
   try rw [e19]
   refine Evr.condF rfl (Evr.skip (Evr.sr rfl (Opl.ldb (v := .agg [.lit (.int .i64 0), .lit (.int .i64 r6.2), .lit (.int .i64 0), .lit (.int .i64 0)]) h110 rfl T128 rfl rfl rfl rfl (Opl.p1 (n := Opl.p1 (n := ?_))))))
   obtain _ | k13 := n1
   · simp [spec_l1Terms.j7] at H
   simp only [spec_l1Terms.j7] at H
   obtain _ | k14 := k13
   · simp [spec_l1Terms.j6] at H
   simp only [spec_l1Terms.j6] at H
   obtain _ | k15 := k14
   · simp [spec_l1Terms.j5] at H
   simp only [spec_l1Terms.j5] at H
   obtain _ | k16 := k15
   · simp [spec_l1Terms.j2] at H
   simp only [spec_l1Terms.j2] at H
   obtain ⟨r3, h_r3, H⟩ := obs H
   obtain ⟨pv43, h143, -, h144⟩ := Out.vec h113
   refine Opl.callw (spec_l1Kind.ev h144 h_r3) rfl rfl rfl (.cons (.refl _) (.cons h143 (.cons (.refl _) .nil))) ⟨(.aggL ⟨(.lit _), (.lit _), (.lit _), (.lit _), trivial⟩), h144.plain, (.lit _), trivial⟩ (by decide) (Opl.p1 (n := Opl.nil (Evr.sr rfl (Opl.p1 (n := Opl.p1 (n := Opl.nil ?_))))))
   refine Evr.join (fun tm S => ∃ (kq5 : Nat) (x9q3_6 : List ITerm) (x10q3_6 : List Int) (pv44 : PV) (pv45 : PV), spec_l1Terms.l1 kq5 r6.1 x9q3_6 x10q3_6 (wrap64 (x11_1 - 1)) l0_0 a1 a2 = some r ∧ kq5 ≤ k16 ∧ Has tm [(0, .ptr i0 0), (1, .lit (.int .i64 a1)), (2, .lit (.int .i64 a2)), (9, pv44), (10, pv45), (11, .lit (.int .i64 x11_1))] ∧ Box (.ptr i0 0) [q0, .lit (.int .i64 r6.1)] S ∧ Vec cITerm x9q3_6 pv44 S ∧ Vec (cInt .i64) x10q3_6 pv45 S ∧ Same S0 S [i0] ∧ OutT S0 [i0] (PV.id? pv44).toList ∧ OutT S0 [i0] (PV.id? pv45).toList ∧ Ap (.ptr i0 0) pv44 ∧ Ap (.ptr i0 0) pv45 ∧ Ap pv44 pv45) ?_ fun hk5 => ?_
   ·
    rintro tm S ⟨kq5, x9q3_6, x10q3_6, pv44, pv45, H, hle, hh, h145, h146, h147, h148, o11, o12, ap57, ap58, ap59⟩
    rw [hh.eq]
    refine Evr.inBlock (Evr.regionN rfl (Opl.p1 (n := Opl.subi (k := .i64) (a := x11_1) (b := 1) K3 rfl rfl rfl rfl (Opl.one (v := .lit (.int .i64 (wrap64 (x11_1 - 1)))) rfl rfl rfl (Opl.nil ?_)))))
    exact ih1 _ (by omega) _ _ ⟨by omega, _, _, _, _, _, _, H, ⟨rfl, rfl, rfl, rfl, rfl, rfl, trivial⟩, h145, h146, h147, h148, o11, o12, ap57, ap58, ap59⟩
   ·
    by_cases c20 : r3 ≠ 0
    case neg =>
     rw [if_neg c20] at H
     have e21 : (r3 != 0) = false := by simpa using c20
     try rw [e21]
     refine Evr.condF rfl (Evr.skip ?_)
     exact hk5 _ _ ⟨_, _, _, _, _, H, by omega, ⟨rfl, rfl, rfl, rfl, rfl, rfl, trivial⟩, h111, h112, h113, h114, o1, o2, ap6, ap7, ap8⟩
    rw [if_pos c20] at H
    have e20 : (r3 != 0) = true := by simpa using c20
    try rw [e20]
    refine Evr.condT rfl (Evr.sr rfl (Opl.p1 (n := Opl.ldb (v := .agg [.lit (.int .i64 0), .lit (.int .i64 r6.2), .lit (.int .i64 0), .lit (.int .i64 0)]) h110 rfl T128 rfl rfl rfl rfl (Opl.liti (M := cITerm) (ys := [(⟨0, r6.2, 0, 0⟩ : ITerm)]) [.tmp 77] K66 T128 rfl rfl rfl (by exact ⟨cITerm_mk, trivial⟩) rfl (by decide) rfl rfl ?_))))
    rintro pv47 h149
    obtain ⟨c21, H⟩ := peel H
    obtain ⟨c22, H⟩ := peel H
    refine Opl.app (M := cITerm) (xs := x9q3_1) (ys := [(⟨0, r6.2, 0, 0⟩ : ITerm)]) (v := pv3) h112 (.sl h149) oITerm rfl rfl K66 T128 rfl rfl (by (try simp only [List.length_cons, List.length_nil]); omega) (by show (_ + _) * 32 ≤ 140737488355328; (try simp only [List.length_cons, List.length_nil]); omega) rfl rfl rfl rfl rfl ?_
    rintro pv48 S h150 u23 w17
    have ap60 := w17.box h111
    have h151 := u23.box h111 ap6
    have ap61 := w17.vec h113
    have h152 := u23.vec h113 ap8.symm
    have ap62 := w17.sameP h114
    have h153 := u23.sameP h114 o1
    have ap63 := w17.box h110
    have h154 := u23.box h110 ap10.symm
    refine Opl.p1 (n := Opl.nil (Evr.regionN rfl (Opl.p1 (n := Opl.p1 (n := Opl.liti (M := (cInt .i64)) (ys := [r3]) [.tmp 81] K27 T3 rfl rfl rfl (by exact ⟨rfl, trivial⟩) rfl (by decide) rfl rfl ?_)))))
    rintro pv50 h155
    refine Opl.app (M := (cInt .i64)) (xs := x10q3_1) (ys := [r3]) (v := pv4) h152 (.sl h155) (oInt .i64) rfl rfl K27 T3 rfl rfl (by (try simp only [List.length_cons, List.length_nil]); omega) (by show (_ + _) * 8 ≤ 140737488355328; (try simp only [List.length_cons, List.length_nil]); omega) rfl rfl rfl rfl rfl ?_
    rintro pv51 S h156 u24 w18
    have ap64 := w18.box h151
    have h157 := u24.box h151 ap7
    have ap65 := w18.sameP h153
    have h158 := u24.sameP h153 o2
    have ap66 := w18.box h154
    have h159 := u24.box h154 ap11.symm
    have ap67 := w18.vec h150
    have h160 := u24.vec h150 ap61.symm
    refine Opl.p1 (n := Opl.nil ?_)
    exact hk5 _ _ ⟨_, _, _, _, _, H, by omega, ⟨rfl, rfl, rfl, rfl, rfl, rfl, trivial⟩, h157, h160, h156, h158, ap62, ap65, ap60, ap64, ap67⟩
  rw [if_pos c16] at H
  have e16 : (r2.2 != 0) = true := by simpa using c16
  try rw [e16]
  refine Evr.condT rfl (Evr.regionN rfl (Opl.p1 (n := Opl.p1 (n := ?_))))
  obtain ⟨r7, h_r7, H⟩ := obs H
  refine Opl.calls (spec_l40Rd_pick.evb hq0 h111 h_r7) rfl rfl rfl rfl rfl ?_
  rintro _ S ⟨rfl, h115, u19⟩
  have h116 := u19.vec h112 (ap6.symm).pt
  have h117 := u19.vec h113 (ap7.symm).pt
  have h118 := u19.sameP h114 OutT.box
  have h119 := u19.box h110 (ap9.symm).pt
  refine Opl.p1 (v := .agg [.lit (.int .i64 1), .lit (.int .i64 r7.2), .lit (.int .i64 0), .lit (.int .i64 0)]) (n := ?_)
  obtain _ | k9 := n1
  · simp [spec_l1Terms.j7] at H
  simp only [spec_l1Terms.j7] at H
  obtain _ | k10 := k9
  · simp [spec_l1Terms.j6] at H
  simp only [spec_l1Terms.j6] at H
  obtain _ | k11 := k10
  · simp [spec_l1Terms.j5] at H
  simp only [spec_l1Terms.j5] at H
  obtain _ | k12 := k11
  · simp [spec_l1Terms.j2] at H
  simp only [spec_l1Terms.j2] at H
  refine Opl.stb (vs := [.lit (.int .i64 1), .lit (.int .i64 r7.2), .lit (.int .i64 0), .lit (.int .i64 0)]) h119 rfl rfl Z128 rfl (Nat.le_of_ble_eq_true rfl) rfl rfl rfl rfl ?_
  rintro S (h120 : Box (.ptr i1 0) [.lit (.int .i64 1), .lit (.int .i64 r7.2), .lit (.int .i64 0), .lit (.int .i64 0)] _) u20
  have h121 := u20.box h115 ap9
  have h122 := u20.vec h116 ap10
  have h123 := u20.vec h117 ap11
  have h124 := u20.sameP h118 ap12
  refine Opl.nil (Evr.sr rfl (Opl.ldb (v := .agg [.lit (.int .i64 1), .lit (.int .i64 r7.2), .lit (.int .i64 0), .lit (.int .i64 0)]) h120 rfl T128 rfl rfl rfl rfl (Opl.p1 (n := Opl.p1 (n := ?_)))))
  obtain ⟨r3, h_r3, H⟩ := obs H
  obtain ⟨pv34, h125, -, h126⟩ := Out.vec h123
  refine Opl.callw (spec_l1Kind.ev h126 h_r3) rfl rfl rfl (.cons (.refl _) (.cons h125 (.cons (.refl _) .nil))) ⟨(.aggL ⟨(.lit _), (.lit _), (.lit _), (.lit _), trivial⟩), h126.plain, (.lit _), trivial⟩ (by decide) (Opl.p1 (n := Opl.nil (Evr.sr rfl (Opl.p1 (n := Opl.p1 (n := Opl.nil ?_))))))
  refine Evr.join (fun tm S => ∃ (kq4 : Nat) (x9q3_5 : List ITerm) (x10q3_5 : List Int) (pv35 : PV) (pv36 : PV), spec_l1Terms.l1 kq4 r7.1 x9q3_5 x10q3_5 (wrap64 (x11_1 - 1)) l0_0 a1 a2 = some r ∧ kq4 ≤ k12 ∧ Has tm [(0, .ptr i0 0), (1, .lit (.int .i64 a1)), (2, .lit (.int .i64 a2)), (9, pv35), (10, pv36), (11, .lit (.int .i64 x11_1))] ∧ Box (.ptr i0 0) [q0, .lit (.int .i64 r7.1)] S ∧ Vec cITerm x9q3_5 pv35 S ∧ Vec (cInt .i64) x10q3_5 pv36 S ∧ Same S0 S [i0] ∧ OutT S0 [i0] (PV.id? pv35).toList ∧ OutT S0 [i0] (PV.id? pv36).toList ∧ Ap (.ptr i0 0) pv35 ∧ Ap (.ptr i0 0) pv36 ∧ Ap pv35 pv36) ?_ fun hk4 => ?_
  ·
   rintro tm S ⟨kq4, x9q3_5, x10q3_5, pv35, pv36, H, hle, hh, h127, h128, h129, h130, o9, o10, ap46, ap47, ap48⟩
   rw [hh.eq]
   refine Evr.inBlock (Evr.regionN rfl (Opl.p1 (n := Opl.subi (k := .i64) (a := x11_1) (b := 1) K3 rfl rfl rfl rfl (Opl.one (v := .lit (.int .i64 (wrap64 (x11_1 - 1)))) rfl rfl rfl (Opl.nil ?_)))))
   exact ih1 _ (by omega) _ _ ⟨by omega, _, _, _, _, _, _, H, ⟨rfl, rfl, rfl, rfl, rfl, rfl, trivial⟩, h127, h128, h129, h130, o9, o10, ap46, ap47, ap48⟩
  ·
   by_cases c17 : r3 ≠ 0
   case neg =>
    rw [if_neg c17] at H
    have e18 : (r3 != 0) = false := by simpa using c17
    try rw [e18]
    refine Evr.condF rfl (Evr.skip ?_)
    exact hk4 _ _ ⟨_, _, _, _, _, H, by omega, ⟨rfl, rfl, rfl, rfl, rfl, rfl, trivial⟩, h121, h122, h123, h124, o1, o2, ap6, ap7, ap8⟩
   rw [if_pos c17] at H
   have e17 : (r3 != 0) = true := by simpa using c17
   try rw [e17]
   refine Evr.condT rfl (Evr.sr rfl (Opl.p1 (n := Opl.ldb (v := .agg [.lit (.int .i64 1), .lit (.int .i64 r7.2), .lit (.int .i64 0), .lit (.int .i64 0)]) h120 rfl T128 rfl rfl rfl rfl (Opl.liti (M := cITerm) (ys := [(⟨1, r7.2, 0, 0⟩ : ITerm)]) [.tmp 77] K66 T128 rfl rfl rfl (by exact ⟨cITerm_mk, trivial⟩) rfl (by decide) rfl rfl ?_))))
   rintro pv38 h131
   obtain ⟨c18, H⟩ := peel H
   obtain ⟨c19, H⟩ := peel H
   refine Opl.app (M := cITerm) (xs := x9q3_1) (ys := [(⟨1, r7.2, 0, 0⟩ : ITerm)]) (v := pv3) h122 (.sl h131) oITerm rfl rfl K66 T128 rfl rfl (by (try simp only [List.length_cons, List.length_nil]); omega) (by show (_ + _) * 32 ≤ 140737488355328; (try simp only [List.length_cons, List.length_nil]); omega) rfl rfl rfl rfl rfl ?_
   rintro pv39 S h132 u21 w15
   have ap49 := w15.box h121
   have h133 := u21.box h121 ap6
   have ap50 := w15.vec h123
   have h134 := u21.vec h123 ap8.symm
   have ap51 := w15.sameP h124
   have h135 := u21.sameP h124 o1
   have ap52 := w15.box h120
   have h136 := u21.box h120 ap10.symm
   refine Opl.p1 (n := Opl.nil (Evr.regionN rfl (Opl.p1 (n := Opl.p1 (n := Opl.liti (M := (cInt .i64)) (ys := [r3]) [.tmp 81] K27 T3 rfl rfl rfl (by exact ⟨rfl, trivial⟩) rfl (by decide) rfl rfl ?_)))))
   rintro pv41 h137
   refine Opl.app (M := (cInt .i64)) (xs := x10q3_1) (ys := [r3]) (v := pv4) h134 (.sl h137) (oInt .i64) rfl rfl K27 T3 rfl rfl (by (try simp only [List.length_cons, List.length_nil]); omega) (by show (_ + _) * 8 ≤ 140737488355328; (try simp only [List.length_cons, List.length_nil]); omega) rfl rfl rfl rfl rfl ?_
   rintro pv42 S h138 u22 w16
   have ap53 := w16.box h133
   have h139 := u22.box h133 ap7
   have ap54 := w16.sameP h135
   have h140 := u22.sameP h135 o2
   have ap55 := w16.box h136
   have h141 := u22.box h136 ap11.symm
   have ap56 := w16.vec h132
   have h142 := u22.vec h132 ap50.symm
   refine Opl.p1 (n := Opl.nil ?_)
   exact hk4 _ _ ⟨_, _, _, _, _, H, by omega, ⟨rfl, rfl, rfl, rfl, rfl, rfl, trivial⟩, h139, h142, h138, h140, ap51, ap54, ap49, ap53, ap56⟩
theorem spec_l2VarOf.ev {a0 : Int} {r : (Int × Int × Int × Int)} (H : spec_l2VarOf.f a0 = some r) : Ret Try.prog 205 [.lit (.int .i64 a0)] fun v S => Out (fun q => ∃ q1 q2 q3 q4, q = .agg [q1, q2, q3, q4] ∧ q1 = .lit (.int .i64 r.1) ∧ q2 = .lit (.int .i64 r.2.1) ∧ q3 = .lit (.int .i64 r.2.2.1) ∧ q4 = .lit (.int .i64 r.2.2.2)) v S := by
 unfold spec_l2VarOf.f at H
 refine Ret.intro Try.func205 rfl (Nat.le_of_ble_eq_true rfl) rfl ?_
 rw [tm1]
 refine Evr.sr rfl (Opl.alloc T128 rfl rfl rfl ?_)
 rintro i1 S h1 u1 w1
 refine Opl.nil (Evr.sr rfl (Opl.p1 (n := Opl.p1 (v := .agg [.lit (.int .i64 1), .lit (.int .i64 a0), .lit (.int .i64 0), .lit (.int .i64 0)]) (n := Opl.stb (vs := [.lit (.int .i64 1), .lit (.int .i64 a0), .lit (.int .i64 0), .lit (.int .i64 0)]) h1 rfl rfl Z128 rfl (Nat.le_of_ble_eq_true rfl) rfl rfl rfl rfl ?_))))
 rintro S (h2 : Box (.ptr i1 0) [.lit (.int .i64 1), .lit (.int .i64 a0), .lit (.int .i64 0), .lit (.int .i64 0)] _) u2
 refine Opl.nil ?_
 obtain rfl := sinj H
 refine Evr.retb (v := .agg [.lit (.int .i64 1), .lit (.int .i64 a0), .lit (.int .i64 0), .lit (.int .i64 0)]) Try.func205 rfl h2 rfl T128 rfl ?_
 show Out _ (.agg [.lit (.int .i64 1), .lit (.int .i64 a0), .lit (.int .i64 0), .lit (.int .i64 0)]) _
 exact (.agg4 .lit .lit .lit .lit)
theorem spec_l2Value.evv {k : Nat} {S0 : Sto} {l0_0 : List Int} {a0_1 : Int} {i0 : Abs.Id} {q0 : PV} (hq0 : Sl (cInt .u8) l0_0 q0) (hb0 : Box (.ptr i0 0) [q0, .lit (.int .i64 a0_1)] S0) {l1 : List IVar} {v1 : PV} (hv1 : Vec cIVar l1 v1 S0) (pa1 : Ap v1 (.ptr i0 0)) {a2 : Int} {r : Int × (List ITerm)} (H : spec_l2Value.f k l0_0 a0_1 l1 a2 = some r) : RetS Try.prog 200 [.ptr i0 0, v1, .lit (.int .i64 a2)] S0 fun v S => Sl cITerm r.2 v ∧ Box (.ptr i0 0) [q0, .lit (.int .i64 r.1)] S ∧ Same S0 S [i0] := by
 have hs0 : Same S0 S0 [i0] := .refl _ _
 unfold spec_l2Value.f at H
 refine RetS.intro Try.func200 rfl (Nat.le_of_ble_eq_true rfl) rfl ?_
 rw [tm3]
 refine Evr.sr rfl (Opl.p1 (n := Opl.nil (Evr.sr rfl (Opl.p1 (n := ?_)))))
 obtain ⟨r1, h_r1, H⟩ := obs H
 refine Opl.calls (spec_l40Rd_pick.evb hq0 hb0 h_r1) rfl rfl rfl rfl rfl ?_
 rintro _ S ⟨rfl, h1, u1⟩
 have h2 := u1.sameP hs0 OutT.box
 have h3 := u1.vec hv1 (pa1).pt
 refine Opl.p1 (n := Opl.nil (Evr.seq (Evr.sr rfl (Opl.p1 (n := Opl.p1 (n := Opl.nil ?_))))))
 by_cases c1 : r1.2 < 3
 case pos =>
  rw [if_pos c1] at H
  have e1 : (decide (r1.2 < 3)) = true := by simpa using c1
  try rw [e1]
  refine Evr.condT rfl (Evr.sr rfl (Opl.p1 (n := ?_)))
  obtain ⟨r2, h_r2, H⟩ := obs H
  refine Opl.call (spec_l2VarOf.ev h_r2) rfl rfl rfl rfl ⟨(.lit _), trivial⟩ (by decide) ?_
  rintro _ ⟨_, _, _, _, rfl, rfl, rfl, rfl, rfl⟩
  obtain ⟨r3, h_r3, H⟩ := obs H
  refine Opl.call (spec_l2Const.ev h_r3) rfl rfl rfl rfl ⟨(.lit _), trivial⟩ (by decide) ?_
  rintro _ ⟨_, _, _, _, rfl, rfl, rfl, rfl, rfl⟩
  refine Opl.p1 (n := Opl.liti (M := (cInt .i64)) (ys := [2, 3]) [.const (.int .i64 2), .const (.int .i64 3)] K27 T3 rfl rfl rfl (by exact ⟨rfl, rfl, trivial⟩) rfl (by decide) rfl rfl ?_)
  rintro pv4 h6
  obtain ⟨r4, h_r4, H⟩ := obs H
  refine Opl.calls (spec_l40Rd_num.evb hq0 h1 h6 h_r4) rfl rfl rfl rfl rfl ?_
  rintro _ S ⟨rfl, h7, u2⟩
  have h8 := u2.sameP h2 OutT.box
  have h9 := u2.vec h3 (pa1).pt
  refine Opl.p1 (v := .agg [.lit (.int .i64 r4.2), .lit (.int .i64 0), .lit (.int .i64 0), .lit (.int .i64 1)]) (n := Opl.lits (M := cITerm) (ys := [(⟨r2.1, r2.2.1, r2.2.2.1, r2.2.2.2⟩ : ITerm), (⟨r3.1, r3.2.1, r3.2.2.1, r3.2.2.2⟩ : ITerm), (⟨r4.2, 0, 0, 1⟩ : ITerm)]) [.tmp 13, .tmp 14, .tmp 18] K66 T128 rfl rfl rfl (by exact ⟨cITerm_mk, cITerm_mk, cITerm_mk, trivial⟩) rfl (by decide) rfl rfl rfl ?_)
  rintro pv5 S h10 u3 w1
  have ap1 := w1.sameP h8
  have h11 := u3.sameP h8 ap1
  have ap2 := w1.box h7
  have h12 := u3.box h7 ap2
  have ap3 := w1.vec h9
  have h13 := u3.vec h9 ap3
  refine Opl.p1 (n := Opl.nil ?_)
  refine Evr.frz 6 h10 rfl ?_
  rintro pv6 S h14 u4
  have h15 := u4.sameP h11 ap1
  have h16 := u4.box h12 ap2
  have h17 := u4.vec h13 ap3
  obtain rfl := sinj H
  refine Evr.ret1 Try.func200 rfl ?_
  exact ⟨h14, h16, h15⟩
 rw [if_neg c1] at H
 have e2 : (decide (r1.2 < 3)) = false := by simpa using c1
 try rw [e2]
 refine Evr.condF rfl (Evr.skip (Evr.seq (Evr.sr rfl (Opl.p1 (n := Opl.p1 (n := Opl.nil ?_))))))
 by_cases c2 : r1.2 = 3
 case neg =>
  rw [if_neg c2] at H
  have e4 : (r1.2 == 3) = false := by simpa using c2
  try rw [e4]
  refine Evr.condF rfl (Evr.skip (Evr.seq (Evr.sr rfl (Opl.p1 (n := Opl.p1 (n := Opl.nil ?_))))))
  by_cases c9 : r1.2 = 4
  case neg =>
   rw [if_neg c9] at H
   have e6 : (r1.2 == 4) = false := by simpa using c9
   try rw [e6]
   refine Evr.condF rfl (Evr.skip (Evr.sr rfl (Opl.p1 (n := Opl.p1 (n := Opl.lenv (xs := l1) (by exact h3) K23 rfl rfl rfl rfl ?_)))))
   obtain ⟨r9, h_r9, H⟩ := obs H
   refine Opl.calls (spec_l1Terms.evb hq0 h1 h_r9) rfl rfl rfl rfl rfl ?_
   rintro pv13 S ⟨h51, w4, h52, u11⟩
   have h53 := u11.sameP h2 OutT.box
   have h54 := u11.vec h3 (pa1).pt
   have ap10 := w4.sameP h2
   have ap11 := w4.box h1
   have ap12 := w4.vec h3
   refine Opl.p1 (n := Opl.nil ?_)
   refine Evr.frz 6 h51 rfl ?_
   rintro pv14 S h55 u12
   have h56 := u12.sameP h53 ap10
   have h57 := u12.box h52 ap11
   have h58 := u12.vec h54 ap12
   obtain rfl := sinj H
   refine Evr.ret1 Try.func200 rfl ?_
   exact ⟨h55, h57, h56⟩
  rw [if_pos c9] at H
  have e5 : (r1.2 == 4) = true := by simpa using c9
  try rw [e5]
  refine Evr.condT rfl (Evr.sr rfl (Opl.p1 (n := Opl.p1 (n := Opl.lenv (xs := l1) (by exact h3) K23 rfl rfl rfl rfl ?_))))
  obtain ⟨r7, h_r7, H⟩ := obs H
  refine Opl.calls (spec_l40Rd_pick.evb hq0 h1 h_r7) rfl rfl rfl rfl rfl ?_
  rintro _ S ⟨rfl, h39, u8⟩
  have h40 := u8.sameP h2 OutT.box
  have h41 := u8.vec h3 (pa1).pt
  obtain ⟨r8, h_r8, H⟩ := obs H
  refine Opl.call (spec_l2VarOf.ev h_r8) rfl rfl rfl rfl ⟨(.lit _), trivial⟩ (by decide) ?_
  rintro _ ⟨_, _, _, _, rfl, rfl, rfl, rfl, rfl⟩
  refine Opl.lits (M := cITerm) (ys := [(⟨r8.1, r8.2.1, r8.2.2.1, r8.2.2.2⟩ : ITerm)]) [.tmp 50] K66 T128 rfl rfl rfl (by exact ⟨cITerm_mk, trivial⟩) rfl (by decide) rfl rfl rfl ?_
  rintro pv11 S h43 u9 w3
  have ap7 := w3.sameP h40
  have h44 := u9.sameP h40 ap7
  have ap8 := w3.box h39
  have h45 := u9.box h39 ap8
  have ap9 := w3.vec h41
  have h46 := u9.vec h41 ap9
  refine Opl.p1 (n := Opl.nil ?_)
  refine Evr.frz 6 h43 rfl ?_
  rintro pv12 S h47 u10
  have h48 := u10.sameP h44 ap7
  have h49 := u10.box h45 ap8
  have h50 := u10.vec h46 ap9
  obtain rfl := sinj H
  refine Evr.ret1 Try.func200 rfl ?_
  exact ⟨h47, h49, h48⟩
 rw [if_pos c2] at H
 have e3 : (r1.2 == 3) = true := by simpa using c2
 try rw [e3]
 refine Evr.condT rfl (Evr.seq (Evr.regionL [(18, .m), (4, .q), (10, .q), (15, .q)] rfl (by kernel_rfl) (Opl.p1 (n := Opl.p1 (n := ?_)))))
 obtain ⟨c3, H⟩ := peel H
 obtain ⟨c4, H⟩ := peel H
 obtain ⟨c5, H⟩ := peel H
 obtain ⟨c6, H⟩ := peel H
 obtain ⟨c7, H⟩ := peel H
 obtain ⟨c8, H⟩ := peel H
 refine Opl.idv (M := cIVar) (xs := l1) (j := a2) (v := v1) h3 rfl rfl (by omega) (by omega) K23 Z101 rfl rfl ?_
 rintro d1 z1 q1 h18 h19
 refine Opl.p1 (v := .ptr d1 (a2.toNat * cIVar.n + 0)) (n := Opl.ldvk (M := cIVar) (xs := l1) (j := a2) 0 zIVar h18 h19 (by omega) (by omega) (by decide) rfl T3 rfl rfl rfl ?_)
 rintro p1 q2 h20
 obtain rfl := cIVar_R (x := (rd_IVar l1 a2)) h20
 refine ⟨.lit (.int .i64 ((rd_IVar l1 a2).f0)), rfl, ?_⟩
 refine Opl.p1 (n := Opl.p1 (n := Opl.p1 (n := Opl.idv (M := cIVar) (xs := l1) (j := a2) (v := v1) h3 rfl rfl (by omega) (by omega) K23 Z101 rfl rfl ?_)))
 rintro d2 z2 q3 h21 h22
 refine Opl.p1 (v := .ptr d2 (a2.toNat * cIVar.n + 1)) (n := Opl.ldvk (M := cIVar) (xs := l1) (j := a2) 1 zIVar h21 h22 (by omega) (by omega) (by decide) rfl T3 rfl rfl rfl ?_)
 rintro p2 q4 h23
 obtain rfl := cIVar_R (x := (rd_IVar l1 a2)) h23
 refine ⟨.lit (.int .i64 ((rd_IVar l1 a2).f1)), rfl, ?_⟩
 refine Opl.p1 (n := Opl.p1 (n := Opl.idv (M := cIVar) (xs := l1) (j := a2) (v := v1) h3 rfl rfl (by omega) (by omega) K23 Z101 rfl rfl ?_))
 rintro d3 z3 q5 h24 h25
 refine Opl.p1 (v := .ptr d3 (a2.toNat * cIVar.n + 0)) (n := Opl.ldvk (M := cIVar) (xs := l1) (j := a2) 0 zIVar h24 h25 (by omega) (by omega) (by decide) rfl T3 rfl rfl rfl ?_)
 rintro p3 q6 h26
 obtain rfl := cIVar_R (x := (rd_IVar l1 a2)) h26
 refine ⟨.lit (.int .i64 ((rd_IVar l1 a2).f0)), rfl, ?_⟩
 refine Opl.subi (k := .i64) (a := ((rd_IVar l1 a2).f1)) (b := ((rd_IVar l1 a2).f0)) K3 rfl rfl rfl rfl (Opl.add (k := .i64) (a := (wrap64 (((rd_IVar l1 a2).f1) - ((rd_IVar l1 a2).f0)))) (b := 1) K3 rfl rfl rfl rfl ?_)
 obtain ⟨r5, h_r5, H⟩ := obs H
 refine Opl.callbm h1 (spec_l40Rd_pick.evb hq0 h1 h_r5) rfl rfl rfl rfl rfl ?_
 rintro _ S rfl h27 u5
 have h28 := u5.sameP h2 OutT.box
 have h29 := u5.vec h3 (pa1).pt
 refine Opl.add (k := .i64) (a := ((rd_IVar l1 a2).f0)) (b := r5.2) K3 rfl rfl rfl rfl ?_
 obtain ⟨r6, h_r6, H⟩ := obs H
 refine Opl.call (spec_l2Const.ev h_r6) rfl rfl rfl rfl ⟨(.lit _), trivial⟩ (by decide) ?_
 rintro _ ⟨_, _, _, _, rfl, rfl, rfl, rfl, rfl⟩
 refine Opl.lits (M := cITerm) (ys := [(⟨r6.1, r6.2.1, r6.2.2.1, r6.2.2.2⟩ : ITerm)]) [.tmp 42] K66 T128 rfl rfl rfl (by exact ⟨cITerm_mk, trivial⟩) rfl (by decide) rfl rfl rfl ?_
 rintro pv8 S h31 u6 w2
 have ap4 := w2.sameP h28
 have h32 := u6.sameP h28 ap4
 have ap5 := w2.box h27
 have h33 := u6.box h27 ap5
 have ap6 := w2.vec h29
 have h34 := u6.vec h29 ap6
 refine Opl.one (v := pv8) rfl rfl rfl (Opl.nil ?_)
 refine Evr.frz 6 h31 rfl ?_
 rintro pv9 S h35 u7
 have h36 := u7.sameP h32 ap4
 have h37 := u7.box h33 ap5
 have h38 := u7.vec h34 ap6
 obtain rfl := sinj H
 refine Evr.ret1 Try.func200 rfl ?_
 exact ⟨h35, h37, h36⟩
theorem spec_TermsValid.ev {k : Nat} {l0 : List ITerm} {v0 : PV} (hv0 : Sl cITerm l0 v0) {a1 : Int} {r : Bool} (H : spec_TermsValid.f k l0 a1 = some r) : Ret Try.prog 121 [v0, .lit (.int .i64 a1)] fun v S => v = .lit (.bool r) := by
 unfold spec_TermsValid.f at H
 refine Ret.intro Try.func121 rfl (Nat.le_of_ble_eq_true rfl) rfl ?_
 rw [tm2]
 refine Evr.sr rfl (Opl.p1 (n := Opl.nil (Evr.sr rfl (Opl.p1 (n := Opl.p1 (n := ?_))))))
 obtain ⟨t155, h_t155, H⟩ := obs H
 refine Opl.call ((spec_KindsOf.ev hv0 h_t155).mono fun _ _ h => Out.vec h) rfl rfl rfl rfl ⟨hv0.plain, (.lit _), trivial⟩ (by decide) ?_
 rintro pv1 h1
 refine Opl.len (xs := t155) (by exact h1) K27 rfl rfl rfl rfl (Opl.p1 (n := Opl.p1 (n := Opl.nil ?_)))
 obtain rfl := sinj H
 refine Evr.ret1 Try.func121 rfl ?_
 show (.lit (.bool (decide ((t155.length : Int) > 0))) : PV) = _
 first | rfl | (simp only [go_sem]; rfl)
theorem spec_l1Moved.ev {a0_0 : Int} {a0_1 : Int} {a0_2 : Int} {a0_3 : Int} {a1 : Int} {r : (Int × Int × Int × Int)} (H : spec_l1Moved.f a0_0 a0_1 a0_2 a0_3 a1 = some r) : Ret Try.prog 206 [.agg [.lit (.int .i64 a0_0), .lit (.int .i64 a0_1), .lit (.int .i64 a0_2), .lit (.int .i64 a0_3)], .lit (.int .i64 a1)] fun v S => Out (fun q => ∃ q1 q2 q3 q4, q = .agg [q1, q2, q3, q4] ∧ q1 = .lit (.int .i64 r.1) ∧ q2 = .lit (.int .i64 r.2.1) ∧ q3 = .lit (.int .i64 r.2.2.1) ∧ q4 = .lit (.int .i64 r.2.2.2)) v S := by
 unfold spec_l1Moved.f at H
 refine Ret.intro Try.func206 rfl (Nat.le_of_ble_eq_true rfl) rfl ?_
 rw [tm2]
 refine Evr.sr rfl (Opl.box (cs := [.lit (.int .i64 a0_0), .lit (.int .i64 a0_1), .lit (.int .i64 a0_2), .lit (.int .i64 a0_3)]) rfl rfl rfl rfl ?_)
 rintro i1 S h1 u1 w1
 refine Opl.alloc T128 rfl rfl rfl ?_
 rintro i2 S h2 u2 w2
 have ap1 := w2.box h1
 have h3 := u2.box h1 ap1
 refine Opl.nil (Evr.seq (Evr.sr rfl (Opl.p1 (v := .ptr i1 0) (n := Opl.ldb (v := .lit (.int .i64 a0_0)) h3 rfl T3 rfl rfl rfl rfl (Opl.p1 (n := Opl.nil ?_))))))
 by_cases c1 : a0_0 ≥ 2
 case neg =>
  rw [if_neg c1] at H
  have e2 : (decide (a0_0 ≥ 2)) = false := by simpa using c1
  try rw [e2]
  refine Evr.condF rfl (Evr.skip (Evr.sr rfl (Opl.ldb (v := .agg [.lit (.int .i64 a0_0), .lit (.int .i64 a0_1), .lit (.int .i64 a0_2), .lit (.int .i64 a0_3)]) h3 rfl T128 rfl rfl rfl rfl (Opl.stb (vs := [.lit (.int .i64 a0_0), .lit (.int .i64 a0_1), .lit (.int .i64 a0_2), .lit (.int .i64 a0_3)]) h2 rfl rfl Z128 rfl (Nat.le_of_ble_eq_true rfl) rfl rfl rfl rfl ?_))))
  rintro S (h6 : Box (.ptr i2 0) [.lit (.int .i64 a0_0), .lit (.int .i64 a0_1), .lit (.int .i64 a0_2), .lit (.int .i64 a0_3)] _) u4
  have h7 := u4.box h3 ap1
  refine Opl.nil ?_
  obtain rfl := sinj H
  refine Evr.retb (v := .agg [.lit (.int .i64 a0_0), .lit (.int .i64 a0_1), .lit (.int .i64 a0_2), .lit (.int .i64 a0_3)]) Try.func206 rfl h6 rfl T128 rfl ?_
  show Out _ (.agg [.lit (.int .i64 a0_0), .lit (.int .i64 a0_1), .lit (.int .i64 a0_2), .lit (.int .i64 a0_3)]) _
  exact (.agg4 .lit .lit .lit .lit)
 rw [if_pos c1] at H
 have e1 : (decide (a0_0 ≥ 2)) = true := by simpa using c1
 try rw [e1]
 refine Evr.condT rfl (Evr.sr rfl (Opl.p1 (v := .ptr i1 0) (n := Opl.ldb (v := .lit (.int .i64 a0_0)) h3 rfl T3 rfl rfl rfl rfl (Opl.p1 (v := .ptr i1 2) (n := Opl.ldb (v := .lit (.int .i64 a0_2)) h3 rfl T3 rfl rfl rfl rfl (Opl.p1 (n := Opl.add (k := .i64) (a := a0_2) (b := a1) K3 rfl rfl rfl rfl (Opl.p1 (v := .ptr i1 3) (n := Opl.ldb (v := .lit (.int .i64 a0_3)) h3 rfl T3 rfl rfl rfl rfl (Opl.one (v := .lit (.int .i64 a1)) rfl rfl rfl (Opl.add (k := .i64) (a := a0_3) (b := a1) K3 rfl rfl rfl rfl (Opl.p1 (v := .agg [.lit (.int .i64 a0_0), .lit (.int .i64 0), .lit (.int .i64 (wrap64 (a0_2 + a1))), .lit (.int .i64 (wrap64 (a0_3 + a1)))]) (n := Opl.stb (vs := [.lit (.int .i64 a0_0), .lit (.int .i64 0), .lit (.int .i64 (wrap64 (a0_2 + a1))), .lit (.int .i64 (wrap64 (a0_3 + a1)))]) h2 rfl rfl Z128 rfl (Nat.le_of_ble_eq_true rfl) rfl rfl rfl rfl ?_)))))))))))))
 rintro S (h4 : Box (.ptr i2 0) [.lit (.int .i64 a0_0), .lit (.int .i64 0), .lit (.int .i64 (wrap64 (a0_2 + a1))), .lit (.int .i64 (wrap64 (a0_3 + a1)))] _) u3
 have h5 := u3.box h3 ap1
 refine Opl.nil ?_
 obtain rfl := sinj H
 refine Evr.retb (v := .agg [.lit (.int .i64 a0_0), .lit (.int .i64 0), .lit (.int .i64 (wrap64 (a0_2 + a1))), .lit (.int .i64 (wrap64 (a0_3 + a1)))]) Try.func206 rfl h4 rfl T128 rfl ?_
 show Out _ (.agg [.lit (.int .i64 a0_0), .lit (.int .i64 0), .lit (.int .i64 (wrap64 (a0_2 + a1))), .lit (.int .i64 (wrap64 (a0_3 + a1)))]) _
 exact (.agg4 .lit .lit .lit .lit)
theorem spec_Joined.ev {k : Nat} {a0 : Int} {l1 : List ITerm} {v1 : PV} (hv1 : Sl cITerm l1 v1) {l2 : List ITerm} {v2 : PV} (hv2 : Sl cITerm l2 v2) {a3 : Int} {r : (List ITerm)} (H : spec_Joined.f k a0 l1 l2 a3 = some r) : Ret Try.prog 204 [.lit (.int .i64 a0), v1, v2, .lit (.int .i64 a3)] fun v S => Vec cITerm r v S := by
 unfold spec_Joined.f at H
 refine Ret.intro Try.func204 rfl (Nat.le_of_ble_eq_true rfl) rfl ?_
 rw [tm4]
 refine Evr.sr rfl (Opl.p1 (n := Opl.nil (Evr.seq (Evr.seq ?_))))
 refine Evr.join (fun tm S => ∃ (kq1 : Nat) (x21_1 : Bool), spec_Joined.j0 kq1 a0 l1 l2 a3 x21_1 = some r ∧ Has tm [(0, .lit (.int .i64 a0)), (1, v1), (2, v2), (3, .lit (.int .i64 a3)), (21, .lit (.bool x21_1))]) ?_ fun hk1 => ?_
 ·
  rintro tm S ⟨kq1, x21_1, H, hh⟩
  rw [hh.eq]
  obtain _ | k1 := kq1
  · simp [spec_Joined.j0] at H
  simp only [spec_Joined.j0] at H
  by_cases c1 : x21_1 = true
  case pos =>
   rw [if_pos c1] at H
   obtain rfl : x21_1 = true := by simpa using c1
   refine Evr.condT rfl (Evr.sr rfl (Opl.p1 (n := Opl.nil ?_)))
   obtain rfl := sinj H
   refine Evr.ret1 Try.func204 rfl ?_
   show Vec _ _ (.lit (.slice none 0 0)) _
   exact .nil
  rw [if_neg c1] at H
  obtain rfl : x21_1 = false := by simpa using c1
  refine Evr.condF rfl (Evr.skip (Evr.sr rfl (Opl.lits (M := cITerm) (ys := []) [] K66 T128 rfl rfl rfl trivial rfl (by decide) rfl rfl rfl ?_)))
  rintro pv1 S h1 u1 w1
  refine Opl.p1 (n := Opl.nil (Evr.seq (Evr.sr rfl (Opl.p1 (n := Opl.nil (Evr.block ?_))))))
  refine Evr.loop (Evr.rounds (n := k1) (Inv := fun n tm S => n ≤ k1 ∧ ∃ (x9_1 : List (ITerm)) (x10_1 : Int) (pv2 : PV), spec_Joined.l0 n a0 l1 l2 a3 x9_1 x10_1 = some r ∧ Has tm [(0, .lit (.int .i64 a0)), (1, v1), (2, v2), (3, .lit (.int .i64 a3)), (9, pv2), (10, .lit (.int .i64 x10_1))] ∧ Vec cITerm x9_1 pv2 S) ?_ ?_ ?_)
  · exact ⟨Nat.le_refl _, _, _, _, H, ⟨rfl, rfl, rfl, rfl, rfl, rfl, trivial⟩, h1⟩
  ·
   rintro tm S ⟨_, _, _, _, H, -⟩
   simp [spec_Joined.l0] at H
  ·
   rintro n1 ih1 tm S ⟨hle, x9_1, x10_1, pv2, H, hh, h2⟩
   simp only [spec_Joined.l0] at H
   rw [hh.eq]
   refine Evr.seq (Evr.sr rfl (Opl.p1 (n := Opl.p1 (n := Opl.len (xs := l1) (by exact hv1) K66 rfl rfl rfl rfl (Opl.p1 (n := Opl.nil ?_))))))
   by_cases c2 : x10_1 < (l1.length : Int)
   case pos =>
    rw [if_pos c2] at H
    have e1 : (decide (x10_1 < (l1.length : Int))) = true := by simpa using c2
    try rw [e1]
    refine Evr.condT rfl (Evr.skip (Evr.seq (Evr.block (Evr.regionN rfl (Opl.p1 (n := Opl.p1 (n := Opl.p1 (n := ?_))))))))
    obtain ⟨c3, H⟩ := peel H
    obtain ⟨c4, H⟩ := peel H
    refine Opl.idx (M := cITerm) (xs := l1) (j := x10_1) zITerm (by exact hv1) rfl (by omega) (by omega) K66 Z128 rfl rfl ?_
    rintro p1 q1 h3
    obtain rfl := cITerm_R (x := (rd_ITerm l1 x10_1)) h3
    refine Opl.lda (.agg [.lit (.int .i64 ((rd_ITerm l1 x10_1).f0)), .lit (.int .i64 ((rd_ITerm l1 x10_1).f1)), .lit (.int .i64 ((rd_ITerm l1 x10_1).f2)), .lit (.int .i64 ((rd_ITerm l1 x10_1).f3))]) rfl T128 rfl rfl rfl rfl (Opl.lits (M := cITerm) (ys := [(⟨((rd_ITerm l1 x10_1).f0), ((rd_ITerm l1 x10_1).f1), ((rd_ITerm l1 x10_1).f2), ((rd_ITerm l1 x10_1).f3)⟩ : ITerm)]) [.tmp 33] K66 T128 rfl rfl rfl (by exact ⟨cITerm_mk, trivial⟩) rfl (by decide) rfl rfl rfl ?_)
    rintro pv3 S h4 u2 w2
    have ap1 := w2.vec h2
    have h5 := u2.vec h2 ap1
    refine Opl.app (M := cITerm) (xs := x9_1) (ys := [(⟨((rd_ITerm l1 x10_1).f0), ((rd_ITerm l1 x10_1).f1), ((rd_ITerm l1 x10_1).f2), ((rd_ITerm l1 x10_1).f3)⟩ : ITerm)]) (v := pv2) h5 (.vec h4) oITerm rfl rfl K66 T128 rfl rfl (by (try simp only [List.length_cons, List.length_nil]); omega) (by show (_ + _) * 32 ≤ 140737488355328; (try simp only [List.length_cons, List.length_nil]); omega) rfl rfl rfl rfl rfl ?_
    rintro pv4 S h6 u3 w3
    have ap2 := w3.vec h4
    have h7 := u3.vec h4 ap1.symm
    refine Opl.p1 (n := Opl.nil (Evr.inBlock (Evr.regionN rfl (Opl.p1 (n := Opl.add (k := .i64) (a := x10_1) (b := 1) K3 rfl rfl rfl rfl (Opl.one (v := .lit (.int .i64 (wrap64 (x10_1 + 1)))) rfl rfl rfl (Opl.nil ?_)))))))
    exact ih1 _ (by omega) _ _ ⟨by omega, _, _, _, H, ⟨rfl, rfl, rfl, rfl, rfl, rfl, trivial⟩, h6⟩
   rw [if_neg c2] at H
   have e2 : (decide (x10_1 < (l1.length : Int))) = false := by simpa using c2
   try rw [e2]
   refine Evr.condF rfl (Evr.exit rfl (Evr.seq (Evr.sr rfl (Opl.p1 (n := Opl.nil (Evr.block ?_))))))
   refine Evr.loop (Evr.rounds (n := n1) (Inv := fun n tm S => n ≤ n1 ∧ ∃ (x9_2 : List (ITerm)) (x11_1 : Int) (pv5 : PV), spec_Joined.l1 n a0 l1 l2 a3 x9_2 x11_1 = some r ∧ Has tm [(0, .lit (.int .i64 a0)), (1, v1), (2, v2), (3, .lit (.int .i64 a3)), (9, pv5), (11, .lit (.int .i64 x11_1))] ∧ Vec cITerm x9_2 pv5 S) ?_ ?_ ?_)
   · exact ⟨Nat.le_refl _, _, _, _, H, ⟨rfl, rfl, rfl, rfl, rfl, rfl, trivial⟩, h2⟩
   ·
    rintro tm S ⟨_, _, _, _, H, -⟩
    simp [spec_Joined.l1] at H
   ·
    rintro n2 ih2 tm S ⟨hle, x9_2, x11_1, pv5, H, hh, h8⟩
    simp only [spec_Joined.l1] at H
    rw [hh.eq]
    refine Evr.seq (Evr.sr rfl (Opl.p1 (n := Opl.p1 (n := Opl.len (xs := l2) (by exact hv2) K66 rfl rfl rfl rfl (Opl.p1 (n := Opl.p1 (n := ?_)))))))
    by_cases c5 : x11_1 < (l2.length : Int)
    case neg =>
     rw [if_neg c5] at H
     have e10 : (decide (x11_1 < (l2.length : Int))) = false := by simpa using c5
     try rw [e10]
     refine Opl.sk2 rfl rfl (Opl.skp rfl (Opl.p1 (n := Opl.nil (Evr.condF rfl (Evr.exit rfl (Evr.sr rfl (Opl.p1 (n := Opl.p1 (n := Opl.p1 (n := Opl.len (xs := l1) (by exact hv1) K66 rfl rfl rfl rfl (Opl.subi (k := .i64) (a := (l1.length : Int)) (b := 1) K3 rfl rfl rfl rfl (Opl.one (v := pv5) rfl rfl rfl (Opl.lenv (xs := x9_2) (by exact h8) K66 rfl rfl rfl rfl (Opl.subi (k := .i64) (a := (x9_2.length : Int)) (b := 1) K3 rfl rfl rfl rfl (Opl.p1 (v := .agg [.lit (.int .i64 a0), .lit (.int .i64 0), .lit (.int .i64 (wrap64 ((l1.length : Int) - 1))), .lit (.int .i64 (wrap64 ((x9_2.length : Int) - 1)))]) (n := Opl.lits (M := cITerm) (ys := [(⟨a0, 0, (wrap64 ((l1.length : Int) - 1)), (wrap64 ((x9_2.length : Int) - 1))⟩ : ITerm)]) [.tmp 65] K66 T128 rfl rfl rfl (by exact ⟨cITerm_mk, trivial⟩) rfl (by decide) rfl rfl rfl ?_))))))))))))))))
     rintro pv12 S h21 u8 w8
     have ap7 := w8.vec h8
     have h22 := u8.vec h8 ap7
     obtain _ | k3 := n2
     · simp [spec_Joined.j3] at H
     simp only [spec_Joined.j3] at H
     obtain ⟨c12, H⟩ := peel H
     obtain ⟨y178, hy_, H⟩ := obs H
     obtain rfl := Option.some.inj hy_
     refine Opl.app (M := cITerm) (xs := x9_2) (ys := [(⟨a0, 0, (wrap64 ((l1.length : Int) - 1)), (wrap64 ((x9_2.length : Int) - 1))⟩ : ITerm)]) (v := pv5) h22 (.vec h21) oITerm rfl rfl K66 T128 rfl rfl (by (try simp only [List.length_cons, List.length_nil]); omega) (by show (_ + _) * 32 ≤ 140737488355328; (try simp only [List.length_cons, List.length_nil]); omega) rfl rfl rfl rfl rfl ?_
     rintro pv13 S h23 u9 w9
     have ap8 := w9.vec h21
     have h24 := u9.vec h21 ap7.symm
     refine Opl.one (v := pv13) rfl rfl rfl (Opl.nil (Evr.seq (Evr.sr rfl (Opl.one (v := .lit (.int .i64 a0)) rfl rfl rfl (Opl.p1 (n := Opl.one (v := .lit (.bool (decide (a0 < 2)))) rfl rfl rfl ?_))))))
     by_cases c13 : a0 < 2
     case pos =>
      rw [if_pos c13] at H
      have e11 : (decide (a0 < 2)) = true := by simpa using c13
      try rw [e11]
      refine Opl.sk4 rfl rfl rfl rfl (Opl.p1 (n := Opl.nil (Evr.condT rfl (Evr.sr rfl (Opl.one (v := .lit (.slice none 0 0)) rfl rfl rfl (Opl.nil ?_))))))
      obtain rfl := sinj H
      refine Evr.ret1 Try.func204 rfl ?_
      show Vec _ _ (.lit (.slice none 0 0)) _
      exact .nil
     rw [if_neg c13] at H
     have e12 : (decide (a0 < 2)) = false := by simpa using c13
     try rw [e12]
     refine Opl.one (v := pv13) rfl rfl rfl (Opl.one (v := .lit (.int .i64 a3)) rfl rfl rfl ?_)
     obtain ⟨t181, h_t181, H⟩ := obs H
     obtain ⟨pv14, h25, -, h26⟩ := Out.vec h23
     refine Opl.callw (spec_TermsValid.ev h26 h_t181) rfl rfl rfl (.cons h25 (.cons (.refl _) .nil)) ⟨h26.plain, (.lit _), trivial⟩ (by decide) (Opl.p1 (n := Opl.p1 (n := Opl.nil ?_)))
     by_cases c14 : t181 = true
     case neg =>
      rw [if_neg c14] at H
      have e14 : (!t181) = true := by simpa using c14
      try rw [e14]
      refine Evr.condT rfl (Evr.sr rfl (Opl.one (v := .lit (.slice none 0 0)) rfl rfl rfl (Opl.nil ?_)))
      obtain rfl := sinj H
      refine Evr.ret1 Try.func204 rfl ?_
      show Vec _ _ (.lit (.slice none 0 0)) _
      exact .nil
     rw [if_pos c14] at H
     have e13 : (!t181) = false := by simpa using c14
     try rw [e13]
     refine Evr.condF rfl (Evr.skip (Evr.sr rfl (Opl.one (v := pv13) rfl rfl rfl (Opl.one (v := pv13) rfl rfl rfl (Opl.nil ?_)))))
     obtain rfl := sinj H
     refine Evr.ret1 Try.func204 rfl ?_
     show Vec _ _ pv13 _
     exact h23
    rw [if_pos c5] at H
    have e3 : (decide (x11_1 < (l2.length : Int))) = true := by simpa using c5
    try rw [e3]
    refine Opl.p1 (n := ?_)
    obtain ⟨t169, h_t169, H⟩ := obs H
    refine Opl.callc (spec_l1One.ev h_t169) rfl rfl rfl rfl ⟨(.lit _), trivial⟩ (by decide) (Opl.p1 (n := Opl.p1 (n := Opl.nil ?_)))
    by_cases c6 : t169 = true
    case neg =>
     rw [if_neg c6] at H
     have e9 : (!t169) = true := by simpa using c6
     try rw [e9]
     refine Evr.condT rfl (Evr.skip (Evr.seq (Evr.block (Evr.regionN rfl (Opl.p1 (n := Opl.p1 (n := Opl.p1 (n := ?_))))))))
     obtain ⟨c10, H⟩ := peel H
     refine Opl.idx (M := cITerm) (xs := l2) (j := x11_1) zITerm (by exact hv2) rfl (by omega) (by omega) K66 Z128 rfl rfl ?_
     rintro p2 q2 h15
     obtain rfl := cITerm_R (x := (rd_ITerm l2 x11_1)) h15
     refine Opl.lda (.agg [.lit (.int .i64 ((rd_ITerm l2 x11_1).f0)), .lit (.int .i64 ((rd_ITerm l2 x11_1).f1)), .lit (.int .i64 ((rd_ITerm l2 x11_1).f2)), .lit (.int .i64 ((rd_ITerm l2 x11_1).f3))]) rfl T128 rfl rfl rfl rfl (Opl.p1 (n := Opl.len (xs := l1) (by exact hv1) K66 rfl rfl rfl rfl ?_))
     obtain ⟨bt171, h_bt171, H⟩ := obs H
     refine Opl.call (spec_l1Moved.ev h_bt171) rfl rfl rfl rfl ⟨(.aggL ⟨(.lit _), (.lit _), (.lit _), (.lit _), trivial⟩), (.lit _), trivial⟩ (by decide) ?_
     rintro _ ⟨_, _, _, _, rfl, rfl, rfl, rfl, rfl⟩
     refine Opl.lits (M := cITerm) (ys := [(⟨bt171.1, bt171.2.1, bt171.2.2.1, bt171.2.2.2⟩ : ITerm)]) [.tmp 54] K66 T128 rfl rfl rfl (by exact ⟨cITerm_mk, trivial⟩) rfl (by decide) rfl rfl rfl ?_
     rintro pv10 S h17 u6 w6
     have ap5 := w6.vec h8
     have h18 := u6.vec h8 ap5
     obtain ⟨c11, H⟩ := peel H
     refine Opl.app (M := cITerm) (xs := x9_2) (ys := [(⟨bt171.1, bt171.2.1, bt171.2.2.1, bt171.2.2.2⟩ : ITerm)]) (v := pv5) h18 (.vec h17) oITerm rfl rfl K66 T128 rfl rfl (by (try simp only [List.length_cons, List.length_nil]); omega) (by show (_ + _) * 32 ≤ 140737488355328; (try simp only [List.length_cons, List.length_nil]); omega) rfl rfl rfl rfl rfl ?_
     rintro pv11 S h19 u7 w7
     have ap6 := w7.vec h17
     have h20 := u7.vec h17 ap5.symm
     refine Opl.p1 (n := Opl.nil (Evr.inBlock (Evr.regionN rfl (Opl.p1 (n := Opl.add (k := .i64) (a := x11_1) (b := 1) K3 rfl rfl rfl rfl (Opl.one (v := .lit (.int .i64 (wrap64 (x11_1 + 1)))) rfl rfl rfl (Opl.nil ?_)))))))
     exact ih2 _ (by omega) _ _ ⟨by omega, _, _, _, H, ⟨rfl, rfl, rfl, rfl, rfl, rfl, trivial⟩, h19⟩
    rw [if_pos c6] at H
    have e4 : (!t169) = false := by simpa using c6
    try rw [e4]
    refine Evr.condF rfl (Evr.exit rfl (Evr.sr rfl (Opl.p1 (n := Opl.p1 (n := Opl.p1 (n := Opl.len (xs := l1) (by exact hv1) K66 rfl rfl rfl rfl (Opl.subi (k := .i64) (a := (l1.length : Int)) (b := 1) K3 rfl rfl rfl rfl (Opl.one (v := pv5) rfl rfl rfl (Opl.lenv (xs := x9_2) (by exact h8) K66 rfl rfl rfl rfl (Opl.subi (k := .i64) (a := (x9_2.length : Int)) (b := 1) K3 rfl rfl rfl rfl (Opl.p1 (v := .agg [.lit (.int .i64 a0), .lit (.int .i64 0), .lit (.int .i64 (wrap64 ((l1.length : Int) - 1))), .lit (.int .i64 (wrap64 ((x9_2.length : Int) - 1)))]) (n := Opl.lits (M := cITerm) (ys := [(⟨a0, 0, (wrap64 ((l1.length : Int) - 1)), (wrap64 ((x9_2.length : Int) - 1))⟩ : ITerm)]) [.tmp 65] K66 T128 rfl rfl rfl (by exact ⟨cITerm_mk, trivial⟩) rfl (by decide) rfl rfl rfl ?_))))))))))))
    rintro pv6 S h9 u4 w4
    have ap3 := w4.vec h8
    have h10 := u4.vec h8 ap3
    obtain _ | k2 := n2
    · simp [spec_Joined.j3] at H
    simp only [spec_Joined.j3] at H
    obtain ⟨c7, H⟩ := peel H
    obtain ⟨y178, hy_, H⟩ := obs H
    obtain rfl := Option.some.inj hy_
    refine Opl.app (M := cITerm) (xs := x9_2) (ys := [(⟨a0, 0, (wrap64 ((l1.length : Int) - 1)), (wrap64 ((x9_2.length : Int) - 1))⟩ : ITerm)]) (v := pv5) h10 (.vec h9) oITerm rfl rfl K66 T128 rfl rfl (by (try simp only [List.length_cons, List.length_nil]); omega) (by show (_ + _) * 32 ≤ 140737488355328; (try simp only [List.length_cons, List.length_nil]); omega) rfl rfl rfl rfl rfl ?_
    rintro pv7 S h11 u5 w5
    have ap4 := w5.vec h9
    have h12 := u5.vec h9 ap3.symm
    refine Opl.one (v := pv7) rfl rfl rfl (Opl.nil (Evr.seq (Evr.sr rfl (Opl.one (v := .lit (.int .i64 a0)) rfl rfl rfl (Opl.p1 (n := Opl.one (v := .lit (.bool (decide (a0 < 2)))) rfl rfl rfl ?_))))))
    by_cases c8 : a0 < 2
    case pos =>
     rw [if_pos c8] at H
     have e5 : (decide (a0 < 2)) = true := by simpa using c8
     try rw [e5]
     refine Opl.sk4 rfl rfl rfl rfl (Opl.p1 (n := Opl.nil (Evr.condT rfl (Evr.sr rfl (Opl.one (v := .lit (.slice none 0 0)) rfl rfl rfl (Opl.nil ?_))))))
     obtain rfl := sinj H
     refine Evr.ret1 Try.func204 rfl ?_
     show Vec _ _ (.lit (.slice none 0 0)) _
     exact .nil
    rw [if_neg c8] at H
    have e6 : (decide (a0 < 2)) = false := by simpa using c8
    try rw [e6]
    refine Opl.one (v := pv7) rfl rfl rfl (Opl.one (v := .lit (.int .i64 a3)) rfl rfl rfl ?_)
    obtain ⟨t181, h_t181, H⟩ := obs H
    obtain ⟨pv8, h13, -, h14⟩ := Out.vec h11
    refine Opl.callw (spec_TermsValid.ev h14 h_t181) rfl rfl rfl (.cons h13 (.cons (.refl _) .nil)) ⟨h14.plain, (.lit _), trivial⟩ (by decide) (Opl.p1 (n := Opl.p1 (n := Opl.nil ?_)))
    by_cases c9 : t181 = true
    case neg =>
     rw [if_neg c9] at H
     have e8 : (!t181) = true := by simpa using c9
     try rw [e8]
     refine Evr.condT rfl (Evr.sr rfl (Opl.one (v := .lit (.slice none 0 0)) rfl rfl rfl (Opl.nil ?_)))
     obtain rfl := sinj H
     refine Evr.ret1 Try.func204 rfl ?_
     show Vec _ _ (.lit (.slice none 0 0)) _
     exact .nil
    rw [if_pos c9] at H
    have e7 : (!t181) = false := by simpa using c9
    try rw [e7]
    refine Evr.condF rfl (Evr.skip (Evr.sr rfl (Opl.one (v := pv7) rfl rfl rfl (Opl.one (v := pv7) rfl rfl rfl (Opl.nil ?_)))))
    obtain rfl := sinj H
    refine Evr.ret1 Try.func204 rfl ?_
    show Vec _ _ pv7 _
    exact h11
 ·
  refine Evr.regionN rfl (Opl.p1 (n := Opl.p1 (n := ?_)))
  obtain ⟨t160, h_t160, H⟩ := obs H
  refine Opl.callc (spec_TermsValid.ev hv1 h_t160) rfl rfl rfl rfl ⟨hv1.plain, (.lit _), trivial⟩ (by decide) (Opl.p1 (n := Opl.p1 (n := ?_)))
  by_cases c15 : t160 = true
  case neg =>
   rw [if_neg c15] at H
   have e16 : (!t160) = true := by simpa using c15
   try rw [e16]
   refine Opl.sk4 rfl rfl rfl rfl (Opl.p1 (n := Opl.nil ?_))
   exact hk1 _ _ ⟨_, _, H, ⟨rfl, rfl, rfl, rfl, (by first | rfl | (show PV.lit (.bool _) = _; congr 2; simp_all)), trivial⟩⟩
  rw [if_pos c15] at H
  have e15 : (!t160) = false := by simpa using c15
  try rw [e15]
  refine Opl.p1 (n := Opl.p1 (n := ?_))
  obtain ⟨t161, h_t161, H⟩ := obs H
  refine Opl.callc (spec_TermsValid.ev hv2 h_t161) rfl rfl rfl rfl ⟨hv2.plain, (.lit _), trivial⟩ (by decide) (Opl.p1 (n := Opl.p1 (n := Opl.nil ?_)))
  exact hk1 _ _ ⟨_, _, H, ⟨rfl, rfl, rfl, rfl, (by first | rfl | (show PV.lit (.bool _) = _; congr 2; simp_all)), trivial⟩⟩
theorem spec_l2Cond.evb {k : Nat} {S0 : Sto} {l0_0 : List Int} {a0_1 : Int} {i0 : Abs.Id} {q0 : PV} (hq0 : Sl (cInt .u8) l0_0 q0) (hb0 : Box (.ptr i0 0) [q0, .lit (.int .i64 a0_1)] S0) {a1_0 : Int} {a1_1 : Int} {a1_2 : Int} {a2 : Int} {r : Int × (List ITerm)} (H : spec_l2Cond.f k l0_0 a0_1 a1_0 a1_1 a1_2 a2 = some r) : RetS Try.prog 203 [.ptr i0 0, .agg [.lit (.int .i64 a1_0), .lit (.int .i64 a1_1), .lit (.int .i64 a1_2)], .lit (.int .i64 a2)] S0 fun v S => Sl cITerm r.2 v ∧ Box (.ptr i0 0) [q0, .lit (.int .i64 r.1)] S ∧ Same S0 S [i0] := by
 have hs0 : Same S0 S0 [i0] := .refl _ _
 unfold spec_l2Cond.f at H
 refine RetS.intro Try.func203 rfl (Nat.le_of_ble_eq_true rfl) rfl ?_
 rw [tm3]
 refine Evr.sr rfl (Opl.box (cs := [.lit (.int .i64 a1_0), .lit (.int .i64 a1_1), .lit (.int .i64 a1_2)]) rfl rfl rfl rfl ?_)
 rintro i1 S h1 u1 w1
 have ap1 := w1.sameP hs0
 have h2 := u1.sameP hs0 ap1
 have ap2 := w1.box hb0
 have h3 := u1.box hb0 ap2
 refine Opl.p1 (n := Opl.nil (Evr.seq (Evr.regionL [(9, .m), (1, .q), (4, .q), (6, .q)] rfl (by kernel_rfl) (Opl.p1 (v := .ptr i1 0) (n := Opl.ldbk (v := .lit (.int .i64 a1_0)) h1 rd3 rfl T3 rfl rfl rfl rfl (Opl.p1 (n := Opl.p1 (v := .ptr i1 1) (n := Opl.ldbk (v := .lit (.int .i64 a1_1)) h1 rd3 rfl T3 rfl rfl rfl rfl (Opl.p1 (v := .ptr i1 0) (n := Opl.ldbk (v := .lit (.int .i64 a1_0)) h1 rd3 rfl T3 rfl rfl rfl rfl (Opl.subi (k := .i64) (a := a1_1) (b := a1_0) K3 rfl rfl rfl rfl (Opl.add (k := .i64) (a := (wrap64 (a1_1 - a1_0))) (b := 1) K3 rfl rfl rfl rfl ?_))))))))))))
 obtain ⟨r1, h_r1, H⟩ := obs H
 refine Opl.callbm h3 (spec_l40Rd_pick.evb hq0 h3 h_r1) rfl rfl rfl rfl rfl ?_
 rintro _ S rfl h4 u2
 have h5 := u2.sameP h2 OutT.box
 have h6 := u2.box h1 (ap2.symm).pt
 refine Opl.add (k := .i64) (a := a1_0) (b := r1.2) K3 rfl rfl rfl rfl (Opl.one (v := .lit (.int .i64 (wrap64 (a1_0 + r1.2)))) rfl rfl rfl (Opl.nil (Evr.sr rfl (Opl.one (v := .ptr i0 0) rfl rfl rfl (Opl.liti (M := (cInt .i64)) (ys := [6, 5, 5, 6]) [.const (.int .i64 6), .const (.int .i64 5), .const (.int .i64 5), .const (.int .i64 6)] K27 T3 rfl rfl rfl (by exact ⟨rfl, rfl, rfl, rfl, trivial⟩) rfl (by decide) rfl rfl ?_)))))
 rintro pv2 h7
 obtain ⟨r2, h_r2, H⟩ := obs H
 refine Opl.calls (spec_l40Rd_num.evb hq0 h4 h7 h_r2) rfl rfl rfl rfl rfl ?_
 rintro _ S ⟨rfl, h8, u3⟩
 have h9 := u3.sameP h5 OutT.box
 have h10 := u3.box h6 (ap2.symm).pt
 refine Opl.one (v := .lit (.int .i64 r2.2)) rfl rfl rfl (Opl.nil (Evr.sr rfl (Opl.one (v := .lit (.int .i64 a2)) rfl rfl rfl ?_)))
 obtain ⟨r3, h_r3, H⟩ := obs H
 refine Opl.call (spec_l2VarOf.ev h_r3) rfl rfl rfl rfl ⟨(.lit _), trivial⟩ (by decide) ?_
 rintro _ ⟨_, _, _, _, rfl, rfl, rfl, rfl, rfl⟩
 refine Opl.one (v := .lit (.int .i64 (wrap64 (a1_0 + r1.2)))) rfl rfl rfl ?_
 obtain ⟨r4, h_r4, H⟩ := obs H
 refine Opl.call (spec_l2Const.ev h_r4) rfl rfl rfl rfl ⟨(.lit _), trivial⟩ (by decide) ?_
 rintro _ ⟨_, _, _, _, rfl, rfl, rfl, rfl, rfl⟩
 refine Opl.one (v := .lit (.int .i64 r2.2)) rfl rfl rfl (Opl.p1 (v := .agg [.lit (.int .i64 r2.2), .lit (.int .i64 0), .lit (.int .i64 0), .lit (.int .i64 1)]) (n := Opl.lits (M := cITerm) (ys := [(⟨r3.1, r3.2.1, r3.2.2.1, r3.2.2.2⟩ : ITerm), (⟨r4.1, r4.2.1, r4.2.2.1, r4.2.2.2⟩ : ITerm), (⟨r2.2, 0, 0, 1⟩ : ITerm)]) [.tmp 25, .tmp 27, .tmp 29] K66 T128 rfl rfl rfl (by exact ⟨cITerm_mk, cITerm_mk, cITerm_mk, trivial⟩) rfl (by decide) rfl rfl rfl ?_))
 rintro pv5 S h13 u4 w2
 have ap3 := w2.sameP h9
 have h14 := u4.sameP h9 ap3
 have ap4 := w2.box h8
 have h15 := u4.box h8 ap4
 have ap5 := w2.box h10
 have h16 := u4.box h10 ap5
 refine Opl.one (v := pv5) rfl rfl rfl (Opl.nil (Evr.seq (Evr.sr rfl (Opl.one (v := .ptr i0 0) rfl rfl rfl ?_))))
 obtain ⟨r5, h_r5, H⟩ := obs H
 refine Opl.calls (spec_l40Rd_pick.evb hq0 h15 h_r5) rfl rfl rfl rfl rfl ?_
 rintro _ S ⟨rfl, h17, u5⟩
 have h18 := u5.sameP h14 OutT.box
 have h19 := u5.box h16 (ap2.symm).pt
 have h20 := u5.vec h13 (ap4.symm).pt
 refine Opl.p1 (n := Opl.nil ?_)
 by_cases c1 : r5.2 = 0
 case neg =>
  rw [if_neg c1] at H
  have e2 : (r5.2 == 0) = false := by simpa using c1
  try rw [e2]
  refine Evr.condF rfl (Evr.skip (Evr.sr rfl (Opl.one (v := pv5) rfl rfl rfl (Opl.one (v := pv5) rfl rfl rfl (Opl.nil ?_)))))
  refine Evr.frz 6 h20 rfl ?_
  rintro pv10 S h30 u8
  have h31 := u8.sameP h18 ap3
  have h32 := u8.box h17 ap4
  have h33 := u8.box h19 ap5
  obtain rfl := sinj H
  refine Evr.ret1 Try.func203 rfl ?_
  exact ⟨h30, h32, h31⟩
 rw [if_pos c1] at H
 have e1 : (r5.2 == 0) = true := by simpa using c1
 try rw [e1]
 refine Evr.condT rfl (Evr.regionN rfl (Opl.one (v := pv5) rfl rfl rfl (Opl.p1 (v := .agg [.lit (.int .i64 7), .lit (.int .i64 0), .lit (.int .i64 2), .lit (.int .i64 2)]) (n := Opl.liti (M := cITerm) (ys := [(⟨7, 0, 2, 2⟩ : ITerm)]) [.tmp 35] K66 T128 rfl rfl rfl (by exact ⟨cITerm_mk, trivial⟩) rfl (by decide) rfl rfl ?_))))
 rintro pv7 h21
 obtain ⟨c2, H⟩ := peel H
 refine Opl.app (M := cITerm) (xs := [(⟨r3.1, r3.2.1, r3.2.2.1, r3.2.2.2⟩ : ITerm), (⟨r4.1, r4.2.1, r4.2.2.1, r4.2.2.2⟩ : ITerm), (⟨r2.2, 0, 0, 1⟩ : ITerm)]) (ys := [(⟨7, 0, 2, 2⟩ : ITerm)]) (v := pv5) h20 (.sl h21) oITerm rfl rfl K66 T128 rfl rfl (by (try simp only [List.length_cons, List.length_nil]); omega) (by show (_ + _) * 32 ≤ 140737488355328; (try simp only [List.length_cons, List.length_nil]); omega) rfl rfl rfl rfl rfl ?_
 rintro pv8 S h22 u6 w3
 have ap6 := w3.sameP h18
 have h23 := u6.sameP h18 ap3
 have ap7 := w3.box h17
 have h24 := u6.box h17 ap4
 have ap8 := w3.box h19
 have h25 := u6.box h19 ap5
 refine Opl.one (v := pv8) rfl rfl rfl (Opl.nil (Evr.sr rfl (Opl.one (v := pv8) rfl rfl rfl (Opl.one (v := pv8) rfl rfl rfl (Opl.nil ?_)))))
 refine Evr.frz 6 h22 rfl ?_
 rintro pv9 S h26 u7
 have h27 := u7.sameP h23 ap6
 have h28 := u7.box h24 ap7
 have h29 := u7.box h25 ap8
 obtain rfl := sinj H
 refine Evr.ret1 Try.func203 rfl ?_
 exact ⟨h26, h28, h27⟩
theorem spec_l2When.evv {k : Nat} {S0 : Sto} {l0_0 : List Int} {a0_1 : Int} {i0 : Abs.Id} {q0 : PV} (hq0 : Sl (cInt .u8) l0_0 q0) (hb0 : Box (.ptr i0 0) [q0, .lit (.int .i64 a0_1)] S0) {l1 : List IVar} {v1 : PV} (hv1 : Vec cIVar l1 v1 S0) (pa1 : Ap v1 (.ptr i0 0)) {r : Int × (List ITerm)} (H : spec_l2When.f k l0_0 a0_1 l1 = some r) : RetS Try.prog 199 [.ptr i0 0, v1] S0 fun v S => Sl cITerm r.2 v ∧ Box (.ptr i0 0) [q0, .lit (.int .i64 r.1)] S ∧ Same S0 S [i0] := by
 have hs0 : Same S0 S0 [i0] := .refl _ _
 unfold spec_l2When.f at H
 refine RetS.intro Try.func199 rfl (Nat.le_of_ble_eq_true rfl) rfl ?_
 rw [tm2]
 refine Evr.sr rfl (Opl.p1 (n := Opl.nil (Evr.sr rfl (Opl.p1 (n := Opl.p1 (n := Opl.lenv (xs := l1) (by exact hv1) K23 rfl rfl rfl rfl ?_))))))
 obtain ⟨r1, h_r1, H⟩ := obs H
 refine Opl.calls (spec_l40Rd_pick.evb hq0 hb0 h_r1) rfl rfl rfl rfl rfl ?_
 rintro _ S ⟨rfl, h1, u1⟩
 have h2 := u1.sameP hs0 OutT.box
 have h3 := u1.vec hv1 (pa1).pt
 refine Opl.p1 (n := Opl.nil (Evr.sr rfl (Opl.p1 (n := Opl.p1 (n := Opl.p1 (n := ?_))))))
 obtain ⟨c1, H⟩ := peel H
 obtain ⟨c2, H⟩ := peel H
 refine Opl.idv (M := cIVar) (xs := l1) (j := r1.2) (v := v1) h3 rfl rfl (by omega) (by omega) K23 Z101 rfl rfl ?_
 rintro d1 z1 q1 h4 h5
 refine Opl.ldv (M := cIVar) (xs := l1) (j := r1.2) zIVar h4 h5 (by omega) (by omega) rfl T101 rfl rfl rfl ?_
 rintro p1 q2 h6
 obtain rfl := cIVar_R (x := (rd_IVar l1 r1.2)) h6
 refine ⟨.agg [.lit (.int .i64 ((rd_IVar l1 r1.2).f0)), .lit (.int .i64 ((rd_IVar l1 r1.2).f1)), .lit (.int .i64 ((rd_IVar l1 r1.2).f2))], rfl, ?_⟩
 refine Opl.p1 (n := ?_)
 obtain ⟨r2, h_r2, H⟩ := obs H
 refine Opl.calls (spec_l2Cond.evb hq0 h1 h_r2) rfl rfl rfl rfl rfl ?_
 rintro pv1 S ⟨h7, h8, u2⟩
 have h9 := u2.sameP h2 OutT.box
 have h10 := u2.vec h3 (pa1).pt
 refine Opl.p1 (n := Opl.nil (Evr.seq (Evr.sr rfl (Opl.p1 (n := ?_)))))
 obtain ⟨r3, h_r3, H⟩ := obs H
 refine Opl.calls (spec_l40Rd_pick.evb hq0 h8 h_r3) rfl rfl rfl rfl rfl ?_
 rintro _ S ⟨rfl, h11, u3⟩
 have h12 := u3.sameP h9 OutT.box
 have h13 := u3.vec h10 (pa1).pt
 refine Opl.p1 (n := Opl.nil ?_)
 by_cases c3 : r3.2 = 0
 case neg =>
  rw [if_neg c3] at H
  have e2 : (r3.2 == 0) = false := by simpa using c3
  try rw [e2]
  refine Evr.condF rfl (Evr.skip (Evr.sr rfl (Opl.p1 (n := Opl.p1 (n := Opl.nil ?_)))))
  obtain rfl := sinj H
  refine Evr.ret1 Try.func199 rfl ?_
  exact ⟨h7, h11, h12⟩
 rw [if_pos c3] at H
 have e1 : (r3.2 == 0) = true := by simpa using c3
 try rw [e1]
 refine Evr.condT rfl (Evr.sr rfl (Opl.p1 (n := Opl.p1 (n := Opl.lenv (xs := l1) (by exact h13) K23 rfl rfl rfl rfl ?_))))
 obtain ⟨r4, h_r4, H⟩ := obs H
 refine Opl.calls (spec_l40Rd_pick.evb hq0 h11 h_r4) rfl rfl rfl rfl rfl ?_
 rintro _ S ⟨rfl, h14, u4⟩
 have h15 := u4.sameP h12 OutT.box
 have h16 := u4.vec h13 (pa1).pt
 refine Opl.p1 (n := Opl.nil (Evr.regionL [(2, .m), (10, .m), (1, .p), (8, .q)] rfl (by kernel_rfl) (Opl.p1 (n := Opl.liti (M := (cInt .i64)) (ys := [8, 9, 8]) [.const (.int .i64 8), .const (.int .i64 9), .const (.int .i64 8)] K27 T3 rfl rfl rfl (by exact ⟨rfl, rfl, rfl, trivial⟩) rfl (by decide) rfl rfl ?_))))
 rintro pv3 h17
 obtain ⟨r5, h_r5, H⟩ := obs H
 refine Opl.callbm h14 (spec_l40Rd_num.evb hq0 h14 h17 h_r5) rfl rfl rfl rfl rfl ?_
 rintro _ S rfl h18 u5
 have h19 := u5.sameP h15 OutT.box
 have h20 := u5.vec h16 (pa1).pt
 refine Opl.p1 (n := Opl.p1 (n := Opl.p1 (n := Opl.p1 (n := ?_))))
 obtain ⟨c4, H⟩ := peel H
 obtain ⟨c5, H⟩ := peel H
 refine Opl.idv (M := cIVar) (xs := l1) (j := r4.2) (v := v1) h20 rfl rfl (by omega) (by omega) K23 Z101 rfl rfl ?_
 rintro d2 z2 q3 h21 h22
 refine Opl.ldvk (M := cIVar) (xs := l1) (j := r4.2) 0 zIVar h21 h22 (by omega) (by omega) (by decide) rfl T101 rfl rfl rfl ?_
 rintro p2 q4 h23
 obtain rfl := cIVar_R (x := (rd_IVar l1 r4.2)) h23
 refine ⟨.agg [.lit (.int .i64 ((rd_IVar l1 r4.2).f0)), .lit (.int .i64 ((rd_IVar l1 r4.2).f1)), .lit (.int .i64 ((rd_IVar l1 r4.2).f2))], rfl, ?_⟩
 refine Opl.p1 (n := ?_)
 obtain ⟨r6, h_r6, H⟩ := obs H
 refine Opl.callbm h18 (spec_l2Cond.evb hq0 h18 h_r6) rfl rfl rfl rfl rfl ?_
 rintro pv4 S h24 h25 u6
 have h26 := u6.sameP h19 OutT.box
 have h27 := u6.vec h20 (pa1).pt
 refine Opl.p1 (n := Opl.lenv (xs := l1) (by exact h27) K23 rfl rfl rfl rfl ?_)
 obtain ⟨r7, h_r7, H⟩ := obs H
 refine Opl.call ((spec_Joined.ev h7 h24 h_r7).mono fun _ _ h => Out.vec h) rfl rfl rfl rfl ⟨(.lit _), h7.plain, h24.plain, (.lit _), trivial⟩ (by decide) ?_
 rintro pv5 h28
 refine Opl.p1 (n := Opl.nil (Evr.sr rfl (Opl.p1 (n := Opl.p1 (n := Opl.nil ?_)))))
 obtain rfl := sinj H
 refine Evr.ret1 Try.func199 rfl ?_
 exact ⟨h28, h25, h26⟩
theorem spec_l2Rules.evv {k : Nat} {S0 : Sto} {l0_0 : List Int} {a0_1 : Int} {i0 : Abs.Id} {q0 : PV} (hq0 : Sl (cInt .u8) l0_0 q0) (hb0 : Box (.ptr i0 0) [q0, .lit (.int .i64 a0_1)] S0) {l1 : List IVar} {v1 : PV} (hv1 : Vec cIVar l1 v1 S0) (pa1 : Ap v1 (.ptr i0 0)) {a2 : Int} {r : Int × (List IRule)} (H : spec_l2Rules.f k l0_0 a0_1 l1 a2 = some r) : RetS Try.prog 177 [.ptr i0 0, v1, .lit (.int .i64 a2)] S0 fun v S => ∃ idsv, (oRow odIRule).R S idsv r.2 [v] ∧ Fresh S0 idsv ∧ Box (.ptr i0 0) [q0, .lit (.int .i64 r.1)] S ∧ Same S0 S [i0] := by
 have hs0 : Same S0 S0 [i0] := .refl _ _
 unfold spec_l2Rules.f at H
 refine RetS.intro Try.func177 rfl (Nat.le_of_ble_eq_true rfl) rfl ?_
 rw [tm3]
 refine Evr.sr rfl (Opl.p1 (n := Opl.nil (Evr.sr rfl (Opl.litt (N := odIRule) (ys := ([] : List IRule)) (idy := []) [] K24 T106 rfl rfl rfl (fun x hx => by cases hx) ⟨rfl, rfl⟩ rfl rfl (Nat.le_of_ble_eq_true rfl) rfl rfl rfl ?_))))
 rintro pv2 S ids1 h1 f1 u1 w1
 have ap1 := w1.sameP hs0
 have ap2 := f1.sameP OutT.nil hs0
 have h2 := u1.sameP hs0 ap1
 have ap3 := w1.box hb0
 have ap4 := f1.box ApT.nil hb0
 have h3 := u1.box hb0 ap3
 have ap5 := w1.vec hv1
 have ap6 := f1.vec ApT.nil hv1
 have h4 := u1.vec hv1 ap5
 refine Opl.p1 (n := Opl.nil (Evr.seq (Evr.sr rfl (Opl.p1 (n := Opl.nil (Evr.block ?_))))))
 refine Evr.loop (Evr.rounds (n := k) (Inv := fun n tm S => n ≤ k ∧ ∃ (x0b1q2_1 : Int) (x7_1 : List IRule) (x8_1 : Int) (pv3 : PV) (pv4 : PV) (ids2 : List Abs.Id), spec_l2Rules.l1 n x0b1q2_1 x7_1 x8_1 l0_0 l1 a2 = some r ∧ Has tm [(0, .ptr i0 0), (1, pv3), (2, .lit (.int .i64 a2)), (7, pv4), (8, .lit (.int .i64 x8_1))] ∧ Box (.ptr i0 0) [q0, .lit (.int .i64 x0b1q2_1)] S ∧ Vec cIVar l1 pv3 S ∧ (oRow odIRule).R S ids2 x7_1 [pv4] ∧ Same S0 S [i0] ∧ OutT S0 [i0] ids2 ∧ Ap (.ptr i0 0) pv3 ∧ ApT (.ptr i0 0) ids2 ∧ ApT pv3 ids2) ?_ ?_ ?_)
 · exact ⟨Nat.le_refl _, _, _, _, _, _, _, H, ⟨rfl, rfl, rfl, rfl, rfl, trivial⟩, h3, h4, h1, h2, ap2, pa1.symm, ap4, ap6⟩
 ·
  rintro tm S ⟨_, _, _, _, _, _, _, H, -⟩
  simp [spec_l2Rules.l1] at H
 ·
  rintro n1 ih1 tm S ⟨hle, x0b1q2_1, x7_1, x8_1, pv3, pv4, ids2, H, hh, h5, h6, h7, h8, o1, ap7, ap8, ap9⟩
  simp only [spec_l2Rules.l1] at H
  rw [hh.eq]
  refine Evr.seq (Evr.sr rfl (Opl.p1 (n := Opl.p1 (n := Opl.p1 (n := Opl.nil ?_)))))
  by_cases c1 : x8_1 < a2
  case neg =>
   rw [if_neg c1] at H
   have e12 : (decide (x8_1 < a2)) = false := by simpa using c1
   try rw [e12]
   refine Evr.condF rfl (Evr.exit rfl (Evr.sr rfl (Opl.p1 (n := Opl.p1 (n := Opl.nil ?_)))))
   obtain rfl := sinj H
   refine Evr.ret1 Try.func177 rfl ?_
   exact ⟨_, h7, (OutT.fresh o1 ap8), h5, h8⟩
  rw [if_pos c1] at H
  have e1 : (decide (x8_1 < a2)) = true := by simpa using c1
  try rw [e1]
  refine Evr.condT rfl (Evr.skip (Evr.seq (Evr.block (Evr.sr rfl (Opl.p1 (n := Opl.p1 (n := ?_)))))))
  obtain ⟨r1, h_r1, H⟩ := obs H
  refine Opl.calls (spec_l2When.evv hq0 h5 h6 ap7.symm h_r1) rfl rfl rfl rfl rfl ?_
  rintro pv5 S ⟨h9, h10, u2⟩
  have h11 := u2.vec h6 (ap7.symm).pt
  have h12 := u2.tree h7 (ap8).pt
  have h13 := u2.sameP h8 OutT.box
  refine Opl.one (v := .agg [pv5, .lit (.slice none 0 0), .lit (.slice none 0 0)]) rfl rfl (by simp only [go_sem]; simp only [fillL, Sl.cells h9]; rfl) (Opl.alloc T106 rfl rfl rfl ?_)
  rintro i1 S h14 u3 w2
  have ap10 := w2.box h10
  have h15 := u3.box h10 ap10
  have ap11 := w2.vec h11
  have h16 := u3.vec h11 ap11
  have ap12 := w2.tree h12
  have h17 := u3.tree h12 ap12
  have ap13 := w2.sameP h13
  have h18 := u3.sameP h13 ap13
  refine Opl.stb (vs := [pv5, .lit (.slice none 0 0), .lit (.slice none 0 0)]) h14 rfl rfl Z106 rfl (Nat.le_of_ble_eq_true rfl) (by simp only [List.all_cons, List.all_nil, h9.one, Bool.and_true, Bool.true_and] <;> rfl) rfl rfl rfl ?_
  rintro S (h19 : Box (.ptr i1 0) [pv5, .lit (.slice none 0 0), .lit (.slice none 0 0)] _) u4
  have h20 := u4.box h15 ap10
  have h21 := u4.vec h16 ap11
  have h22 := u4.tree h17 ap12
  have h23 := u4.sameP h18 ap13
  refine Opl.nil (Evr.seq (Evr.sr rfl (Opl.p1 (n := Opl.nil (Evr.block ?_)))))
  refine Evr.loop (Evr.rounds (n := n1) (Inv := fun n tm S => n ≤ n1 ∧ ∃ (x0b1q3_1 : Int) (x9b1q2_1 : List Int) (x9b2q2_1 : List (List ITerm)) (x10q2_1 : Int) (pv6 : PV) (pv7 : PV) (ids3 : List Abs.Id) (pv8 : PV) (pv9 : PV) (i2 : Abs.Id), spec_l2Rules.l2 n x0b1q3_1 x9b1q2_1 x9b2q2_1 x10q2_1 l0_0 l1 a2 x7_1 x8_1 r1 = some r ∧ Has tm [(0, .ptr i0 0), (1, pv6), (2, .lit (.int .i64 a2)), (7, pv7), (8, .lit (.int .i64 x8_1)), (9, .ptr i2 0), (10, .lit (.int .i64 x10q2_1))] ∧ Box (.ptr i0 0) [q0, .lit (.int .i64 x0b1q3_1)] S ∧ Vec cIVar l1 pv6 S ∧ (oRow odIRule).R S ids3 x7_1 [pv7] ∧ Vec (cInt .i64) x9b1q2_1 pv8 S ∧ Vec (cSl cITerm) x9b2q2_1 pv9 S ∧ Box (.ptr i2 0) [pv5, pv8, pv9] S ∧ Same S0 S [i0] ∧ OutT S0 [i0] ids3 ∧ OutT S0 [i0] (PV.id? pv8).toList ∧ OutT S0 [i0] (PV.id? pv9).toList ∧ OutT S0 [i0] (PV.ptr i2 0).id?.toList ∧ Ap (.ptr i0 0) pv6 ∧ ApT (.ptr i0 0) ids3 ∧ Ap (.ptr i0 0) pv8 ∧ Ap (.ptr i0 0) pv9 ∧ Ap (.ptr i0 0) (.ptr i2 0) ∧ ApT pv6 ids3 ∧ Ap pv6 pv8 ∧ Ap pv6 pv9 ∧ Ap pv6 (.ptr i2 0) ∧ ApT pv8 ids3 ∧ ApT pv9 ids3 ∧ ApT (.ptr i2 0) ids3 ∧ Ap pv8 pv9 ∧ Ap pv8 (.ptr i2 0) ∧ Ap pv9 (.ptr i2 0)) ?_ ?_ ?_)
  · exact ⟨Nat.le_refl _, _, _, _, _, _, _, _, _, _, _, H, ⟨rfl, rfl, rfl, rfl, rfl, rfl, rfl, trivial⟩, h20, h21, h22, .nil, .nil, h19, h23, o1, OutT.lit, OutT.lit, ap13, ap7, ap8, Ap.nil.symm, Ap.nil.symm, ap10, ap9, Ap.nil.symm, Ap.nil.symm, ap11, ApT.lit, ApT.lit, ap12, .nil, .nil, .nil⟩
  ·
   rintro tm S ⟨_, _, _, _, _, _, _, _, _, _, _, H, -⟩
   simp [spec_l2Rules.l2] at H
  ·
   rintro n2 ih2 tm S ⟨hle, x0b1q3_1, x9b1q2_1, x9b2q2_1, x10q2_1, pv6, pv7, ids3, pv8, pv9, i2, H, hh, h24, h25, h26, h28, h29, h27, h30, o2, o3, o4, o5, ap14, ap15, ap16, ap17, ap18, ap19, ap20, ap21, ap22, ap23, ap24, ap25, ap26, ap27, ap28⟩
   simp only [spec_l2Rules.l2] at H
   rw [hh.eq]
   refine Evr.seq (Evr.sr rfl (Opl.p1 (n := Opl.p1 (n := Opl.lenv (xs := l1) (by exact h25) K23 rfl rfl rfl rfl (Opl.p1 (n := Opl.nil ?_))))))
   by_cases c2 : x10q2_1 < (l1.length : Int)
   case neg =>
    rw [if_neg c2] at H
    have e11 : (decide (x10q2_1 < (l1.length : Int))) = false := by simpa using c2
    try rw [e11]
    refine Evr.condF rfl (Evr.exit rfl (Evr.regionN rfl (Opl.p1 (n := Opl.ldb (v := .agg [pv5, pv8, pv9]) h27 rfl T106 rfl rfl rfl rfl (Opl.litt (N := odIRule) (ys := [(⟨r1.2, x9b1q2_1, x9b2q2_1⟩ : IRule)]) (idy := ((PV.id? (pv8)).toList ++ (PV.id? (pv9)).toList)) [.tmp 67] K24 T106 rfl rfl rfl (fun x hx => by obtain rfl := List.mem_singleton.1 hx; rfl) (by exact RowsO.one (odIRule_mk h9 h28 h29 ap26)) rfl rfl (Nat.le_of_ble_eq_true rfl) rfl rfl rfl ?_)))))
    rintro pv33 S ids6 h135 f2 u17 w12
    have ap83 := w12.box h24
    have ap84 := f2.box (ap16.apT.app ap17.apT) h24
    have h136 := u17.box h24 ap83
    have ap85 := w12.vec h25
    have ap86 := f2.vec (ap20.apT.app ap21.apT) h25
    have h137 := u17.vec h25 ap85
    have ap87 := w12.tree h26
    have ap88 := f2.tree (ap23.apt.app ap24.apt) h26
    have h138 := u17.tree h26 ap87
    have ap89 := w12.box h27
    have ap90 := f2.box (ap27.symm.apT.app ap28.symm.apT) h27
    have h139 := u17.box h27 ap89
    have ap91 := w12.sameP h30
    have ap92 := f2.sameP (o3.app o4) h30
    have h140 := u17.sameP h30 ap91
    obtain ⟨c11, H⟩ := peel H
    refine Opl.appt (N := odIRule) (xs := x7_1) (ys := [(⟨r1.2, x9b1q2_1, x9b2q2_1⟩ : IRule)]) h138 h135 ap88 rfl rfl K24 T106 rfl rfl (by (try simp only [List.length_cons, List.length_nil]); omega) (by show (_ + _) * 72 ≤ 140737488355328; (try simp only [List.length_cons, List.length_nil]); omega) rfl rfl rfl rfl rfl ?_
    rintro pv34 S ids7 h141 f3 u18 w13
    have ap93 := Ap.of_tree h138 ap15
    have ap94 := f3.box (ap15.app ap84) h136
    have h142 := u18.box h136 ap93
    have ap95 := Ap.of_tree h138 ap19
    have ap96 := f3.vec (ap19.app ap86) h137
    have h143 := u18.vec h137 ap95
    have ap97 := Ap.of_tree h138 ap25
    have ap98 := f3.box (ap25.app ap90) h139
    have h144 := u18.box h139 ap97
    have ap99 := OutT.of_tree h138 o2
    have ap100 := f3.sameP (o2.app ap92) h140
    have h145 := u18.sameP h140 ap99
    refine Opl.p1 (n := Opl.nil (Evr.inBlock (Evr.regionN rfl (Opl.p1 (n := Opl.add (k := .i64) (a := x8_1) (b := 1) K3 rfl rfl rfl rfl (Opl.one (v := .lit (.int .i64 (wrap64 (x8_1 + 1)))) rfl rfl rfl (Opl.nil ?_)))))))
    exact ih1 _ (by omega) _ _ ⟨by omega, _, _, _, _, _, _, H, ⟨rfl, rfl, rfl, rfl, rfl, trivial⟩, h142, h143, h141, h145, ap100, ap14, ap94, ap96⟩
   rw [if_pos c2] at H
   have e2 : (decide (x10q2_1 < (l1.length : Int))) = true := by simpa using c2
   try rw [e2]
   refine Evr.condT rfl (Evr.skip (Evr.seq (Evr.block (Evr.seq ?_))))
   refine Evr.join2 (fun tm S => ∃ (kq1 : Nat) (x0b1q3_2 : Int) (x9b1q2_2 : List Int) (x9b2q2_2 : List (List ITerm)) (pv10 : PV) (pv11 : PV) (ids4 : List Abs.Id) (pv12 : PV) (pv13 : PV) (i3 : Abs.Id), spec_l2Rules.l2 kq1 x0b1q3_2 x9b1q2_2 x9b2q2_2 (wrap64 (x10q2_1 + 1)) l0_0 l1 a2 x7_1 x8_1 r1 = some r ∧ kq1 ≤ n2 ∧ Has tm [(0, .ptr i0 0), (1, pv10), (2, .lit (.int .i64 a2)), (7, pv11), (8, .lit (.int .i64 x8_1)), (9, .ptr i3 0), (10, .lit (.int .i64 x10q2_1))] ∧ Box (.ptr i0 0) [q0, .lit (.int .i64 x0b1q3_2)] S ∧ Vec cIVar l1 pv10 S ∧ (oRow odIRule).R S ids4 x7_1 [pv11] ∧ Vec (cInt .i64) x9b1q2_2 pv12 S ∧ Vec (cSl cITerm) x9b2q2_2 pv13 S ∧ Box (.ptr i3 0) [pv5, pv12, pv13] S ∧ Same S0 S [i0] ∧ OutT S0 [i0] ids4 ∧ OutT S0 [i0] (PV.id? pv12).toList ∧ OutT S0 [i0] (PV.id? pv13).toList ∧ OutT S0 [i0] (PV.ptr i3 0).id?.toList ∧ Ap (.ptr i0 0) pv10 ∧ ApT (.ptr i0 0) ids4 ∧ Ap (.ptr i0 0) pv12 ∧ Ap (.ptr i0 0) pv13 ∧ Ap (.ptr i0 0) (.ptr i3 0) ∧ ApT pv10 ids4 ∧ Ap pv10 pv12 ∧ Ap pv10 pv13 ∧ Ap pv10 (.ptr i3 0) ∧ ApT pv12 ids4 ∧ ApT pv13 ids4 ∧ ApT (.ptr i3 0) ids4 ∧ Ap pv12 pv13 ∧ Ap pv12 (.ptr i3 0) ∧ Ap pv13 (.ptr i3 0)) ?_ fun hk1 => ?_
   ·
    rintro tm S ⟨kq1, x0b1q3_2, x9b1q2_2, x9b2q2_2, pv10, pv11, ids4, pv12, pv13, i3, H, hle, hh, h31, h32, h33, h35, h36, h34, h37, o6, o7, o8, o9, ap29, ap30, ap31, ap32, ap33, ap34, ap35, ap36, ap37, ap38, ap39, ap40, ap41, ap42, ap43⟩
    rw [hh.eq]
    refine Evr.inBlock (Evr.regionN rfl (Opl.p1 (n := Opl.add (k := .i64) (a := x10q2_1) (b := 1) K3 rfl rfl rfl rfl (Opl.one (v := .lit (.int .i64 (wrap64 (x10q2_1 + 1)))) rfl rfl rfl (Opl.nil ?_)))))
    exact ih2 _ (by omega) _ _ ⟨by omega, _, _, _, _, _, _, _, _, _, _, H, ⟨rfl, rfl, rfl, rfl, rfl, rfl, rfl, trivial⟩, h31, h32, h33, h35, h36, h34, h37, o6, o7, o8, o9, ap29, ap30, ap31, ap32, ap33, ap34, ap35, ap36, ap37, ap38, ap39, ap40, ap41, ap42, ap43⟩
   ·
    refine Evr.regionN rfl (Opl.p1 (n := Opl.p1 (n := Opl.lenv (xs := l1) (by exact h25) K23 rfl rfl rfl rfl (Opl.add (k := .i64) (a := (l1.length : Int)) (b := 1) K3 rfl rfl rfl rfl ?_))))
    obtain ⟨r2, h_r2, H⟩ := obs H
    refine Opl.calls (spec_l40Rd_pick.evb hq0 h24 h_r2) rfl rfl rfl rfl rfl ?_
    rintro _ S ⟨rfl, h38, u5⟩
    have h39 := u5.vec h25 (ap14.symm).pt
    have h40 := u5.tree h26 (ap15).pt
    have h41 := u5.vec h28 (ap16.symm).pt
    have h42 := u5.vec h29 (ap17.symm).pt
    have h43 := u5.box h27 (ap18.symm).pt
    have h44 := u5.sameP h30 OutT.box
    refine Opl.p1 (n := Opl.one (v := .lit (.bool (decide (r2.2 < 1)))) rfl rfl rfl ?_)
    by_cases c3 : r2.2 < 1
    case pos =>
     rw [if_pos c3] at H
     have e3 : (decide (r2.2 < 1)) = true := by simpa using c3
     try rw [e3]
     refine Opl.sk8 rfl rfl rfl rfl rfl rfl rfl rfl (Opl.sk8 rfl rfl rfl rfl rfl rfl rfl rfl (Opl.p1 (n := Opl.nil (Evr.condT rfl (Evr.sr rfl (Opl.p1 (v := .ptr i2 1) (n := Opl.ldb (v := pv8) h43 rfl T27 rfl rfl rfl rfl (Opl.one (v := .lit (.int .i64 x10q2_1)) rfl rfl rfl (Opl.liti (M := (cInt .i64)) (ys := [x10q2_1]) [.tmp 53] K27 T3 rfl rfl rfl (by exact ⟨rfl, trivial⟩) rfl (by decide) rfl rfl ?_)))))))))
     rintro pv15 h45
     obtain ⟨c4, H⟩ := peel H
     refine Opl.app (M := (cInt .i64)) (xs := x9b1q2_1) (ys := [x10q2_1]) (v := pv8) h41 (.sl h45) (oInt .i64) rfl rfl K27 T3 rfl rfl (by (try simp only [List.length_cons, List.length_nil]); omega) (by show (_ + _) * 8 ≤ 140737488355328; (try simp only [List.length_cons, List.length_nil]); omega) rfl rfl rfl rfl rfl ?_
     rintro pv16 S h46 u6 w4
     have ap44 := w4.box h38
     have h47 := u6.box h38 ap16
     have ap45 := w4.vec h39
     have h48 := u6.vec h39 ap20
     have ap46 := w4.tree h40
     have h49 := u6.tree h40 ap23
     have ap47 := w4.vec h42
     have h50 := u6.vec h42 ap26.symm
     have ap48 := w4.box h43
     have h51 := u6.box h43 ap27.symm
     have ap49 := w4.sameP h44
     have h52 := u6.sameP h44 o3
     refine Opl.p1 (v := .ptr i2 1) (n := Opl.stb (vs := [pv16]) h51 rfl (by exact Vec.cells h46) Z27 rfl (Nat.le_of_ble_eq_true rfl) (by simp only [List.all_cons, List.all_nil, Vec.one h46, Bool.and_true, Bool.true_and] <;> rfl) rfl rfl rfl ?_)
     rintro S (h53 : Box (.ptr i2 0) [pv5, pv16, pv9] _) u7
     have h54 := u7.box h47 ap18
     have h55 := u7.vec h48 ap22
     have h56 := u7.tree h49 ap25
     have h57 := u7.vec h50 ap28
     have h58 := u7.sameP h52 o5
     have h59 := u7.vec h46 ap48.symm
     refine Opl.nil (Evr.regionL [(5, .m), (6, .p), (1, .q), (7, .m)] rfl (by kernel_rfl) (Opl.p1 (v := .ptr i2 2) (n := Opl.ldbk (v := pv9) h53 rd3 rfl T104 rfl rfl rfl rfl (Opl.one (v := .ptr i0 0) rfl rfl rfl (Opl.one (v := pv6) rfl rfl rfl (Opl.one (v := .lit (.int .i64 x10q2_1)) rfl rfl rfl ?_))))))
     obtain ⟨r3, h_r3, H⟩ := obs H
     refine Opl.callbm h54 (spec_l2Value.evv hq0 h54 h55 ap14.symm h_r3) rfl rfl rfl rfl rfl ?_
     rintro pv17 S h60 h61 u8
     have h62 := u8.vec h55 (ap14.symm).pt
     have h63 := u8.tree h56 (ap15).pt
     have h64 := u8.vec h57 (ap17.symm).pt
     have h65 := u8.box h53 (ap18.symm).pt
     have h66 := u8.sameP h58 OutT.box
     have h67 := u8.vec h59 (ap44.symm).pt
     refine Opl.liti (M := (cSl cITerm)) (ys := [r3.2]) [.tmp 62] K104 T66 rfl rfl rfl (by exact ⟨⟨_, by first | rfl | exact h60.cells, h60⟩, trivial⟩) rfl (by decide) rfl rfl ?_
     rintro pv19 h68
     obtain ⟨c5, H⟩ := peel H
     refine Opl.appm rfl (M := (cSl cITerm)) (xs := x9b2q2_1) (ys := [r3.2]) (v := pv9) h64 (.sl h68) (oSl cITerm) rfl rfl K104 T66 rfl rfl (by (try simp only [List.length_cons, List.length_nil]); omega) (by show (_ + _) * 24 ≤ 140737488355328; (try simp only [List.length_cons, List.length_nil]); omega) rfl rfl rfl rfl rfl ?_
     rintro pv20 S h69 u9 w6
     have ap50 := w6.box h61
     have h70 := u9.box h61 ap17
     have ap51 := w6.vec h62
     have h71 := u9.vec h62 ap21
     have ap52 := w6.tree h63
     have h72 := u9.tree h63 ap24
     have ap53 := w6.box h65
     have h73 := u9.box h65 ap28.symm
     have ap54 := w6.sameP h66
     have h74 := u9.sameP h66 o4
     have ap55 := w6.vec h67
     have h75 := u9.vec h67 ap47.symm
     refine Opl.p1 (v := .ptr i2 2) (n := Opl.stb (vs := [pv20]) h73 rfl (by exact Vec.cells h69) Z104 rfl (Nat.le_of_ble_eq_true rfl) (by simp only [List.all_cons, List.all_nil, Vec.one h69, Bool.and_true, Bool.true_and] <;> rfl) rfl rfl rfl ?_)
     rintro S (h76 : Box (.ptr i2 0) [pv5, pv16, pv20] _) u10
     have h77 := u10.box h70 ap18
     have h78 := u10.vec h71 ap22
     have h79 := u10.tree h72 ap25
     have h80 := u10.sameP h74 o5
     have h81 := u10.vec h75 ap48.symm
     have h82 := u10.vec h69 ap53.symm
     refine Opl.nil ?_
     exact hk1 _ _ ⟨_, _, _, _, _, _, _, _, _, _, H, by omega, ⟨rfl, rfl, rfl, rfl, rfl, rfl, rfl, trivial⟩, h77, h78, h79, h81, h82, h76, h80, o2, ap49, ap54, o5, ap14, ap15, ap44, ap50, ap18, ap19, ap45, ap51, ap22, ap46, ap52, ap25, ap55, ap48.symm, ap53.symm⟩
    rw [if_neg c3] at H
    have e4 : (decide (r2.2 < 1)) = false := by simpa using c3
    try rw [e4]
    refine Opl.one (v := .lit (.int .i64 x10q2_1)) rfl rfl rfl (Opl.one (v := pv6) rfl rfl rfl (Opl.lenv (xs := l1) (by exact h39) K23 rfl rfl rfl rfl (Opl.subi (k := .i64) (a := (l1.length : Int)) (b := 1) K3 rfl rfl rfl rfl (Opl.eql (a := x10q2_1) (b := (wrap64 ((l1.length : Int) - 1))) K3 rfl rfl rfl rfl (Opl.one (v := .lit (.bool (x10q2_1 == (wrap64 ((l1.length : Int) - 1))))) rfl rfl rfl ?_)))))
    by_cases c6 : x10q2_1 = (wrap64 ((l1.length : Int) - 1))
    case neg =>
     rw [if_neg c6] at H
     have e10 : (x10q2_1 == (wrap64 ((l1.length : Int) - 1))) = false := by simpa using c6
     try rw [e10]
     refine Opl.sk4 rfl rfl rfl rfl (Opl.p1 (n := Opl.one (v := .lit (.bool false)) rfl rfl rfl (Opl.sk2 rfl rfl (Opl.skp rfl (Opl.p1 (n := Opl.p1 (n := Opl.nil (Evr.condF rfl (Evr.skip ?_)))))))))
     exact hk1 _ _ ⟨_, _, _, _, _, _, _, _, _, _, H, by omega, ⟨rfl, rfl, rfl, rfl, rfl, rfl, rfl, trivial⟩, h38, h39, h40, h41, h42, h43, h44, o2, o3, o4, o5, ap14, ap15, ap16, ap17, ap18, ap19, ap20, ap21, ap22, ap23, ap24, ap25, ap26, ap27, ap28⟩
    rw [if_pos c6] at H
    have e5 : (x10q2_1 == (wrap64 ((l1.length : Int) - 1))) = true := by simpa using c6
    try rw [e5]
    refine Opl.p1 (v := .ptr i2 1) (n := Opl.ldb (v := pv8) h43 rfl T27 rfl rfl rfl rfl (Opl.lenv (xs := x9b1q2_1) (by exact h41) K27 rfl rfl rfl rfl (Opl.p1 (n := Opl.p1 (n := Opl.one (v := .lit (.bool ((x9b1q2_1.length : Int) == 0))) rfl rfl rfl ?_)))))
    by_cases c7 : (x9b1q2_1.length : Int) = 0
    case neg =>
     rw [if_neg c7] at H
     have e9 : ((x9b1q2_1.length : Int) == 0) = false := by simpa using c7
     try rw [e9]
     refine Opl.sk2 rfl rfl (Opl.skp rfl (Opl.p1 (n := Opl.p1 (n := Opl.nil (Evr.condF rfl (Evr.skip ?_))))))
     exact hk1 _ _ ⟨_, _, _, _, _, _, _, _, _, _, H, by omega, ⟨rfl, rfl, rfl, rfl, rfl, rfl, rfl, trivial⟩, h38, h39, h40, h41, h42, h43, h44, o2, o3, o4, o5, ap14, ap15, ap16, ap17, ap18, ap19, ap20, ap21, ap22, ap23, ap24, ap25, ap26, ap27, ap28⟩
    rw [if_pos c7] at H
    have e6 : ((x9b1q2_1.length : Int) == 0) = true := by simpa using c7
    try rw [e6]
    refine Opl.one (v := .ptr i0 0) rfl rfl rfl ?_
    obtain ⟨r4, h_r4, H⟩ := obs H
    refine Opl.calls (spec_l40Rd_pick.evb hq0 h38 h_r4) rfl rfl rfl rfl rfl ?_
    rintro _ S ⟨rfl, h83, u11⟩
    have h84 := u11.vec h39 (ap14.symm).pt
    have h85 := u11.tree h40 (ap15).pt
    have h86 := u11.vec h41 (ap16.symm).pt
    have h87 := u11.vec h42 (ap17.symm).pt
    have h88 := u11.box h43 (ap18.symm).pt
    have h89 := u11.sameP h44 OutT.box
    refine Opl.p1 (n := Opl.p1 (n := Opl.p1 (n := Opl.nil ?_)))
    refine Evr.join (fun tm S => ∃ (kq2 : Nat) (x0b1q3_3 : Int) (x9b1q2_3 : List Int) (x9b2q2_3 : List (List ITerm)) (pv21 : PV) (pv22 : PV) (ids5 : List Abs.Id) (pv23 : PV) (pv24 : PV) (i4 : Abs.Id), spec_l2Rules.l2 kq2 x0b1q3_3 x9b1q2_3 x9b2q2_3 (wrap64 (x10q2_1 + 1)) l0_0 l1 a2 x7_1 x8_1 r1 = some r ∧ kq2 ≤ n2 ∧ Has tm [(0, .ptr i0 0), (1, pv21), (2, .lit (.int .i64 a2)), (7, pv22), (8, .lit (.int .i64 x8_1)), (9, .ptr i4 0), (10, .lit (.int .i64 x10q2_1))] ∧ Box (.ptr i0 0) [q0, .lit (.int .i64 x0b1q3_3)] S ∧ Vec cIVar l1 pv21 S ∧ (oRow odIRule).R S ids5 x7_1 [pv22] ∧ Vec (cInt .i64) x9b1q2_3 pv23 S ∧ Vec (cSl cITerm) x9b2q2_3 pv24 S ∧ Box (.ptr i4 0) [pv5, pv23, pv24] S ∧ Same S0 S [i0] ∧ OutT S0 [i0] ids5 ∧ OutT S0 [i0] (PV.id? pv23).toList ∧ OutT S0 [i0] (PV.id? pv24).toList ∧ OutT S0 [i0] (PV.ptr i4 0).id?.toList ∧ Ap (.ptr i0 0) pv21 ∧ ApT (.ptr i0 0) ids5 ∧ Ap (.ptr i0 0) pv23 ∧ Ap (.ptr i0 0) pv24 ∧ Ap (.ptr i0 0) (.ptr i4 0) ∧ ApT pv21 ids5 ∧ Ap pv21 pv23 ∧ Ap pv21 pv24 ∧ Ap pv21 (.ptr i4 0) ∧ ApT pv23 ids5 ∧ ApT pv24 ids5 ∧ ApT (.ptr i4 0) ids5 ∧ Ap pv23 pv24 ∧ Ap pv23 (.ptr i4 0) ∧ Ap pv24 (.ptr i4 0)) ?_ fun hk2 => ?_
    ·
     rintro tm S ⟨kq2, x0b1q3_3, x9b1q2_3, x9b2q2_3, pv21, pv22, ids5, pv23, pv24, i4, H, hle, hh, h90, h91, h92, h94, h95, h93, h96, o10, o11, o12, o13, ap56, ap57, ap58, ap59, ap60, ap61, ap62, ap63, ap64, ap65, ap66, ap67, ap68, ap69, ap70⟩
     rw [hh.eq]
     exact hk1 _ _ ⟨_, _, _, _, _, _, _, _, _, _, H, by omega, ⟨rfl, rfl, rfl, rfl, rfl, rfl, rfl, trivial⟩, h90, h91, h92, h94, h95, h93, h96, o10, o11, o12, o13, ap56, ap57, ap58, ap59, ap60, ap61, ap62, ap63, ap64, ap65, ap66, ap67, ap68, ap69, ap70⟩
    ·
     by_cases c8 : r4.2 > 0
     case neg =>
      rw [if_neg c8] at H
      have e8 : (decide (r4.2 > 0)) = false := by simpa using c8
      try rw [e8]
      refine Evr.condF rfl (Evr.skip ?_)
      exact hk2 _ _ ⟨_, _, _, _, _, _, _, _, _, _, H, by omega, ⟨rfl, rfl, rfl, rfl, rfl, rfl, rfl, trivial⟩, h83, h84, h85, h86, h87, h88, h89, o2, o3, o4, o5, ap14, ap15, ap16, ap17, ap18, ap19, ap20, ap21, ap22, ap23, ap24, ap25, ap26, ap27, ap28⟩
     rw [if_pos c8] at H
     have e7 : (decide (r4.2 > 0)) = true := by simpa using c8
     try rw [e7]
     refine Evr.condT rfl (Evr.sr rfl (Opl.p1 (v := .ptr i2 1) (n := Opl.ldb (v := pv8) h88 rfl T27 rfl rfl rfl rfl (Opl.one (v := .lit (.int .i64 x10q2_1)) rfl rfl rfl (Opl.liti (M := (cInt .i64)) (ys := [x10q2_1]) [.tmp 53] K27 T3 rfl rfl rfl (by exact ⟨rfl, trivial⟩) rfl (by decide) rfl rfl ?_)))))
     rintro pv26 h97
     obtain ⟨c9, H⟩ := peel H
     refine Opl.app (M := (cInt .i64)) (xs := x9b1q2_1) (ys := [x10q2_1]) (v := pv8) h86 (.sl h97) (oInt .i64) rfl rfl K27 T3 rfl rfl (by (try simp only [List.length_cons, List.length_nil]); omega) (by show (_ + _) * 8 ≤ 140737488355328; (try simp only [List.length_cons, List.length_nil]); omega) rfl rfl rfl rfl rfl ?_
     rintro pv27 S h98 u12 w8
     have ap71 := w8.box h83
     have h99 := u12.box h83 ap16
     have ap72 := w8.vec h84
     have h100 := u12.vec h84 ap20
     have ap73 := w8.tree h85
     have h101 := u12.tree h85 ap23
     have ap74 := w8.vec h87
     have h102 := u12.vec h87 ap26.symm
     have ap75 := w8.box h88
     have h103 := u12.box h88 ap27.symm
     have ap76 := w8.sameP h89
     have h104 := u12.sameP h89 o3
     refine Opl.p1 (v := .ptr i2 1) (n := Opl.stb (vs := [pv27]) h103 rfl (by exact Vec.cells h98) Z27 rfl (Nat.le_of_ble_eq_true rfl) (by simp only [List.all_cons, List.all_nil, Vec.one h98, Bool.and_true, Bool.true_and] <;> rfl) rfl rfl rfl ?_)
     rintro S (h105 : Box (.ptr i2 0) [pv5, pv27, pv9] _) u13
     have h106 := u13.box h99 ap18
     have h107 := u13.vec h100 ap22
     have h108 := u13.tree h101 ap25
     have h109 := u13.vec h102 ap28
     have h110 := u13.sameP h104 o5
     have h111 := u13.vec h98 ap75.symm
     refine Opl.nil (Evr.regionL [(5, .m), (6, .p), (1, .q), (7, .m)] rfl (by kernel_rfl) (Opl.p1 (v := .ptr i2 2) (n := Opl.ldbk (v := pv9) h105 rd3 rfl T104 rfl rfl rfl rfl (Opl.one (v := .ptr i0 0) rfl rfl rfl (Opl.one (v := pv6) rfl rfl rfl (Opl.one (v := .lit (.int .i64 x10q2_1)) rfl rfl rfl ?_))))))
     obtain ⟨r5, h_r5, H⟩ := obs H
     refine Opl.callbm h106 (spec_l2Value.evv hq0 h106 h107 ap14.symm h_r5) rfl rfl rfl rfl rfl ?_
     rintro pv28 S h112 h113 u14
     have h114 := u14.vec h107 (ap14.symm).pt
     have h115 := u14.tree h108 (ap15).pt
     have h116 := u14.vec h109 (ap17.symm).pt
     have h117 := u14.box h105 (ap18.symm).pt
     have h118 := u14.sameP h110 OutT.box
     have h119 := u14.vec h111 (ap71.symm).pt
     refine Opl.liti (M := (cSl cITerm)) (ys := [r5.2]) [.tmp 62] K104 T66 rfl rfl rfl (by exact ⟨⟨_, by first | rfl | exact h112.cells, h112⟩, trivial⟩) rfl (by decide) rfl rfl ?_
     rintro pv30 h120
     obtain ⟨c10, H⟩ := peel H
     refine Opl.appm rfl (M := (cSl cITerm)) (xs := x9b2q2_1) (ys := [r5.2]) (v := pv9) h116 (.sl h120) (oSl cITerm) rfl rfl K104 T66 rfl rfl (by (try simp only [List.length_cons, List.length_nil]); omega) (by show (_ + _) * 24 ≤ 140737488355328; (try simp only [List.length_cons, List.length_nil]); omega) rfl rfl rfl rfl rfl ?_
     rintro pv31 S h121 u15 w10
     have ap77 := w10.box h113
     have h122 := u15.box h113 ap17
     have ap78 := w10.vec h114
     have h123 := u15.vec h114 ap21
     have ap79 := w10.tree h115
     have h124 := u15.tree h115 ap24
     have ap80 := w10.box h117
     have h125 := u15.box h117 ap28.symm
     have ap81 := w10.sameP h118
     have h126 := u15.sameP h118 o4
     have ap82 := w10.vec h119
     have h127 := u15.vec h119 ap74.symm
     refine Opl.p1 (v := .ptr i2 2) (n := Opl.stb (vs := [pv31]) h125 rfl (by exact Vec.cells h121) Z104 rfl (Nat.le_of_ble_eq_true rfl) (by simp only [List.all_cons, List.all_nil, Vec.one h121, Bool.and_true, Bool.true_and] <;> rfl) rfl rfl rfl ?_)
     rintro S (h128 : Box (.ptr i2 0) [pv5, pv27, pv31] _) u16
     have h129 := u16.box h122 ap18
     have h130 := u16.vec h123 ap22
     have h131 := u16.tree h124 ap25
     have h132 := u16.sameP h126 o5
     have h133 := u16.vec h127 ap75.symm
     have h134 := u16.vec h121 ap80.symm
     refine Opl.nil ?_
     exact hk2 _ _ ⟨_, _, _, _, _, _, _, _, _, _, H, by omega, ⟨rfl, rfl, rfl, rfl, rfl, rfl, rfl, trivial⟩, h129, h130, h131, h133, h134, h128, h132, o2, ap76, ap81, o5, ap14, ap15, ap71, ap77, ap18, ap19, ap72, ap78, ap22, ap73, ap79, ap25, ap82, ap75.symm, ap80.symm⟩
theorem spec_l2System.evb {k : Nat} {S0 : Sto} {l0_0 : List Int} {a0_1 : Int} {i0 : Abs.Id} {q0 : PV} (hq0 : Sl (cInt .u8) l0_0 q0) (hb0 : Box (.ptr i0 0) [q0, .lit (.int .i64 a0_1)] S0) {a1 : Int} {r : Int × (List IVar × List IRule)} (H : spec_l2System.f k l0_0 a0_1 a1 = some r) : RetS Try.prog 125 [.ptr i0 0, .lit (.int .i64 a1)] S0 fun v S => ∃ v_0 v_1 idsv_1, v = .agg [v_0, v_1] ∧ Vec cIVar r.2.1 v_0 S ∧ New S0 v_0 ∧ (oRow odIRule).R S idsv_1 r.2.2 [v_1] ∧ Fresh S0 idsv_1 ∧ ApT v_0 idsv_1 ∧ Box (.ptr i0 0) [q0, .lit (.int .i64 r.1)] S ∧ Same S0 S [i0] := by
 have hs0 : Same S0 S0 [i0] := .refl _ _
 unfold spec_l2System.f at H
 refine RetS.intro Try.func125 rfl (Nat.le_of_ble_eq_true rfl) rfl ?_
 rw [tm2]
 refine Evr.sr rfl (Opl.alloc T26 rfl rfl rfl ?_)
 rintro i1 S h1 u1 w1
 have ap1 := w1.sameP hs0
 have h2 := u1.sameP hs0 ap1
 have ap2 := w1.box hb0
 have h3 := u1.box hb0 ap2
 refine Opl.nil (Evr.sr rfl (Opl.p1 (v := .agg [.lit (.slice none 0 0), .lit (.slice none 0 0)]) (n := Opl.alloc T26 rfl rfl rfl ?_)))
 rintro i2 S h4 u2 w2
 have ap3 := w2.sameP h2
 have h5 := u2.sameP h2 ap3
 have ap4 := w2.box h3
 have h6 := u2.box h3 ap4
 have ap5 := w2.box h1
 have h7 := u2.box h1 ap5
 refine Opl.stb (vs := [.lit (.slice none 0 0), .lit (.slice none 0 0)]) h4 rfl rfl Z26 rfl (Nat.le_of_ble_eq_true rfl) rfl rfl rfl rfl ?_
 rintro S (h8 : Box (.ptr i2 0) [.lit (.slice none 0 0), .lit (.slice none 0 0)] _) u3
 have h9 := u3.sameP h5 ap3
 have h10 := u3.box h6 ap4
 have h11 := u3.box h7 ap5
 refine Opl.nil (Evr.sr rfl (Opl.p1 (n := Opl.nil (Evr.seq (Evr.sr rfl (Opl.p1 (n := ?_)))))))
 obtain ⟨r1, h_r1, H⟩ := obs H
 refine Opl.calls (spec_l40Rd_pick.evb hq0 h10 h_r1) rfl rfl rfl rfl rfl ?_
 rintro _ S ⟨rfl, h12, u4⟩
 have h13 := u4.sameP h9 OutT.box
 have h14 := u4.box h11 (ap2.symm).pt
 have h15 := u4.box h8 (ap4.symm).pt
 refine Opl.add (k := .i64) (a := 1) (b := r1.2) K3 rfl rfl rfl rfl (Opl.one (v := .lit (.int .i64 (wrap64 (1 + r1.2)))) rfl rfl rfl (Opl.nil (Evr.block ?_)))
 refine Evr.loop (Evr.rounds (n := k) (Inv := fun n tm S => n ≤ k ∧ ∃ (x0b1_1 : Int) (x5b0q3_1 : List IVar) (x6_1 : Int) (x7_1 : Int) (i3 : Abs.Id) (pv1 : PV) (i4 : Abs.Id), spec_l2System.l1 n x0b1_1 x5b0q3_1 x6_1 x7_1 l0_0 a1 = some r ∧ Has tm [(0, .ptr i0 0), (1, .lit (.int .i64 a1)), (4, .ptr i3 0), (5, .ptr i4 0), (6, .lit (.int .i64 x6_1)), (7, .lit (.int .i64 x7_1))] ∧ Box (.ptr i0 0) [q0, .lit (.int .i64 x0b1_1)] S ∧ Box (.ptr i3 0) [.lit (.slice none 0 0), .lit (.slice none 0 0)] S ∧ Vec cIVar x5b0q3_1 pv1 S ∧ Box (.ptr i4 0) [pv1, .lit (.slice none 0 0)] S ∧ Same S0 S [i0] ∧ OutT S0 [i0] (PV.ptr i3 0).id?.toList ∧ OutT S0 [i0] (PV.id? pv1).toList ∧ OutT S0 [i0] (PV.ptr i4 0).id?.toList ∧ Ap (.ptr i0 0) (.ptr i3 0) ∧ Ap (.ptr i0 0) pv1 ∧ Ap (.ptr i0 0) (.ptr i4 0) ∧ Ap (.ptr i3 0) pv1 ∧ Ap (.ptr i3 0) (.ptr i4 0) ∧ Ap pv1 (.ptr i4 0)) ?_ ?_ ?_)
 · exact ⟨Nat.le_refl _, _, _, _, _, _, _, _, H, ⟨rfl, rfl, rfl, rfl, rfl, rfl, trivial⟩, h12, h14, .nil, h15, h13, ap1, OutT.lit, ap3, ap2, Ap.nil.symm, ap4, Ap.nil.symm, ap5, .nil⟩
 ·
  rintro tm S ⟨_, _, _, _, _, _, _, _, H, -⟩
  simp [spec_l2System.l1] at H
 ·
  rintro n1 ih1 tm S ⟨hle, x0b1_1, x5b0q3_1, x6_1, x7_1, i3, pv1, i4, H, hh, h16, h17, h19, h18, h20, o1, o2, o3, ap6, ap7, ap8, ap9, ap10, ap11⟩
  simp only [spec_l2System.l1] at H
  rw [hh.eq]
  refine Evr.seq (Evr.sr rfl (Opl.p1 (n := Opl.p1 (n := Opl.nil ?_))))
  by_cases c1 : x7_1 > 0
  case pos =>
   rw [if_pos c1] at H
   have e1 : (decide (x7_1 > 0)) = true := by simpa using c1
   try rw [e1]
   refine Evr.condT rfl (Evr.skip (Evr.seq (Evr.block (Evr.sr rfl (Opl.p1 (n := Opl.liti (M := (cInt .i64)) (ys := [2, 3, 2, 4, 5]) [.const (.int .i64 2), .const (.int .i64 3), .const (.int .i64 2), .const (.int .i64 4), .const (.int .i64 5)] K27 T3 rfl rfl rfl (by exact ⟨rfl, rfl, rfl, rfl, rfl, trivial⟩) rfl (by decide) rfl rfl ?_))))))
   rintro pv3 h21
   obtain ⟨r2, h_r2, H⟩ := obs H
   refine Opl.calls (spec_l40Rd_num.evb hq0 h16 h21 h_r2) rfl rfl rfl rfl rfl ?_
   rintro _ S ⟨rfl, h22, u5⟩
   have h23 := u5.box h17 (ap6.symm).pt
   have h24 := u5.vec h19 (ap7.symm).pt
   have h25 := u5.box h18 (ap8.symm).pt
   have h26 := u5.sameP h20 OutT.box
   refine Opl.p1 (n := Opl.nil (Evr.sr rfl (Opl.p1 (n := Opl.p1 (n := Opl.mul (k := .i64) (a := x6_1) (b := r2.2) K3 rfl rfl rfl rfl (Opl.one (v := .lit (.int .i64 a1)) rfl rfl rfl (Opl.leq (a := (wrap64 (x6_1 * r2.2))) (b := a1) K3 rfl rfl rfl rfl (Opl.nil ?_))))))))
   refine Evr.join (fun tm S => ∃ (kq1 : Nat) (x0b1_2 : Int) (x5b0q3_2 : List IVar) (x6_2 : Int) (i5 : Abs.Id) (pv4 : PV) (i6 : Abs.Id), spec_l2System.l1 kq1 x0b1_2 x5b0q3_2 x6_2 (wrap64 (x7_1 - 1)) l0_0 a1 = some r ∧ kq1 ≤ n1 ∧ Has tm [(0, .ptr i0 0), (1, .lit (.int .i64 a1)), (4, .ptr i5 0), (5, .ptr i6 0), (6, .lit (.int .i64 x6_2)), (7, .lit (.int .i64 x7_1))] ∧ Box (.ptr i0 0) [q0, .lit (.int .i64 x0b1_2)] S ∧ Box (.ptr i5 0) [.lit (.slice none 0 0), .lit (.slice none 0 0)] S ∧ Vec cIVar x5b0q3_2 pv4 S ∧ Box (.ptr i6 0) [pv4, .lit (.slice none 0 0)] S ∧ Same S0 S [i0] ∧ OutT S0 [i0] (PV.ptr i5 0).id?.toList ∧ OutT S0 [i0] (PV.id? pv4).toList ∧ OutT S0 [i0] (PV.ptr i6 0).id?.toList ∧ Ap (.ptr i0 0) (.ptr i5 0) ∧ Ap (.ptr i0 0) pv4 ∧ Ap (.ptr i0 0) (.ptr i6 0) ∧ Ap (.ptr i5 0) pv4 ∧ Ap (.ptr i5 0) (.ptr i6 0) ∧ Ap pv4 (.ptr i6 0)) ?_ fun hk1 => ?_
   ·
    rintro tm S ⟨kq1, x0b1_2, x5b0q3_2, x6_2, i5, pv4, i6, H, hle, hh, h27, h28, h30, h29, h31, o4, o5, o6, ap12, ap13, ap14, ap15, ap16, ap17⟩
    rw [hh.eq]
    refine Evr.inBlock (Evr.regionN rfl (Opl.p1 (n := Opl.subi (k := .i64) (a := x7_1) (b := 1) K3 rfl rfl rfl rfl (Opl.one (v := .lit (.int .i64 (wrap64 (x7_1 - 1)))) rfl rfl rfl (Opl.nil ?_)))))
    exact ih1 _ (by omega) _ _ ⟨by omega, _, _, _, _, _, _, _, H, ⟨rfl, rfl, rfl, rfl, rfl, rfl, trivial⟩, h27, h28, h30, h29, h31, o4, o5, o6, ap12, ap13, ap14, ap15, ap16, ap17⟩
   ·
    by_cases c2 : (wrap64 (x6_1 * r2.2)) ≤ a1
    case neg =>
     rw [if_neg c2] at H
     have e3 : (decide ((wrap64 (x6_1 * r2.2)) ≤ a1)) = false := by simpa using c2
     try rw [e3]
     refine Evr.condF rfl (Evr.skip ?_)
     exact hk1 _ _ ⟨_, _, _, _, _, _, _, H, by omega, ⟨rfl, rfl, rfl, rfl, rfl, rfl, trivial⟩, h22, h23, h24, h25, h26, o1, o2, o3, ap6, ap7, ap8, ap9, ap10, ap11⟩
    rw [if_pos c2] at H
    have e2 : (decide ((wrap64 (x6_1 * r2.2)) ≤ a1)) = true := by simpa using c2
    try rw [e2]
    refine Evr.condT rfl (Evr.sr rfl (Opl.one (v := .ptr i0 0) rfl rfl rfl (Opl.liti (M := (cInt .i64)) (ys := [0, 0, 0, (-1), 2]) [.const (.int .i64 0), .const (.int .i64 0), .const (.int .i64 0), .const (.int .i64 (-1)), .const (.int .i64 2)] K27 T3 rfl rfl rfl (by exact ⟨rfl, rfl, rfl, rfl, rfl, trivial⟩) rfl (by decide) rfl rfl ?_)))
    rintro pv6 h32
    obtain ⟨r3, h_r3, H⟩ := obs H
    refine Opl.calls (spec_l40Rd_num.evb hq0 h22 h32 h_r3) rfl rfl rfl rfl rfl ?_
    rintro _ S ⟨rfl, h33, u6⟩
    have h34 := u6.box h23 (ap6.symm).pt
    have h35 := u6.vec h24 (ap7.symm).pt
    have h36 := u6.box h25 (ap8.symm).pt
    have h37 := u6.sameP h26 OutT.box
    refine Opl.one (v := .lit (.int .i64 r3.2)) rfl rfl rfl (Opl.nil (Evr.seq (Evr.regionL [(10, .m), (13, .p), (1, .q)] rfl (by kernel_rfl) (Opl.p1 (v := .ptr i4 0) (n := Opl.ldbk (v := pv1) h36 rfl rfl T23 rfl rfl rfl rfl (Opl.one (v := .lit (.int .i64 r3.2)) rfl rfl rfl (Opl.one (v := .lit (.int .i64 r3.2)) rfl rfl rfl (Opl.one (v := .lit (.int .i64 r2.2)) rfl rfl rfl (Opl.add (k := .i64) (a := r3.2) (b := r2.2) K3 rfl rfl rfl rfl (Opl.subi (k := .i64) (a := (wrap64 (r3.2 + r2.2))) (b := 1) K3 rfl rfl rfl rfl (Opl.one (v := .lit (.int .i64 r3.2)) rfl rfl rfl (Opl.one (v := .ptr i0 0) rfl rfl rfl (Opl.one (v := .lit (.int .i64 r2.2)) rfl rfl rfl ?_)))))))))))))
    obtain ⟨r4, h_r4, H⟩ := obs H
    refine Opl.callbm h33 (spec_l40Rd_pick.evb hq0 h33 h_r4) rfl rfl rfl rfl rfl ?_
    rintro _ S rfl h38 u7
    have h39 := u7.box h34 (ap6.symm).pt
    have h40 := u7.vec h35 (ap7.symm).pt
    have h41 := u7.box h36 (ap8.symm).pt
    have h42 := u7.sameP h37 OutT.box
    refine Opl.add (k := .i64) (a := r3.2) (b := r4.2) K3 rfl rfl rfl rfl (Opl.p1 (v := .agg [.lit (.int .i64 r3.2), .lit (.int .i64 (wrap64 ((wrap64 (r3.2 + r2.2)) - 1))), .lit (.int .i64 (wrap64 (r3.2 + r4.2)))]) (n := Opl.liti (M := cIVar) (ys := [(⟨r3.2, (wrap64 ((wrap64 (r3.2 + r2.2)) - 1)), (wrap64 (r3.2 + r4.2))⟩ : IVar)]) [.tmp 41] K23 T101 rfl rfl rfl (by exact ⟨cIVar_mk, trivial⟩) rfl (by decide) rfl rfl ?_))
    rintro pv8 h43
    obtain ⟨c3, H⟩ := peel H
    refine Opl.app (M := cIVar) (xs := x5b0q3_1) (ys := [(⟨r3.2, (wrap64 ((wrap64 (r3.2 + r2.2)) - 1)), (wrap64 (r3.2 + r4.2))⟩ : IVar)]) (v := pv1) h40 (.sl h43) oIVar rfl rfl K23 T101 rfl rfl (by (try simp only [List.length_cons, List.length_nil]); omega) (by show (_ + _) * 24 ≤ 140737488355328; (try simp only [List.length_cons, List.length_nil]); omega) rfl rfl rfl rfl rfl ?_
    rintro pv9 S h44 u8 w4
    have ap18 := w4.box h38
    have h45 := u8.box h38 ap7
    have ap19 := w4.box h39
    have h46 := u8.box h39 ap9
    have ap20 := w4.box h41
    have h47 := u8.box h41 ap11.symm
    have ap21 := w4.sameP h42
    have h48 := u8.sameP h42 o2
    refine Opl.p1 (v := .ptr i4 0) (n := Opl.stb (vs := [pv9]) h47 rfl (by exact Vec.cells h44) Z23 rfl (Nat.le_of_ble_eq_true rfl) (by simp only [List.all_cons, List.all_nil, Vec.one h44, Bool.and_true, Bool.true_and] <;> rfl) rfl rfl rfl ?_)
    rintro S (h49 : Box (.ptr i4 0) [pv9, .lit (.slice none 0 0)] _) u9
    have h50 := u9.box h45 ap8
    have h51 := u9.box h46 ap10
    have h52 := u9.sameP h48 o3
    have h53 := u9.vec h44 ap20.symm
    refine Opl.nil (Evr.regionN rfl (Opl.one (v := .lit (.int .i64 x6_1)) rfl rfl rfl (Opl.one (v := .lit (.int .i64 r2.2)) rfl rfl rfl (Opl.mul (k := .i64) (a := x6_1) (b := r2.2) K3 rfl rfl rfl rfl (Opl.one (v := .lit (.int .i64 (wrap64 (x6_1 * r2.2)))) rfl rfl rfl (Opl.nil ?_))))))
    exact hk1 _ _ ⟨_, _, _, _, _, _, _, H, by omega, ⟨rfl, rfl, rfl, rfl, rfl, rfl, trivial⟩, h50, h51, h53, h49, h52, o1, ap21, o3, ap6, ap18, ap8, ap19, ap10, ap20.symm⟩
  rw [if_neg c1] at H
  have e4 : (decide (x7_1 > 0)) = false := by simpa using c1
  try rw [e4]
  refine Evr.condF rfl (Evr.exit rfl (Evr.seq (Evr.sr rfl (Opl.p1 (v := .ptr i4 0) (n := Opl.ldb (v := pv1) h18 rfl T23 rfl rfl rfl rfl (Opl.lenv (xs := x5b0q3_1) (by exact h19) K23 rfl rfl rfl rfl (Opl.p1 (n := Opl.nil ?_))))))))
  by_cases c4 : (x5b0q3_1.length : Int) = 0
  case neg =>
   rw [if_neg c4] at H
   have e6 : ((x5b0q3_1.length : Int) == 0) = false := by simpa using c4
   try rw [e6]
   refine Evr.condF rfl (Evr.skip (Evr.seq (Evr.regionL [(5, .m), (6, .n), (4, .p), (2, .q)] rfl (by kernel_rfl) (Opl.p1 (n := Opl.p1 (v := .ptr i4 0) (n := Opl.ldbk (v := pv1) h18 rfl rfl T23 rfl rfl rfl rfl (Opl.p1 (n := Opl.liti (M := (cInt .i64)) (ys := [1, 2, 3, 4, 2, 3, 0]) [.const (.int .i64 1), .const (.int .i64 2), .const (.int .i64 3), .const (.int .i64 4), .const (.int .i64 2), .const (.int .i64 3), .const (.int .i64 0)] K27 T3 rfl rfl rfl (by exact ⟨rfl, rfl, rfl, rfl, rfl, rfl, rfl, trivial⟩) rfl (by decide) rfl rfl ?_))))))))
   rintro pv17 h89
   obtain _ | k2 := n1
   · simp [spec_l2System.j2] at H
   simp only [spec_l2System.j2] at H
   obtain ⟨r5, h_r5, H⟩ := obs H
   refine Opl.callbm h16 (spec_l40Rd_num.evb hq0 h16 h89 h_r5) rfl rfl rfl rfl rfl ?_
   rintro _ S rfl h90 u16
   have h91 := u16.box h17 (ap6.symm).pt
   have h92 := u16.vec h19 (ap7.symm).pt
   have h93 := u16.box h18 (ap8.symm).pt
   have h94 := u16.sameP h20 OutT.box
   obtain ⟨r6, h_r6, H⟩ := obs H
   refine Opl.calls (spec_l2Rules.evv hq0 h90 h92 ap7.symm h_r6) rfl rfl rfl rfl rfl ?_
   rintro pv18 S ⟨ids2, h95, f2, h96, u17⟩
   have h97 := u17.box h91 (ap6.symm).pt
   have h98 := u17.vec h92 (ap7.symm).pt
   have h99 := u17.box h93 (ap8.symm).pt
   have h100 := u17.sameP h94 OutT.box
   have ap31 := f2.box h90
   have ap32 := f2.box h91
   have ap33 := f2.vec h92
   have ap34 := f2.box h93
   have ap35 := f2.sameP h94
   refine Opl.p1 (v := .ptr i4 1) (n := Opl.stb (vs := [pv18]) h99 rfl (by exact oRow_cells h95) Z24 rfl (Nat.le_of_ble_eq_true rfl) (by simp only [List.all_cons, List.all_nil, oRow_p1 h95, Bool.and_true, Bool.true_and] <;> rfl) rfl rfl rfl ?_)
   rintro S (h101 : Box (.ptr i4 0) [pv1, pv18] _) u18
   have h102 := u18.box h96 ap8
   have h103 := u18.box h97 ap10
   have h104 := u18.vec h98 ap11
   have h105 := u18.sameP h100 o3
   have h106 := u18.tree h95 ap34
   refine Opl.nil (Evr.sr rfl (Opl.ldb (v := .agg [pv1, pv18]) h101 rfl T26 rfl rfl rfl rfl (Opl.stb (vs := [pv1, pv18]) h103 rfl rfl Z26 rfl (Nat.le_of_ble_eq_true rfl) (by simp only [List.all_cons, List.all_nil, Vec.one h104, oRow_p1 h106, Bool.and_true, Bool.true_and] <;> rfl) rfl rfl rfl ?_)))
   rintro S (h107 : Box (.ptr i3 0) [pv1, pv18] _) u19
   have h108 := u19.box h102 ap6
   have h109 := u19.vec h104 ap9.symm
   have h110 := u19.box h101 ap10.symm
   have h111 := u19.sameP h105 o1
   have h112 := u19.tree h106 ap32
   refine Opl.nil ?_
   obtain rfl := sinj H
   refine Evr.retb (v := .agg [pv1, pv18]) Try.func125 rfl h107 rfl T26 rfl ?_
   exact ⟨_, _, _, rfl, h109, (OutT.new (i := i0) o2 ap7.symm), h112, (OutT.fresh ap35 ap31), ap33, h108, h111⟩
  rw [if_pos c4] at H
  have e5 : ((x5b0q3_1.length : Int) == 0) = true := by simpa using c4
  try rw [e5]
  refine Evr.condT rfl (Evr.regionN rfl (Opl.p1 (v := .ptr i4 0) (n := Opl.ldb (v := pv1) h18 rfl T23 rfl rfl rfl rfl (Opl.p1 (v := .agg [.lit (.int .i64 0), .lit (.int .i64 1), .lit (.int .i64 0)]) (n := Opl.liti (M := cIVar) (ys := [(⟨0, 1, 0⟩ : IVar)]) [.tmp 54] K23 T101 rfl rfl rfl (by exact ⟨cIVar_mk, trivial⟩) rfl (by decide) rfl rfl ?_)))))
  rintro pv11 h54
  obtain ⟨c5, H⟩ := peel H
  obtain _ | k1 := n1
  · simp [spec_l2System.j2] at H
  simp only [spec_l2System.j2] at H
  refine Opl.app (M := cIVar) (xs := x5b0q3_1) (ys := [(⟨0, 1, 0⟩ : IVar)]) (v := pv1) h19 (.sl h54) oIVar rfl rfl K23 T101 rfl rfl (by (try simp only [List.length_cons, List.length_nil]); omega) (by show (_ + _) * 24 ≤ 140737488355328; (try simp only [List.length_cons, List.length_nil]); omega) rfl rfl rfl rfl rfl ?_
  rintro pv12 S h55 u10 w6
  have ap22 := w6.box h16
  have h56 := u10.box h16 ap7
  have ap23 := w6.box h17
  have h57 := u10.box h17 ap9
  have ap24 := w6.box h18
  have h58 := u10.box h18 ap11.symm
  have ap25 := w6.sameP h20
  have h59 := u10.sameP h20 o2
  refine Opl.p1 (v := .ptr i4 0) (n := Opl.stb (vs := [pv12]) h58 rfl (by exact Vec.cells h55) Z23 rfl (Nat.le_of_ble_eq_true rfl) (by simp only [List.all_cons, List.all_nil, Vec.one h55, Bool.and_true, Bool.true_and] <;> rfl) rfl rfl rfl ?_)
  rintro S (h60 : Box (.ptr i4 0) [pv12, .lit (.slice none 0 0)] _) u11
  have h61 := u11.box h56 ap8
  have h62 := u11.box h57 ap10
  have h63 := u11.sameP h59 o3
  have h64 := u11.vec h55 ap24.symm
  refine Opl.nil (Evr.seq (Evr.regionL [(5, .m), (6, .n), (4, .p), (2, .q)] rfl (by kernel_rfl) (Opl.p1 (n := Opl.p1 (v := .ptr i4 0) (n := Opl.ldbk (v := pv12) h60 rfl rfl T23 rfl rfl rfl rfl (Opl.p1 (n := Opl.liti (M := (cInt .i64)) (ys := [1, 2, 3, 4, 2, 3, 0]) [.const (.int .i64 1), .const (.int .i64 2), .const (.int .i64 3), .const (.int .i64 4), .const (.int .i64 2), .const (.int .i64 3), .const (.int .i64 0)] K27 T3 rfl rfl rfl (by exact ⟨rfl, rfl, rfl, rfl, rfl, rfl, rfl, trivial⟩) rfl (by decide) rfl rfl ?_)))))))
  rintro pv14 h65
  obtain ⟨r5, h_r5, H⟩ := obs H
  refine Opl.callbm h61 (spec_l40Rd_num.evb hq0 h61 h65 h_r5) rfl rfl rfl rfl rfl ?_
  rintro _ S rfl h66 u12
  have h67 := u12.box h62 (ap6.symm).pt
  have h68 := u12.box h60 (ap8.symm).pt
  have h69 := u12.sameP h63 OutT.box
  have h70 := u12.vec h64 (ap22.symm).pt
  obtain ⟨r6, h_r6, H⟩ := obs H
  refine Opl.calls (spec_l2Rules.evv hq0 h66 h70 ap22.symm h_r6) rfl rfl rfl rfl rfl ?_
  rintro pv15 S ⟨ids1, h71, f1, h72, u13⟩
  have h73 := u13.box h67 (ap6.symm).pt
  have h74 := u13.box h68 (ap8.symm).pt
  have h75 := u13.sameP h69 OutT.box
  have h76 := u13.vec h70 (ap22.symm).pt
  have ap26 := f1.box h66
  have ap27 := f1.box h67
  have ap28 := f1.box h68
  have ap29 := f1.sameP h69
  have ap30 := f1.vec h70
  refine Opl.p1 (v := .ptr i4 1) (n := Opl.stb (vs := [pv15]) h74 rfl (by exact oRow_cells h71) Z24 rfl (Nat.le_of_ble_eq_true rfl) (by simp only [List.all_cons, List.all_nil, oRow_p1 h71, Bool.and_true, Bool.true_and] <;> rfl) rfl rfl rfl ?_)
  rintro S (h77 : Box (.ptr i4 0) [pv12, pv15] _) u14
  have h78 := u14.box h72 ap8
  have h79 := u14.box h73 ap10
  have h80 := u14.sameP h75 o3
  have h81 := u14.vec h76 ap24.symm
  have h82 := u14.tree h71 ap28
  refine Opl.nil (Evr.sr rfl (Opl.ldb (v := .agg [pv12, pv15]) h77 rfl T26 rfl rfl rfl rfl (Opl.stb (vs := [pv12, pv15]) h79 rfl rfl Z26 rfl (Nat.le_of_ble_eq_true rfl) (by simp only [List.all_cons, List.all_nil, Vec.one h81, oRow_p1 h82, Bool.and_true, Bool.true_and] <;> rfl) rfl rfl rfl ?_)))
  rintro S (h83 : Box (.ptr i3 0) [pv12, pv15] _) u15
  have h84 := u15.box h78 ap6
  have h85 := u15.box h77 ap10.symm
  have h86 := u15.sameP h80 o1
  have h87 := u15.vec h81 ap23.symm
  have h88 := u15.tree h82 ap27
  refine Opl.nil ?_
  obtain rfl := sinj H
  refine Evr.retb (v := .agg [pv12, pv15]) Try.func125 rfl h83 rfl T26 rfl ?_
  exact ⟨_, _, _, rfl, h87, (OutT.new (i := i0) ap25 ap22.symm), h88, (OutT.fresh ap29 ap26), ap30, h84, h86⟩
end Go.Proofs.Ytpjmiaooogephaa.PA
