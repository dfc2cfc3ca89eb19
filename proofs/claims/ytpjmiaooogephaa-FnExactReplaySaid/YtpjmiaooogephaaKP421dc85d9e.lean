/- Walks of Go functions: each is shown to answer as the Lean function beside it tells, under the conditions that its theorem names. -/
import Derived.Test.YtpjmiaooogephaaProg
import Derived.KernelRfl
import Derived.Below
import Derived.Deep.Draws
import Derived.Deep.AppendLies
import Derived.Maps.AppendAt
import Derived.OwnWalk
import Derived.Laws.BytesArg
import Derived.Laws.MakeOwn
import Derived.Laws.OwnMore
import Derived.Deep.OwnRows
import Derived.Tactics
import Derived.Lib.ConvBytes
import Derived.Laws.Slices
import Derived.WalkKit
import Derived.RowKit3
import Derived.Deep.LoopGhost
import Derived.Deep.QuietTactic
import Derived.BigQuiet
import Derived.WideLaws
import Derived.Deep.DeepCutAuto
import Derived.Deep.CutBlock
import Derived.Deep.RegionHeld3
import Derived.Laws.Rows
import Derived.Lib.AppendStr
import Derived.ArgAppend
import Derived.Laws.IdiomCopy
import Derived.OrdersHeld
import Derived.Laws.BitsLemmas
import Derived.RowKit
import Derived.Laws.StructEq
import Derived.Lib.SliceRun
import Derived.WalkSpells
import Derived.ChangeArms
import Derived.ChangeSlices
import Derived.Deep.Slices
import Derived.Attr
import Derived.Laws.Append
import Derived.Laws.AppendOwn
import Derived.Laws.Entries
import Derived.Calls
import Derived.Laws.Sem
import Derived.Test.YtpjmiaooogephaaKPcd9894ec38
namespace Go.Proofs.Ytpjmiaooogephaa.PA
open Go Go.Abs Go.RowKit Go.Proofs Go.Proofs.YtpjmiaooogephaaW.PrintWords Go.Proofs.YtpjmiaooogephaaW.PrintLast Go.Proofs.YtpjmiaooogephaaW.PrintMore
set_option maxRecDepth 100000
set_option maxHeartbeats 4000000
set_option linter.unusedVariables false
set_option linter.unusedSimpArgs false
theorem spec_l1In.ev {a0 : Int} {a1 : Int} {a2 : Int} {r : Bool} (H : spec_l1In.f a0 a1 a2 = some r) : Ret Try.prog 63 [.lit (.int .i64 a0), .lit (.int .i64 a1), .lit (.int .i64 a2)] fun v S => v = .lit (.bool r) := by
 unfold spec_l1In.f at H
 refine Ret.intro Try.func63 rfl (Nat.le_of_ble_eq_true rfl) rfl ?_
 rw [tm3]
 refine Evr.sr rfl (Opl.p1 (n := Opl.nil (Evr.sr rfl (Opl.p1 (n := Opl.p1 (n := Opl.p1 (n := Opl.p1 (n := ?_))))))))
 by_cases c1 : a0 ≥ a1
 case neg =>
  rw [if_neg c1] at H
  have e2 : (decide (a0 ≥ a1)) = false := by simpa using c1
  try rw [e2]
  refine Opl.skp rfl (Opl.skp rfl (Opl.skp rfl (Opl.p1 (n := Opl.p1 (n := Opl.nil ?_)))))
  obtain rfl := Option.some.inj H
  refine Evr.ret1 Try.func63 rfl ?_
  show (.lit (.bool false) : PV) = _
  first | rfl | (simp only [go_sem]; rfl)
 rw [if_pos c1] at H
 have e1 : (decide (a0 ≥ a1)) = true := by simpa using c1
 try rw [e1]
 refine Opl.p1 (n := Opl.p1 (n := Opl.p1 (n := Opl.p1 (n := Opl.p1 (n := Opl.nil ?_)))))
 obtain rfl := Option.some.inj H
 refine Evr.ret1 Try.func63 rfl ?_
 show (.lit (.bool (decide (a0 ≤ a2))) : PV) = _
 first | rfl | (simp only [go_sem]; rfl)
theorem spec_l1One.ev {a0 : Int} {r : Bool} (H : spec_l1One.f a0 = some r) : Ret Try.prog 196 [.lit (.int .i64 a0)] fun v S => v = .lit (.bool r) := by
 unfold spec_l1One.f at H
 refine Ret.intro Try.func196 rfl (Nat.le_of_ble_eq_true rfl) rfl ?_
 rw [tm1]
 refine Evr.sr rfl (Opl.p1 (n := Opl.nil (Evr.sr rfl (Opl.p1 (n := Opl.p1 (n := Opl.p1 (n := Opl.nil ?_)))))))
 obtain rfl := Option.some.inj H
 refine Evr.ret1 Try.func196 rfl ?_
 show (.lit (.bool (a0 == 7)) : PV) = _
 first | rfl | (simp only [go_sem]; rfl)
theorem spec_l1Kind.ev {k : Nat} {a0_0 : Int} {a0_1 : Int} {a0_2 : Int} {a0_3 : Int} {l1 : List Int} {v1 : PV} (hv1 : Sl (cInt .i64) l1 v1) {a2 : Int} {r : Int} (H : spec_l1Kind.f k a0_0 a0_1 a0_2 a0_3 l1 a2 = some r) : Ret Try.prog 197 [.agg [.lit (.int .i64 a0_0), .lit (.int .i64 a0_1), .lit (.int .i64 a0_2), .lit (.int .i64 a0_3)], v1, .lit (.int .i64 a2)] fun v S => v = .lit (.int .i64 r) := by
 unfold spec_l1Kind.f at H
 refine Ret.intro Try.func197 rfl (Nat.le_of_ble_eq_true rfl) rfl ?_
 rw [tm3]
 refine Evr.sr rfl (Opl.box (cs := [.lit (.int .i64 a0_0), .lit (.int .i64 a0_1), .lit (.int .i64 a0_2), .lit (.int .i64 a0_3)]) rfl rfl rfl rfl ?_)
 rintro i1 S h1 u1 w1
 refine Opl.p1 (n := Opl.nil (Evr.seq (Evr.seq ?_)))
 refine Evr.join (fun tm S => ∃ (kq1 : Nat) (x25_1 : Bool) (i2 : Abs.Id), spec_l1Kind.j0 kq1 l1 a2 x25_1 a0_0 a0_1 a0_2 a0_3 = some r ∧ Has tm [(1, v1), (2, .lit (.int .i64 a2)), (3, .ptr i2 0), (25, .lit (.bool x25_1))] ∧ Box (.ptr i2 0) [.lit (.int .i64 a0_0), .lit (.int .i64 a0_1), .lit (.int .i64 a0_2), .lit (.int .i64 a0_3)] S) ?_ fun hk1 => ?_
 ·
  rintro tm S ⟨kq1, x25_1, i2, H, hh, h2⟩
  rw [hh.eq]
  obtain _ | k1 := kq1
  · simp [spec_l1Kind.j0] at H
  simp only [spec_l1Kind.j0] at H
  by_cases c1 : x25_1 = true
  case pos =>
   rw [if_pos c1] at H
   obtain rfl : x25_1 = true := by simpa using c1
   refine Evr.condT rfl (Evr.sr rfl (Opl.p1 (n := Opl.nil ?_)))
   obtain rfl := Option.some.inj H
   refine Evr.ret1 Try.func197 rfl ?_
   show (.lit (.int .i64 1) : PV) = _
   first | rfl | (simp only [go_sem]; rfl)
  rw [if_neg c1] at H
  obtain rfl : x25_1 = false := by simpa using c1
  refine Evr.condF rfl (Evr.skip (Evr.seq (Evr.seq ?_)))
  refine Evr.join (fun tm S => ∃ (kq2 : Nat) (x45_1 : Bool) (i3 : Abs.Id), spec_l1Kind.j1 kq2 l1 x45_1 a0_0 a0_1 a0_2 a0_3 = some r ∧ Has tm [(1, v1), (3, .ptr i3 0), (45, .lit (.bool x45_1))] ∧ Box (.ptr i3 0) [.lit (.int .i64 a0_0), .lit (.int .i64 a0_1), .lit (.int .i64 a0_2), .lit (.int .i64 a0_3)] S) ?_ fun hk2 => ?_
  ·
   rintro tm S ⟨kq2, x45_1, i3, H, hh, h3⟩
   rw [hh.eq]
   obtain _ | k2 := kq2
   · simp [spec_l1Kind.j1] at H
   simp only [spec_l1Kind.j1] at H
   by_cases c2 : x45_1 = true
   case pos =>
    rw [if_pos c2] at H
    obtain rfl : x45_1 = true := by simpa using c2
    refine Evr.condT rfl (Evr.sr rfl (Opl.p1 (n := Opl.nil ?_)))
    obtain rfl := Option.some.inj H
    refine Evr.ret1 Try.func197 rfl ?_
    show (.lit (.int .i64 1) : PV) = _
    first | rfl | (simp only [go_sem]; rfl)
   rw [if_neg c2] at H
   obtain rfl : x45_1 = false := by simpa using c2
   refine Evr.condF rfl (Evr.skip (Evr.seq (Evr.seq ?_)))
   refine Evr.join (fun tm S => ∃ (kq3 : Nat) (x72_1 : Bool) (i4 : Abs.Id), spec_l1Kind.j2 kq3 l1 x72_1 a0_0 a0_1 a0_2 a0_3 = some r ∧ Has tm [(1, v1), (3, .ptr i4 0), (72, .lit (.bool x72_1))] ∧ Box (.ptr i4 0) [.lit (.int .i64 a0_0), .lit (.int .i64 a0_1), .lit (.int .i64 a0_2), .lit (.int .i64 a0_3)] S) ?_ fun hk3 => ?_
   ·
    rintro tm S ⟨kq3, x72_1, i4, H, hh, h4⟩
    rw [hh.eq]
    obtain _ | k3 := kq3
    · simp [spec_l1Kind.j2] at H
    simp only [spec_l1Kind.j2] at H
    by_cases c3 : x72_1 = true
    case pos =>
     rw [if_pos c3] at H
     obtain rfl : x72_1 = true := by simpa using c3
     refine Evr.condT rfl (Evr.sr rfl (Opl.p1 (n := Opl.nil ?_)))
     obtain rfl := Option.some.inj H
     refine Evr.ret1 Try.func197 rfl ?_
     show (.lit (.int .i64 0) : PV) = _
     first | rfl | (simp only [go_sem]; rfl)
    rw [if_neg c3] at H
    obtain rfl : x72_1 = false := by simpa using c3
    refine Evr.condF rfl (Evr.skip (Evr.sr rfl (Opl.p1 (n := Opl.nil (Evr.seq (Evr.sr rfl (Opl.p1 (v := .ptr i4 0) (n := Opl.ldb (v := .lit (.int .i64 a0_0)) h4 rfl T3 rfl rfl rfl rfl (Opl.p1 (n := Opl.nil ?_))))))))))
    refine Evr.join (fun tm S => ∃ (kq4 : Nat) (x7_1 : Int) (i5 : Abs.Id), spec_l1Kind.j3 kq4 l1 x7_1 a0_0 a0_1 a0_2 a0_3 = some r ∧ Has tm [(1, v1), (3, .ptr i5 0), (7, .lit (.int .i64 x7_1))] ∧ Box (.ptr i5 0) [.lit (.int .i64 a0_0), .lit (.int .i64 a0_1), .lit (.int .i64 a0_2), .lit (.int .i64 a0_3)] S) ?_ fun hk4 => ?_
    ·
     rintro tm S ⟨kq4, x7_1, i5, H, hh, h5⟩
     rw [hh.eq]
     refine Evr.seq (Evr.seq ?_)
     refine Evr.join (fun tm S => ∃ (kq5 : Nat) (x103_1 : Bool) (i6 : Abs.Id), spec_l1Kind.j4 kq5 x103_1 a0_0 a0_1 a0_2 a0_3 = some r ∧ Has tm [(3, .ptr i6 0), (103, .lit (.bool x103_1))] ∧ Box (.ptr i6 0) [.lit (.int .i64 a0_0), .lit (.int .i64 a0_1), .lit (.int .i64 a0_2), .lit (.int .i64 a0_3)] S) ?_ fun hk5 => ?_
     ·
      rintro tm S ⟨kq5, x103_1, i6, H, hh, h6⟩
      rw [hh.eq]
      obtain _ | k4 := kq5
      · simp [spec_l1Kind.j4] at H
      simp only [spec_l1Kind.j4] at H
      by_cases c4 : x103_1 = true
      case pos =>
       rw [if_pos c4] at H
       obtain rfl : x103_1 = true := by simpa using c4
       refine Evr.condT rfl (Evr.sr rfl (Opl.p1 (n := Opl.nil ?_)))
       obtain rfl := Option.some.inj H
       refine Evr.ret1 Try.func197 rfl ?_
       show (.lit (.int .i64 0) : PV) = _
       first | rfl | (simp only [go_sem]; rfl)
      rw [if_neg c4] at H
      obtain rfl : x103_1 = false := by simpa using c4
      refine Evr.condF rfl (Evr.skip (Evr.seq (Evr.sr rfl (Opl.p1 (v := .ptr i6 0) (n := Opl.ldb (v := .lit (.int .i64 a0_0)) h6 rfl T3 rfl rfl rfl rfl (Opl.p1 (n := Opl.nil ?_)))))))
      by_cases c5 : a0_0 ≥ 5
      case pos =>
       rw [if_pos c5] at H
       have e1 : (decide (a0_0 ≥ 5)) = true := by simpa using c5
       try rw [e1]
       refine Evr.condT rfl (Evr.sr rfl (Opl.p1 (n := Opl.nil ?_)))
       obtain rfl := Option.some.inj H
       refine Evr.ret1 Try.func197 rfl ?_
       show (.lit (.int .i64 2) : PV) = _
       first | rfl | (simp only [go_sem]; rfl)
      rw [if_neg c5] at H
      have e2 : (decide (a0_0 ≥ 5)) = false := by simpa using c5
      try rw [e2]
      refine Evr.condF rfl (Evr.skip (Evr.sr rfl (Opl.p1 (n := Opl.nil ?_))))
      obtain rfl := Option.some.inj H
      refine Evr.ret1 Try.func197 rfl ?_
      show (.lit (.int .i64 1) : PV) = _
      first | rfl | (simp only [go_sem]; rfl)
     ·
      refine Evr.regionN rfl (Opl.p1 (n := Opl.p1 (v := .ptr i5 2) (n := Opl.ldb (v := .lit (.int .i64 a0_2)) h5 rfl T3 rfl rfl rfl rfl ?_)))
      obtain _ | k5 := kq4
      · simp [spec_l1Kind.j3] at H
      simp only [spec_l1Kind.j3] at H
      obtain ⟨c6, H⟩ := peel H
      obtain ⟨c7, H⟩ := peel H
      refine Opl.idx (M := (cInt .i64)) (xs := l1) (j := a0_2) (0 : Int) (by exact hv1) rfl (by omega) (by omega) K27 Z3 rfl rfl ?_
      rintro p1 q1 h7
      obtain rfl : p1 = [.lit (.int .i64 (rd l1 a0_2))] := h7
      refine Opl.lda (.lit (.int .i64 (rd l1 a0_2))) rfl T3 rfl rfl rfl rfl (Opl.p1 (n := Opl.p1 (n := Opl.p1 (n := ?_))))
      by_cases c8 : (rd l1 a0_2) = x7_1
      case neg =>
       rw [if_neg c8] at H
       have e6 : ((rd l1 a0_2) != x7_1) = true := by simpa using c8
       try rw [e6]
       refine Opl.skp rfl (Opl.skp rfl (Opl.skp rfl (Opl.skp rfl (Opl.skp rfl (Opl.skp rfl (Opl.skp rfl (Opl.p1 (n := Opl.p1 (n := Opl.skp rfl (Opl.skp rfl (Opl.skp rfl (Opl.skp rfl (Opl.skp rfl (Opl.skp rfl (Opl.skp rfl (Opl.skp rfl (Opl.skp rfl (Opl.skp rfl (Opl.p1 (n := Opl.nil ?_))))))))))))))))))))
       exact hk5 _ _ ⟨_, _, _, H, ⟨rfl, (by first | rfl | (show PV.lit (.bool _) = _; congr 2; simp_all)), trivial⟩, h5⟩
      rw [if_pos c8] at H
      have e3 : ((rd l1 a0_2) != x7_1) = false := by simpa using c8
      try rw [e3]
      refine Opl.p1 (n := Opl.p1 (v := .ptr i5 3) (n := Opl.ldb (v := .lit (.int .i64 a0_3)) h5 rfl T3 rfl rfl rfl rfl ?_))
      obtain ⟨c9, H⟩ := peel H
      obtain ⟨c10, H⟩ := peel H
      refine Opl.idx (M := (cInt .i64)) (xs := l1) (j := a0_3) (0 : Int) (by exact hv1) rfl (by omega) (by omega) K27 Z3 rfl rfl ?_
      rintro p2 q2 h8
      obtain rfl : p2 = [.lit (.int .i64 (rd l1 a0_3))] := h8
      refine Opl.lda (.lit (.int .i64 (rd l1 a0_3))) rfl T3 rfl rfl rfl rfl (Opl.p1 (n := Opl.p1 (n := Opl.p1 (n := Opl.p1 (n := ?_)))))
      by_cases c11 : (rd l1 a0_3) = x7_1
      case neg =>
       rw [if_neg c11] at H
       have e5 : ((rd l1 a0_3) != x7_1) = true := by simpa using c11
       try rw [e5]
       refine Opl.skp rfl (Opl.skp rfl (Opl.skp rfl (Opl.skp rfl (Opl.skp rfl (Opl.skp rfl (Opl.skp rfl (Opl.skp rfl (Opl.skp rfl (Opl.skp rfl (Opl.p1 (n := Opl.nil ?_)))))))))))
       exact hk5 _ _ ⟨_, _, _, H, ⟨rfl, (by first | rfl | (show PV.lit (.bool _) = _; congr 2; simp_all)), trivial⟩, h5⟩
      rw [if_pos c11] at H
      have e4 : ((rd l1 a0_3) != x7_1) = false := by simpa using c11
      try rw [e4]
      refine Opl.p1 (v := .ptr i5 0) (n := Opl.ldb (v := .lit (.int .i64 a0_0)) h5 rfl T3 rfl rfl rfl rfl ?_)
      obtain ⟨t144, h_t144, H⟩ := Option.bind_eq_some_iff.1 H
      refine Opl.callc (spec_l1One.ev h_t144) rfl rfl rfl rfl ⟨(.lit _), trivial⟩ (by decide) (Opl.p1 (n := ?_))
      by_cases c12 : t144 = true
      case neg =>
       rw [if_neg c12] at H
       obtain rfl : t144 = false := by simpa using c12
       refine Opl.skp rfl (Opl.skp rfl (Opl.skp rfl (Opl.skp rfl (Opl.skp rfl (Opl.p1 (n := Opl.p1 (n := Opl.nil ?_)))))))
       exact hk5 _ _ ⟨_, _, _, H, ⟨rfl, (by first | rfl | (show PV.lit (.bool _) = _; congr 2; simp_all)), trivial⟩, h5⟩
      rw [if_pos c12] at H
      obtain rfl : t144 = true := by simpa using c12
      refine Opl.p1 (v := .ptr i5 3) (n := Opl.ldb (v := .lit (.int .i64 a0_3)) h5 rfl T3 rfl rfl rfl rfl (Opl.p1 (v := .ptr i5 2) (n := Opl.ldb (v := .lit (.int .i64 a0_2)) h5 rfl T3 rfl rfl rfl rfl (Opl.p1 (n := Opl.p1 (n := Opl.p1 (n := Opl.nil ?_)))))))
      exact hk5 _ _ ⟨_, _, _, H, ⟨rfl, (by first | rfl | (show PV.lit (.bool _) = _; congr 2; simp_all)), trivial⟩, h5⟩
    ·
     by_cases c13 : a0_0 ≥ 7
     case neg =>
      rw [if_neg c13] at H
      have e8 : (decide (a0_0 ≥ 7)) = false := by simpa using c13
      try rw [e8]
      refine Evr.condF rfl (Evr.skip ?_)
      exact hk4 _ _ ⟨_, _, _, H, ⟨rfl, rfl, rfl, trivial⟩, h4⟩
     rw [if_pos c13] at H
     have e7 : (decide (a0_0 ≥ 7)) = true := by simpa using c13
     try rw [e7]
     refine Evr.condT rfl (Evr.regionN rfl (Opl.p1 (n := Opl.nil ?_)))
     exact hk4 _ _ ⟨_, _, _, H, ⟨rfl, rfl, rfl, trivial⟩, h4⟩
   ·
    refine Evr.regionN rfl (Opl.p1 (v := .ptr i3 0) (n := Opl.ldb (v := .lit (.int .i64 a0_0)) h3 rfl T3 rfl rfl rfl rfl ?_))
    obtain ⟨t139, h_t139, H⟩ := Option.bind_eq_some_iff.1 H
    refine Opl.callc (spec_l1In.ev h_t139) rfl rfl rfl rfl ⟨(.lit _), (.lit _), (.lit _), trivial⟩ (by decide) (Opl.p1 (n := Opl.p1 (n := ?_)))
    by_cases c14 : t139 = true
    case neg =>
     rw [if_neg c14] at H
     have e14 : (!t139) = true := by simpa using c14
     try rw [e14]
     refine Opl.skp rfl (Opl.skp rfl (Opl.skp rfl (Opl.p1 (n := Opl.p1 (n := Opl.skp rfl (Opl.skp rfl (Opl.skp rfl (Opl.skp rfl (Opl.skp rfl (Opl.skp rfl (Opl.skp rfl (Opl.p1 (n := Opl.p1 (n := Opl.skp rfl (Opl.skp rfl (Opl.skp rfl (Opl.skp rfl (Opl.skp rfl (Opl.skp rfl (Opl.skp rfl (Opl.p1 (n := Opl.nil ?_))))))))))))))))))))))
     exact hk3 _ _ ⟨_, _, _, H, ⟨rfl, rfl, (by first | rfl | (show PV.lit (.bool _) = _; congr 2; simp_all)), trivial⟩, h3⟩
    rw [if_pos c14] at H
    have e9 : (!t139) = false := by simpa using c14
    try rw [e9]
    refine Opl.p1 (v := .ptr i3 1) (n := Opl.ldb (v := .lit (.int .i64 a0_1)) h3 rfl T3 rfl rfl rfl rfl (Opl.p1 (n := Opl.p1 (n := Opl.p1 (n := ?_)))))
    by_cases c15 : a0_1 = 0
    case neg =>
     rw [if_neg c15] at H
     have e13 : (a0_1 != 0) = true := by simpa using c15
     try rw [e13]
     refine Opl.skp rfl (Opl.skp rfl (Opl.skp rfl (Opl.skp rfl (Opl.skp rfl (Opl.skp rfl (Opl.skp rfl (Opl.p1 (n := Opl.p1 (n := Opl.skp rfl (Opl.skp rfl (Opl.skp rfl (Opl.skp rfl (Opl.skp rfl (Opl.skp rfl (Opl.skp rfl (Opl.p1 (n := Opl.nil ?_)))))))))))))))))
     exact hk3 _ _ ⟨_, _, _, H, ⟨rfl, rfl, (by first | rfl | (show PV.lit (.bool _) = _; congr 2; simp_all)), trivial⟩, h3⟩
    rw [if_pos c15] at H
    have e10 : (a0_1 != 0) = false := by simpa using c15
    try rw [e10]
    refine Opl.p1 (v := .ptr i3 2) (n := Opl.ldb (v := .lit (.int .i64 a0_2)) h3 rfl T3 rfl rfl rfl rfl (Opl.p1 (n := Opl.len (xs := l1) (by exact hv1) K27 rfl rfl rfl rfl (Opl.subi (k := .i64) (a := (l1.length : Int)) (b := 1) K3 rfl rfl rfl rfl ?_))))
    obtain ⟨t140, h_t140, H⟩ := Option.bind_eq_some_iff.1 H
    refine Opl.callc (spec_l1In.ev h_t140) rfl rfl rfl rfl ⟨(.lit _), (.lit _), (.lit _), trivial⟩ (by decide) (Opl.p1 (n := Opl.p1 (n := Opl.one (v := .lit (.bool (!t140))) rfl rfl rfl ?_)))
    by_cases c16 : t140 = true
    case neg =>
     rw [if_neg c16] at H
     have e12 : (!t140) = true := by simpa using c16
     try rw [e12]
     refine Opl.skp rfl (Opl.skp rfl (Opl.skp rfl (Opl.skp rfl (Opl.skp rfl (Opl.skp rfl (Opl.skp rfl (Opl.p1 (n := Opl.nil ?_))))))))
     exact hk3 _ _ ⟨_, _, _, H, ⟨rfl, rfl, (by first | rfl | (show PV.lit (.bool _) = _; congr 2; simp_all)), trivial⟩, h3⟩
    rw [if_pos c16] at H
    have e11 : (!t140) = false := by simpa using c16
    try rw [e11]
    refine Opl.p1 (v := .ptr i3 3) (n := Opl.ldb (v := .lit (.int .i64 a0_3)) h3 rfl T3 rfl rfl rfl rfl (Opl.one (v := v1) rfl rfl rfl (Opl.len (xs := l1) (by exact hv1) K27 rfl rfl rfl rfl (Opl.subi (k := .i64) (a := (l1.length : Int)) (b := 1) K3 rfl rfl rfl rfl ?_))))
    obtain ⟨t141, h_t141, H⟩ := Option.bind_eq_some_iff.1 H
    refine Opl.callc (spec_l1In.ev h_t141) rfl rfl rfl rfl ⟨(.lit _), (.lit _), (.lit _), trivial⟩ (by decide) (Opl.p1 (n := Opl.p1 (n := Opl.nil ?_)))
    exact hk3 _ _ ⟨_, _, _, H, ⟨rfl, rfl, (by first | rfl | (show PV.lit (.bool _) = _; congr 2; simp_all)), trivial⟩, h3⟩
  ·
   refine Evr.regionN rfl (Opl.p1 (v := .ptr i2 0) (n := Opl.ldb (v := .lit (.int .i64 a0_0)) h2 rfl T3 rfl rfl rfl rfl (Opl.p1 (n := Opl.p1 (n := ?_)))))
   by_cases c17 : a0_0 = 1
   case neg =>
    rw [if_neg c17] at H
    have e18 : (a0_0 == 1) = false := by simpa using c17
    try rw [e18]
    refine Opl.skp rfl (Opl.skp rfl (Opl.skp rfl (Opl.skp rfl (Opl.skp rfl (Opl.p1 (n := Opl.p1 (n := Opl.skp rfl (Opl.skp rfl (Opl.skp rfl (Opl.p1 (n := Opl.p1 (n := Opl.skp rfl (Opl.skp rfl (Opl.skp rfl (Opl.p1 (n := Opl.nil ?_))))))))))))))))
    exact hk2 _ _ ⟨_, _, _, H, ⟨rfl, rfl, (by first | rfl | (show PV.lit (.bool _) = _; congr 2; simp_all)), trivial⟩, h2⟩
   rw [if_pos c17] at H
   have e15 : (a0_0 == 1) = true := by simpa using c17
   try rw [e15]
   refine Opl.p1 (v := .ptr i2 1) (n := Opl.ldb (v := .lit (.int .i64 a0_1)) h2 rfl T3 rfl rfl rfl rfl (Opl.p1 (n := Opl.subi (k := .i64) (a := a2) (b := 1) K3 rfl rfl rfl rfl ?_)))
   obtain ⟨t138, h_t138, H⟩ := Option.bind_eq_some_iff.1 H
   refine Opl.callc (spec_l1In.ev h_t138) rfl rfl rfl rfl ⟨(.lit _), (.lit _), (.lit _), trivial⟩ (by decide) (Opl.p1 (n := Opl.one (v := .lit (.bool t138)) rfl rfl rfl ?_))
   by_cases c18 : t138 = true
   case neg =>
    rw [if_neg c18] at H
    obtain rfl : t138 = false := by simpa using c18
    refine Opl.skp rfl (Opl.skp rfl (Opl.skp rfl (Opl.p1 (n := Opl.one (v := .lit (.bool false)) rfl rfl rfl (Opl.skp rfl (Opl.skp rfl (Opl.skp rfl (Opl.p1 (n := Opl.nil ?_)))))))))
    exact hk2 _ _ ⟨_, _, _, H, ⟨rfl, rfl, (by first | rfl | (show PV.lit (.bool _) = _; congr 2; simp_all)), trivial⟩, h2⟩
   rw [if_pos c18] at H
   obtain rfl : t138 = true := by simpa using c18
   refine Opl.p1 (v := .ptr i2 2) (n := Opl.ldb (v := .lit (.int .i64 a0_2)) h2 rfl T3 rfl rfl rfl rfl (Opl.p1 (n := Opl.p1 (n := Opl.one (v := .lit (.bool (a0_2 == 0))) rfl rfl rfl ?_))))
   by_cases c19 : a0_2 = 0
   case neg =>
    rw [if_neg c19] at H
    have e17 : (a0_2 == 0) = false := by simpa using c19
    try rw [e17]
    refine Opl.skp rfl (Opl.skp rfl (Opl.skp rfl (Opl.p1 (n := Opl.nil ?_))))
    exact hk2 _ _ ⟨_, _, _, H, ⟨rfl, rfl, (by first | rfl | (show PV.lit (.bool _) = _; congr 2; simp_all)), trivial⟩, h2⟩
   rw [if_pos c19] at H
   have e16 : (a0_2 == 0) = true := by simpa using c19
   try rw [e16]
   refine Opl.p1 (v := .ptr i2 3) (n := Opl.ldb (v := .lit (.int .i64 a0_3)) h2 rfl T3 rfl rfl rfl rfl (Opl.p1 (n := Opl.p1 (n := Opl.nil ?_))))
   exact hk2 _ _ ⟨_, _, _, H, ⟨rfl, rfl, (by first | rfl | (show PV.lit (.bool _) = _; congr 2; simp_all)), trivial⟩, h2⟩
 ·
  refine Evr.regionN rfl (Opl.p1 (v := .ptr i1 0) (n := Opl.ldb (v := .lit (.int .i64 a0_0)) h1 rfl T3 rfl rfl rfl rfl (Opl.p1 (n := Opl.p1 (n := ?_)))))
  by_cases c20 : a0_0 = 0
  case neg =>
   rw [if_neg c20] at H
   have e22 : (a0_0 == 0) = false := by simpa using c20
   try rw [e22]
   refine Opl.skp rfl (Opl.skp rfl (Opl.skp rfl (Opl.p1 (n := Opl.p1 (n := Opl.skp rfl (Opl.skp rfl (Opl.skp rfl (Opl.p1 (n := Opl.p1 (n := Opl.skp rfl (Opl.skp rfl (Opl.skp rfl (Opl.p1 (n := Opl.nil ?_))))))))))))))
   exact hk1 _ _ ⟨_, _, _, H, ⟨rfl, rfl, rfl, (by first | rfl | (show PV.lit (.bool _) = _; congr 2; simp_all)), trivial⟩, h1⟩
  rw [if_pos c20] at H
  have e19 : (a0_0 == 0) = true := by simpa using c20
  try rw [e19]
  refine Opl.p1 (v := .ptr i1 1) (n := Opl.ldb (v := .lit (.int .i64 a0_1)) h1 rfl T3 rfl rfl rfl rfl ?_)
  obtain ⟨t137, h_t137, H⟩ := Option.bind_eq_some_iff.1 H
  refine Opl.callc (spec_l1In.ev h_t137) rfl rfl rfl rfl ⟨(.lit _), (.lit _), (.lit _), trivial⟩ (by decide) (Opl.p1 (n := Opl.p1 (n := ?_)))
  by_cases c21 : t137 = true
  case neg =>
   rw [if_neg c21] at H
   obtain rfl : t137 = false := by simpa using c21
   refine Opl.skp rfl (Opl.skp rfl (Opl.skp rfl (Opl.p1 (n := Opl.p1 (n := Opl.skp rfl (Opl.skp rfl (Opl.skp rfl (Opl.p1 (n := Opl.nil ?_)))))))))
   exact hk1 _ _ ⟨_, _, _, H, ⟨rfl, rfl, rfl, (by first | rfl | (show PV.lit (.bool _) = _; congr 2; simp_all)), trivial⟩, h1⟩
  rw [if_pos c21] at H
  obtain rfl : t137 = true := by simpa using c21
  refine Opl.p1 (v := .ptr i1 2) (n := Opl.ldb (v := .lit (.int .i64 a0_2)) h1 rfl T3 rfl rfl rfl rfl (Opl.p1 (n := Opl.p1 (n := Opl.p1 (n := ?_)))))
  by_cases c22 : a0_2 = 0
  case neg =>
   rw [if_neg c22] at H
   have e21 : (a0_2 == 0) = false := by simpa using c22
   try rw [e21]
   refine Opl.skp rfl (Opl.skp rfl (Opl.skp rfl (Opl.p1 (n := Opl.nil ?_))))
   exact hk1 _ _ ⟨_, _, _, H, ⟨rfl, rfl, rfl, (by first | rfl | (show PV.lit (.bool _) = _; congr 2; simp_all)), trivial⟩, h1⟩
  rw [if_pos c22] at H
  have e20 : (a0_2 == 0) = true := by simpa using c22
  try rw [e20]
  refine Opl.p1 (v := .ptr i1 3) (n := Opl.ldb (v := .lit (.int .i64 a0_3)) h1 rfl T3 rfl rfl rfl rfl (Opl.p1 (n := Opl.p1 (n := Opl.nil ?_))))
  exact hk1 _ _ ⟨_, _, _, H, ⟨rfl, rfl, rfl, (by first | rfl | (show PV.lit (.bool _) = _; congr 2; simp_all)), trivial⟩, h1⟩
theorem spec_KindsOf.ev {k : Nat} {l0 : List ITerm} {v0 : PV} (hv0 : Sl cITerm l0 v0) {a1 : Int} {r : (List Int)} (H : spec_KindsOf.f k l0 a1 = some r) : Ret Try.prog 172 [v0, .lit (.int .i64 a1)] fun v S => Vec (cInt .i64) r v S := by
 unfold spec_KindsOf.f at H
 refine Ret.intro Try.func172 rfl (Nat.le_of_ble_eq_true rfl) rfl ?_
 rw [tm2]
 refine Evr.sr rfl (Opl.p1 (n := Opl.nil (Evr.seq (Evr.seq ?_))))
 refine Evr.join (fun tm S => ∃ (kq1 : Nat) (x16_1 : Bool), spec_KindsOf.j0 kq1 l0 a1 x16_1 = some r ∧ Has tm [(0, v0), (1, .lit (.int .i64 a1)), (16, .lit (.bool x16_1))]) ?_ fun hk1 => ?_
 ·
  rintro tm S ⟨kq1, x16_1, H, hh⟩
  rw [hh.eq]
  obtain _ | k1 := kq1
  · simp [spec_KindsOf.j0] at H
  simp only [spec_KindsOf.j0] at H
  by_cases c1 : x16_1 = true
  case pos =>
   rw [if_pos c1] at H
   obtain rfl : x16_1 = true := by simpa using c1
   refine Evr.condT rfl (Evr.sr rfl (Opl.p1 (n := Opl.nil ?_)))
   obtain rfl := Option.some.inj H
   refine Evr.ret1 Try.func172 rfl ?_
   show Vec _ _ (.lit (.slice none 0 0)) _
   exact .nil
  rw [if_neg c1] at H
  obtain rfl : x16_1 = false := by simpa using c1
  refine Evr.condF rfl (Evr.skip (Evr.sr rfl (Opl.lits (M := (cInt .i64)) (ys := []) [] K27 T3 rfl rfl rfl trivial rfl (by decide) rfl rfl rfl ?_)))
  rintro pv1 S h1 u1 w1
  refine Opl.p1 (n := Opl.nil (Evr.seq (Evr.sr rfl (Opl.p1 (n := Opl.nil (Evr.block ?_))))))
  refine Evr.loop (Evr.rounds (n := k1) (Inv := fun n tm S => n ≤ k1 ∧ ∃ (x5_1 : List Int) (x6_1 : Int) (pv2 : PV), spec_KindsOf.l0 n l0 a1 x5_1 x6_1 = some r ∧ Has tm [(0, v0), (1, .lit (.int .i64 a1)), (5, pv2), (6, .lit (.int .i64 x6_1))] ∧ Vec (cInt .i64) x5_1 pv2 S) ?_ ?_ ?_)
  · exact ⟨Nat.le_refl _, _, _, _, H, ⟨rfl, rfl, rfl, rfl, trivial⟩, h1⟩
  ·
   rintro tm S ⟨_, _, _, _, H, -⟩
   simp [spec_KindsOf.l0] at H
  ·
   rintro n1 ih1 tm S ⟨hle, x5_1, x6_1, pv2, H, hh, h2⟩
   simp only [spec_KindsOf.l0] at H
   rw [hh.eq]
   refine Evr.seq (Evr.sr rfl (Opl.p1 (n := Opl.p1 (n := Opl.len (xs := l0) (by exact hv0) K66 rfl rfl rfl rfl (Opl.p1 (n := Opl.nil ?_))))))
   by_cases c2 : x6_1 < (l0.length : Int)
   case neg =>
    rw [if_neg c2] at H
    have e4 : (decide (x6_1 < (l0.length : Int))) = false := by simpa using c2
    try rw [e4]
    refine Evr.condF rfl (Evr.exit rfl (Evr.sr rfl (Opl.p1 (n := Opl.p1 (n := Opl.nil ?_)))))
    obtain rfl := Option.some.inj H
    refine Evr.ret1 Try.func172 rfl ?_
    show Vec _ _ pv2 _
    exact h2
   rw [if_pos c2] at H
   have e1 : (decide (x6_1 < (l0.length : Int))) = true := by simpa using c2
   try rw [e1]
   refine Evr.condT rfl (Evr.skip (Evr.seq (Evr.block (Evr.sr rfl (Opl.p1 (n := Opl.p1 (n := ?_)))))))
   obtain ⟨c3, H⟩ := peel H
   refine Opl.idx (M := cITerm) (xs := l0) (j := x6_1) zITerm (by exact hv0) rfl (by omega) (by omega) K66 Z128 rfl rfl ?_
   rintro p1 q1 h3
   obtain rfl := cITerm_R (x := (rd_ITerm l0 x6_1)) h3
   refine Opl.lda (.agg [.lit (.int .i64 ((rd_ITerm l0 x6_1).f0)), .lit (.int .i64 ((rd_ITerm l0 x6_1).f1)), .lit (.int .i64 ((rd_ITerm l0 x6_1).f2)), .lit (.int .i64 ((rd_ITerm l0 x6_1).f3))]) rfl T128 rfl rfl rfl rfl (Opl.p1 (n := Opl.p1 (n := ?_)))
   obtain ⟨t151, h_t151, H⟩ := Option.bind_eq_some_iff.1 H
   obtain ⟨pv3, h4, -, h5⟩ := Out.vec h2
   refine Opl.callw (spec_l1Kind.ev h5 h_t151) rfl rfl rfl (.cons (.refl _) (.cons h4 (.cons (.refl _) .nil))) ⟨(.aggL ⟨(.lit _), (.lit _), (.lit _), (.lit _), trivial⟩), h5.plain, (.lit _), trivial⟩ (by decide) (Opl.p1 (n := Opl.nil (Evr.seq (Evr.sr rfl (Opl.p1 (n := Opl.p1 (n := Opl.nil ?_)))))))
   by_cases c4 : t151 = 0
   case pos =>
    rw [if_pos c4] at H
    have e2 : (t151 == 0) = true := by simpa using c4
    try rw [e2]
    refine Evr.condT rfl (Evr.sr rfl (Opl.p1 (n := Opl.nil ?_)))
    obtain rfl := Option.some.inj H
    refine Evr.ret1 Try.func172 rfl ?_
    show Vec _ _ (.lit (.slice none 0 0)) _
    exact .nil
   rw [if_neg c4] at H
   have e3 : (t151 == 0) = false := by simpa using c4
   try rw [e3]
   refine Evr.condF rfl (Evr.skip (Evr.regionN rfl (Opl.p1 (n := Opl.p1 (n := Opl.lits (M := (cInt .i64)) (ys := [t151]) [.tmp 34] K27 T3 rfl rfl rfl (by exact ⟨rfl, trivial⟩) rfl (by decide) rfl rfl rfl ?_)))))
   rintro pv4 S h6 u2 w2
   have ap1 := w2.vec h2
   have h7 := u2.vec h2 ap1
   obtain ⟨c5, H⟩ := peel H
   refine Opl.app (M := (cInt .i64)) (xs := x5_1) (ys := [t151]) (v := pv2) h7 (.vec h6) (oInt .i64) rfl rfl K27 T3 rfl rfl (by (try simp only [List.length_cons, List.length_nil]); omega) (by show (_ + _) * 8 ≤ 140737488355328; (try simp only [List.length_cons, List.length_nil]); omega) rfl rfl rfl rfl rfl ?_
   rintro pv5 S h8 u3 w3
   have ap2 := w3.vec h6
   have h9 := u3.vec h6 ap1.symm
   refine Opl.p1 (n := Opl.nil (Evr.inBlock (Evr.regionN rfl (Opl.p1 (n := Opl.add (k := .i64) (a := x6_1) (b := 1) K3 rfl rfl rfl rfl (Opl.one (v := .lit (.int .i64 (wrap64 (x6_1 + 1)))) rfl rfl rfl (Opl.nil ?_)))))))
   exact ih1 _ (by omega) _ _ ⟨by omega, _, _, _, H, ⟨rfl, rfl, rfl, rfl, trivial⟩, h8⟩
 ·
  refine Evr.regionN rfl (Opl.p1 (n := ?_))
  obtain ⟨t145, h_t145, H⟩ := Option.bind_eq_some_iff.1 H
  refine Opl.callc (spec_l1In.ev h_t145) rfl rfl rfl rfl ⟨(.lit _), (.lit _), (.lit _), trivial⟩ (by decide) (Opl.p1 (n := Opl.p1 (n := ?_)))
  by_cases c6 : t145 = true
  case neg =>
   rw [if_neg c6] at H
   have e6 : (!t145) = true := by simpa using c6
   try rw [e6]
   refine Opl.skp rfl (Opl.skp rfl (Opl.skp rfl (Opl.skp rfl (Opl.p1 (n := Opl.nil ?_)))))
   exact hk1 _ _ ⟨_, _, H, ⟨rfl, rfl, (by first | rfl | (show PV.lit (.bool _) = _; congr 2; simp_all)), trivial⟩⟩
  rw [if_pos c6] at H
  have e5 : (!t145) = false := by simpa using c6
  try rw [e5]
  refine Opl.p1 (n := Opl.len (xs := l0) (by exact hv0) K66 rfl rfl rfl rfl ?_)
  obtain ⟨t146, h_t146, H⟩ := Option.bind_eq_some_iff.1 H
  refine Opl.callc (spec_l1In.ev h_t146) rfl rfl rfl rfl ⟨(.lit _), (.lit _), (.lit _), trivial⟩ (by decide) (Opl.p1 (n := Opl.p1 (n := Opl.nil ?_)))
  exact hk1 _ _ ⟨_, _, H, ⟨rfl, rfl, (by first | rfl | (show PV.lit (.bool _) = _; congr 2; simp_all)), trivial⟩⟩
theorem spec_l2Is.ev {k : Nat} {l0 : List ITerm} {v0 : PV} (hv0 : Sl cITerm l0 v0) {a1 : Int} {a2 : Int} {r : Bool} (H : spec_l2Is.f k l0 a1 a2 = some r) : Ret Try.prog 151 [v0, .lit (.int .i64 a1), .lit (.int .i64 a2)] fun v S => v = .lit (.bool r) := by
 unfold spec_l2Is.f at H
 refine Ret.intro Try.func151 rfl (Nat.le_of_ble_eq_true rfl) rfl ?_
 rw [tm3]
 refine Evr.sr rfl (Opl.p1 (n := Opl.nil (Evr.sr rfl (Opl.p1 (n := Opl.p1 (n := ?_))))))
 obtain ⟨t422, h_t422, H⟩ := Option.bind_eq_some_iff.1 H
 refine Opl.call ((spec_KindsOf.ev hv0 h_t422).mono fun _ _ h => Out.vec h) rfl rfl rfl rfl ⟨hv0.plain, (.lit _), trivial⟩ (by decide) ?_
 rintro pv1 h1
 refine Opl.p1 (n := Opl.nil (Evr.sr rfl (Opl.p1 (n := Opl.len (xs := t422) (by exact h1) K27 rfl rfl rfl rfl (Opl.p1 (n := Opl.p1 (n := ?_)))))))
 by_cases c1 : (t422.length : Int) > 0
 case neg =>
  rw [if_neg c1] at H
  have e2 : (decide ((t422.length : Int) > 0)) = false := by simpa using c1
  try rw [e2]
  refine Opl.skp rfl (Opl.skp rfl (Opl.skp rfl (Opl.skp rfl (Opl.skp rfl (Opl.skp rfl (Opl.skp rfl (Opl.skp rfl (Opl.p1 (n := Opl.p1 (n := Opl.nil ?_))))))))))
  obtain rfl := Option.some.inj H
  refine Evr.ret1 Try.func151 rfl ?_
  show (.lit (.bool false) : PV) = _
  first | rfl | (simp only [go_sem]; rfl)
 rw [if_pos c1] at H
 have e1 : (decide ((t422.length : Int) > 0)) = true := by simpa using c1
 try rw [e1]
 refine Opl.p1 (n := Opl.p1 (n := Opl.len (xs := t422) (by exact h1) K27 rfl rfl rfl rfl (Opl.subi (k := .i64) (a := (t422.length : Int)) (b := 1) K3 rfl rfl rfl rfl ?_)))
 obtain ⟨c2, H⟩ := peel H
 obtain ⟨c3, H⟩ := peel H
 refine Opl.idx (M := (cInt .i64)) (xs := t422) (j := (wrap64 ((t422.length : Int) - 1))) (0 : Int) (by exact h1) rfl (by omega) (by omega) K27 Z3 rfl rfl ?_
 rintro p1 q1 h2
 obtain rfl : p1 = [.lit (.int .i64 (rd t422 (wrap64 ((t422.length : Int) - 1))))] := h2
 refine Opl.lda (.lit (.int .i64 (rd t422 (wrap64 ((t422.length : Int) - 1))))) rfl T3 rfl rfl rfl rfl (Opl.one (v := .lit (.int .i64 a2)) rfl rfl rfl (Opl.eql (a := (rd t422 (wrap64 ((t422.length : Int) - 1)))) (b := a2) K3 rfl rfl rfl rfl (Opl.p1 (n := Opl.one (v := .lit (.bool ((rd t422 (wrap64 ((t422.length : Int) - 1))) == a2))) rfl rfl rfl (Opl.nil ?_)))))
 obtain rfl := Option.some.inj H
 refine Evr.ret1 Try.func151 rfl ?_
 show (.lit (.bool ((rd t422 (wrap64 ((t422.length : Int) - 1))) == a2)) : PV) = _
 first | rfl | (simp only [go_sem]; rfl)
theorem spec_l2Rule.ev {k : Nat} {l0_0 : List ITerm} {v0_0 : PV} (hv0_0 : Sl cITerm l0_0 v0_0) {l0_1 : List Int} {v0_1 : PV} (hv0_1 : Sl (cInt .i64) l0_1 v0_1) {l0_2 : List (List ITerm)} {v0_2 : PV} (hv0_2 : Sl (cSl cITerm) l0_2 v0_2) {a1 : Int} {r : Bool} (H : spec_l2Rule.f k l0_0 l0_1 l0_2 a1 = some r) : Ret Try.prog 95 [.agg [v0_0, v0_1, v0_2], .lit (.int .i64 a1)] fun v S => v = .lit (.bool r) := by
 unfold spec_l2Rule.f at H
 refine Ret.intro Try.func95 rfl (Nat.le_of_ble_eq_true rfl) rfl ?_
 rw [tm2]
 refine Evr.sr rfl (Opl.box (cs := [v0_0, v0_1, v0_2]) rfl rfl rfl rfl ?_)
 rintro i1 S h1 u1 w1
 refine Opl.p1 (n := Opl.nil (Evr.seq (Evr.seq ?_)))
 refine Evr.join (fun tm S => ∃ (kq1 : Nat) (x26_1 : Bool) (i2 : Abs.Id), spec_l2Rule.j0 kq1 a1 x26_1 l0_0 l0_1 l0_2 = some r ∧ Has tm [(1, .lit (.int .i64 a1)), (2, .ptr i2 0), (26, .lit (.bool x26_1))] ∧ Box (.ptr i2 0) [v0_0, v0_1, v0_2] S) ?_ fun hk1 => ?_
 ·
  rintro tm S ⟨kq1, x26_1, i2, H, hh, h2⟩
  rw [hh.eq]
  obtain _ | k1 := kq1
  · simp [spec_l2Rule.j0] at H
  simp only [spec_l2Rule.j0] at H
  by_cases c1 : x26_1 = true
  case pos =>
   rw [if_pos c1] at H
   obtain rfl : x26_1 = true := by simpa using c1
   refine Evr.condT rfl (Evr.sr rfl (Opl.p1 (n := Opl.nil ?_)))
   obtain rfl := Option.some.inj H
   refine Evr.ret1 Try.func95 rfl ?_
   show (.lit (.bool false) : PV) = _
   first | rfl | (simp only [go_sem]; rfl)
  rw [if_neg c1] at H
  obtain rfl : x26_1 = false := by simpa using c1
  refine Evr.condF rfl (Evr.skip (Evr.seq (Evr.sr rfl (Opl.p1 (n := Opl.nil (Evr.block ?_))))))
  refine Evr.loop (Evr.rounds (n := k1) (Inv := fun n tm S => n ≤ k1 ∧ ∃ (x5_1 : Int) (i3 : Abs.Id), spec_l2Rule.l0 n a1 x5_1 l0_0 l0_1 l0_2 = some r ∧ Has tm [(1, .lit (.int .i64 a1)), (2, .ptr i3 0), (5, .lit (.int .i64 x5_1))] ∧ Box (.ptr i3 0) [v0_0, v0_1, v0_2] S) ?_ ?_ ?_)
  · exact ⟨Nat.le_refl _, _, _, H, ⟨rfl, rfl, rfl, trivial⟩, h2⟩
  ·
   rintro tm S ⟨_, _, _, H, -⟩
   simp [spec_l2Rule.l0] at H
  ·
   rintro n1 ih1 tm S ⟨hle, x5_1, i3, H, hh, h3⟩
   simp only [spec_l2Rule.l0] at H
   rw [hh.eq]
   refine Evr.seq (Evr.sr rfl (Opl.p1 (n := Opl.p1 (v := .ptr i3 1) (n := Opl.ldb (v := v0_1) h3 rfl T27 rfl rfl rfl rfl (Opl.len (xs := l0_1) (by exact hv0_1) K27 rfl rfl rfl rfl (Opl.p1 (n := Opl.nil ?_)))))))
   by_cases c2 : x5_1 < (l0_1.length : Int)
   case neg =>
    rw [if_neg c2] at H
    have e8 : (decide (x5_1 < (l0_1.length : Int))) = false := by simpa using c2
    try rw [e8]
    refine Evr.condF rfl (Evr.exit rfl (Evr.sr rfl (Opl.p1 (n := Opl.nil ?_))))
    obtain rfl := Option.some.inj H
    refine Evr.ret1 Try.func95 rfl ?_
    show (.lit (.bool true) : PV) = _
    first | rfl | (simp only [go_sem]; rfl)
   rw [if_pos c2] at H
   have e1 : (decide (x5_1 < (l0_1.length : Int))) = true := by simpa using c2
   try rw [e1]
   refine Evr.condT rfl (Evr.skip (Evr.seq (Evr.block (Evr.seq ?_))))
   refine Evr.join (fun tm S => ∃ (kq2 : Nat) (x70_1 : Bool) (i4 : Abs.Id), spec_l2Rule.j2 kq2 a1 x5_1 x70_1 l0_0 l0_1 l0_2 = some r ∧ kq2 ≤ n1 ∧ Has tm [(1, .lit (.int .i64 a1)), (2, .ptr i4 0), (5, .lit (.int .i64 x5_1)), (70, .lit (.bool x70_1))] ∧ Box (.ptr i4 0) [v0_0, v0_1, v0_2] S) ?_ fun hk2 => ?_
   ·
    rintro tm S ⟨kq2, x70_1, i4, H, hle, hh, h4⟩
    rw [hh.eq]
    obtain _ | k2 := kq2
    · simp [spec_l2Rule.j2] at H
    simp only [spec_l2Rule.j2] at H
    by_cases c3 : x70_1 = true
    case pos =>
     rw [if_pos c3] at H
     obtain rfl : x70_1 = true := by simpa using c3
     refine Evr.condT rfl (Evr.sr rfl (Opl.p1 (n := Opl.nil ?_)))
     obtain rfl := Option.some.inj H
     refine Evr.ret1 Try.func95 rfl ?_
     show (.lit (.bool false) : PV) = _
     first | rfl | (simp only [go_sem]; rfl)
    rw [if_neg c3] at H
    obtain rfl : x70_1 = false := by simpa using c3
    refine Evr.condF rfl (Evr.skip (Evr.inBlock (Evr.regionN rfl (Opl.p1 (n := Opl.add (k := .i64) (a := x5_1) (b := 1) K3 rfl rfl rfl rfl (Opl.one (v := .lit (.int .i64 (wrap64 (x5_1 + 1)))) rfl rfl rfl (Opl.nil ?_)))))))
    exact ih1 _ (by omega) _ _ ⟨by omega, _, _, H, ⟨rfl, rfl, rfl, trivial⟩, h4⟩
   ·
    refine Evr.regionD rfl (by kernel_rfl) (Opl.p1 (v := .ptr i3 1) (n := Opl.ldb (v := v0_1) h3 rfl T27 rfl rfl rfl rfl (Opl.p1 (n := ?_))))
    obtain ⟨c4, H⟩ := peel H
    refine Opl.idx (M := (cInt .i64)) (xs := l0_1) (j := x5_1) (0 : Int) (by exact hv0_1) rfl (by omega) (by omega) K27 Z3 rfl rfl ?_
    rintro p1 q1 h5
    obtain rfl : p1 = [.lit (.int .i64 (rd l0_1 x5_1))] := h5
    refine Opl.lda (.lit (.int .i64 (rd l0_1 x5_1))) rfl T3 rfl rfl rfl rfl (Opl.p1 (n := Opl.subi (k := .i64) (a := a1) (b := 1) K3 rfl rfl rfl rfl ?_))
    obtain ⟨t429, h_t429, H⟩ := Option.bind_eq_some_iff.1 H
    refine Opl.callc (spec_l1In.ev h_t429) rfl rfl rfl rfl ⟨(.lit _), (.lit _), (.lit _), trivial⟩ (by decide) (Opl.p1 (n := Opl.one (v := .lit (.bool (!t429))) rfl rfl rfl ?_))
    by_cases c5 : t429 = true
    case neg =>
     rw [if_neg c5] at H
     have e7 : (!t429) = true := by simpa using c5
     try rw [e7]
     refine Opl.skp rfl (Opl.skp rfl (Opl.skp rfl (Opl.skp rfl (Opl.skp rfl (Opl.skp rfl (Opl.skp rfl (Opl.skp rfl (Opl.skp rfl (Opl.skp rfl (Opl.skp rfl (Opl.skp rfl (Opl.skp rfl (Opl.skp rfl (Opl.skp rfl (Opl.skp rfl (Opl.p1 (n := Opl.one (v := .lit (.bool true)) rfl rfl rfl (Opl.skp rfl (Opl.skp rfl (Opl.skp rfl (Opl.skp rfl (Opl.skp rfl (Opl.skp rfl (Opl.skp rfl (Opl.skp rfl (Opl.p1 (n := Opl.nil ?_)))))))))))))))))))))))))))
     exact hk2 _ _ ⟨_, _, _, H, by omega, ⟨rfl, rfl, rfl, (by first | rfl | (show PV.lit (.bool _) = _; congr 2; simp_all)), trivial⟩, h3⟩
    rw [if_pos c5] at H
    have e2 : (!t429) = false := by simpa using c5
    try rw [e2]
    refine Opl.one (v := .lit (.int .i64 x5_1)) rfl rfl rfl (Opl.p1 (n := Opl.one (v := .lit (.bool (decide (x5_1 > 0)))) rfl rfl rfl ?_))
    by_cases c6 : x5_1 > 0
    case neg =>
     rw [if_neg c6] at H
     have e6 : (decide (x5_1 > 0)) = false := by simpa using c6
     try rw [e6]
     refine Opl.skp rfl (Opl.skp rfl (Opl.skp rfl (Opl.skp rfl (Opl.skp rfl (Opl.skp rfl (Opl.skp rfl (Opl.skp rfl (Opl.skp rfl (Opl.skp rfl (Opl.skp rfl (Opl.skp rfl (Opl.p1 (n := Opl.p1 (n := Opl.one (v := .lit (.bool false)) rfl rfl rfl (Opl.p1 (v := .ptr i3 2) (n := Opl.ldb (v := v0_2) h3 rfl T104 rfl rfl rfl rfl (Opl.one (v := .lit (.int .i64 x5_1)) rfl rfl rfl ?_)))))))))))))))))
     obtain ⟨c11, H⟩ := peel H
     refine Opl.idx (M := (cSl cITerm)) (xs := l0_2) (j := x5_1) ([] : List ITerm) (by exact hv0_2) rfl (by omega) (by omega) K104 Z66 rfl rfl ?_
     rintro p5 q5 h10
     obtain ⟨pv2, rfl, h11⟩ := h10
     refine Opl.lda (pv2) rfl T66 rfl rfl rfl rfl (Opl.one (v := .lit (.int .i64 a1)) rfl rfl rfl ?_)
     obtain ⟨t435, h_t435, H⟩ := Option.bind_eq_some_iff.1 H
     refine Opl.callc (spec_l2Is.ev h11 h_t435) rfl rfl rfl rfl ⟨h11.plain, (.lit _), (.lit _), trivial⟩ (by decide) (Opl.p1 (n := Opl.p1 (n := Opl.nil ?_)))
     exact hk2 _ _ ⟨_, _, _, H, by omega, ⟨rfl, rfl, rfl, (by first | rfl | (show PV.lit (.bool _) = _; congr 2; simp_all)), trivial⟩, h3⟩
    rw [if_pos c6] at H
    have e3 : (decide (x5_1 > 0)) = true := by simpa using c6
    try rw [e3]
    refine Opl.p1 (v := .ptr i3 1) (n := Opl.ldb (v := v0_1) h3 rfl T27 rfl rfl rfl rfl (Opl.one (v := .lit (.int .i64 x5_1)) rfl rfl rfl ?_))
    obtain ⟨c7, H⟩ := peel H
    obtain ⟨c8, H⟩ := peel H
    refine Opl.idx (M := (cInt .i64)) (xs := l0_1) (j := x5_1) (0 : Int) (by exact hv0_1) rfl (by omega) (by omega) K27 Z3 rfl rfl ?_
    rintro p2 q2 h6
    obtain rfl : p2 = [.lit (.int .i64 (rd l0_1 x5_1))] := h6
    refine Opl.lda (.lit (.int .i64 (rd l0_1 x5_1))) rfl T3 rfl rfl rfl rfl (Opl.p1 (v := .ptr i3 1) (n := Opl.ldb (v := v0_1) h3 rfl T27 rfl rfl rfl rfl (Opl.one (v := .lit (.int .i64 x5_1)) rfl rfl rfl (Opl.subi (k := .i64) (a := x5_1) (b := 1) K3 rfl rfl rfl rfl (Opl.idx (M := (cInt .i64)) (xs := l0_1) (j := (wrap64 (x5_1 - 1))) (0 : Int) (by exact hv0_1) rfl (by omega) (by omega) K27 Z3 rfl rfl ?_)))))
    rintro p3 q3 h7
    obtain rfl : p3 = [.lit (.int .i64 (rd l0_1 (wrap64 (x5_1 - 1))))] := h7
    refine Opl.lda (.lit (.int .i64 (rd l0_1 (wrap64 (x5_1 - 1))))) rfl T3 rfl rfl rfl rfl (Opl.leq (a := (rd l0_1 x5_1)) (b := (rd l0_1 (wrap64 (x5_1 - 1)))) K3 rfl rfl rfl rfl (Opl.p1 (n := Opl.p1 (n := Opl.one (v := .lit (.bool (decide ((rd l0_1 x5_1) ≤ (rd l0_1 (wrap64 (x5_1 - 1))))))) rfl rfl rfl ?_))))
    by_cases c9 : (rd l0_1 x5_1) ≤ (rd l0_1 (wrap64 (x5_1 - 1)))
    case pos =>
     rw [if_pos c9] at H
     have e4 : (decide ((rd l0_1 x5_1) ≤ (rd l0_1 (wrap64 (x5_1 - 1))))) = true := by simpa using c9
     try rw [e4]
     refine Opl.skp rfl (Opl.skp rfl (Opl.skp rfl (Opl.skp rfl (Opl.skp rfl (Opl.skp rfl (Opl.skp rfl (Opl.skp rfl (Opl.p1 (n := Opl.nil ?_)))))))))
     exact hk2 _ _ ⟨_, _, _, H, by omega, ⟨rfl, rfl, rfl, (by first | rfl | (show PV.lit (.bool _) = _; congr 2; simp_all)), trivial⟩, h3⟩
    rw [if_neg c9] at H
    have e5 : (decide ((rd l0_1 x5_1) ≤ (rd l0_1 (wrap64 (x5_1 - 1))))) = false := by simpa using c9
    try rw [e5]
    refine Opl.p1 (v := .ptr i3 2) (n := Opl.ldb (v := v0_2) h3 rfl T104 rfl rfl rfl rfl (Opl.one (v := .lit (.int .i64 x5_1)) rfl rfl rfl ?_))
    obtain ⟨c10, H⟩ := peel H
    refine Opl.idx (M := (cSl cITerm)) (xs := l0_2) (j := x5_1) ([] : List ITerm) (by exact hv0_2) rfl (by omega) (by omega) K104 Z66 rfl rfl ?_
    rintro p4 q4 h8
    obtain ⟨pv1, rfl, h9⟩ := h8
    refine Opl.lda (pv1) rfl T66 rfl rfl rfl rfl (Opl.one (v := .lit (.int .i64 a1)) rfl rfl rfl ?_)
    obtain ⟨t433, h_t433, H⟩ := Option.bind_eq_some_iff.1 H
    refine Opl.callc (spec_l2Is.ev h9 h_t433) rfl rfl rfl rfl ⟨h9.plain, (.lit _), (.lit _), trivial⟩ (by decide) (Opl.p1 (n := Opl.p1 (n := Opl.nil ?_)))
    exact hk2 _ _ ⟨_, _, _, H, by omega, ⟨rfl, rfl, rfl, (by first | rfl | (show PV.lit (.bool _) = _; congr 2; simp_all)), trivial⟩, h3⟩
 ·
  refine Evr.regionN rfl (Opl.p1 (v := .ptr i1 0) (n := Opl.ldb (v := v0_0) h1 rfl T66 rfl rfl rfl rfl (Opl.p1 (n := ?_))))
  obtain ⟨t427, h_t427, H⟩ := Option.bind_eq_some_iff.1 H
  refine Opl.callc (spec_l2Is.ev hv0_0 h_t427) rfl rfl rfl rfl ⟨hv0_0.plain, (.lit _), (.lit _), trivial⟩ (by decide) (Opl.p1 (n := Opl.p1 (n := ?_)))
  by_cases c12 : t427 = true
  case neg =>
   rw [if_neg c12] at H
   have e12 : (!t427) = true := by simpa using c12
   try rw [e12]
   refine Opl.skp rfl (Opl.skp rfl (Opl.skp rfl (Opl.skp rfl (Opl.skp rfl (Opl.skp rfl (Opl.skp rfl (Opl.p1 (n := Opl.p1 (n := Opl.skp rfl (Opl.skp rfl (Opl.skp rfl (Opl.skp rfl (Opl.skp rfl (Opl.p1 (n := Opl.nil ?_)))))))))))))))
   exact hk1 _ _ ⟨_, _, _, H, ⟨rfl, rfl, (by first | rfl | (show PV.lit (.bool _) = _; congr 2; simp_all)), trivial⟩, h1⟩
  rw [if_pos c12] at H
  have e9 : (!t427) = false := by simpa using c12
  try rw [e9]
  refine Opl.p1 (v := .ptr i1 1) (n := Opl.ldb (v := v0_1) h1 rfl T27 rfl rfl rfl rfl (Opl.len (xs := l0_1) (by exact hv0_1) K27 rfl rfl rfl rfl (Opl.p1 (v := .ptr i1 2) (n := Opl.ldb (v := v0_2) h1 rfl T104 rfl rfl rfl rfl (Opl.len (xs := l0_2) (by exact hv0_2) K104 rfl rfl rfl rfl (Opl.p1 (n := Opl.p1 (n := Opl.p1 (n := ?_)))))))))
  by_cases c13 : (l0_1.length : Int) = (l0_2.length : Int)
  case neg =>
   rw [if_neg c13] at H
   have e11 : ((l0_1.length : Int) != (l0_2.length : Int)) = true := by simpa using c13
   try rw [e11]
   refine Opl.skp rfl (Opl.skp rfl (Opl.skp rfl (Opl.skp rfl (Opl.skp rfl (Opl.p1 (n := Opl.nil ?_))))))
   exact hk1 _ _ ⟨_, _, _, H, ⟨rfl, rfl, (by first | rfl | (show PV.lit (.bool _) = _; congr 2; simp_all)), trivial⟩, h1⟩
  rw [if_pos c13] at H
  have e10 : ((l0_1.length : Int) != (l0_2.length : Int)) = false := by simpa using c13
  try rw [e10]
  refine Opl.p1 (v := .ptr i1 1) (n := Opl.ldb (v := v0_1) h1 rfl T27 rfl rfl rfl rfl (Opl.len (xs := l0_1) (by exact hv0_1) K27 rfl rfl rfl rfl (Opl.p1 (n := Opl.p1 (n := Opl.p1 (n := Opl.nil ?_))))))
  exact hk1 _ _ ⟨_, _, _, H, ⟨rfl, rfl, (by first | rfl | (show PV.lit (.bool _) = _; congr 2; simp_all)), trivial⟩, h1⟩
theorem spec_l2Var.ev {a0_0 : Int} {a0_1 : Int} {a0_2 : Int} {r : Bool} (H : spec_l2Var.f a0_0 a0_1 a0_2 = some r) : Ret Try.prog 94 [.agg [.lit (.int .i64 a0_0), .lit (.int .i64 a0_1), .lit (.int .i64 a0_2)]] fun v S => v = .lit (.bool r) := by
 unfold spec_l2Var.f at H
 refine Ret.intro Try.func94 rfl (Nat.le_of_ble_eq_true rfl) rfl ?_
 rw [tm1]
 refine Evr.sr rfl (Opl.box (cs := [.lit (.int .i64 a0_0), .lit (.int .i64 a0_1), .lit (.int .i64 a0_2)]) rfl rfl rfl rfl ?_)
 rintro i1 S h1 u1 w1
 refine Opl.p1 (n := Opl.nil (Evr.sr rfl (Opl.p1 (v := .ptr i1 0) (n := Opl.ldb (v := .lit (.int .i64 a0_0)) h1 rfl T3 rfl rfl rfl rfl ?_))))
 obtain ⟨t419, h_t419, H⟩ := Option.bind_eq_some_iff.1 H
 refine Opl.callc (spec_l1In.ev h_t419) rfl rfl rfl rfl ⟨(.lit _), (.lit _), (.lit _), trivial⟩ (by decide) (Opl.p1 (n := ?_))
 by_cases c1 : t419 = true
 case neg =>
  rw [if_neg c1] at H
  obtain rfl : t419 = false := by simpa using c1
  refine Opl.skp rfl (Opl.skp rfl (Opl.skp rfl (Opl.skp rfl (Opl.skp rfl (Opl.p1 (n := Opl.p1 (n := Opl.skp rfl (Opl.skp rfl (Opl.skp rfl (Opl.skp rfl (Opl.skp rfl (Opl.skp rfl (Opl.p1 (n := Opl.p1 (n := Opl.skp rfl (Opl.skp rfl (Opl.skp rfl (Opl.skp rfl (Opl.skp rfl (Opl.skp rfl (Opl.skp rfl (Opl.p1 (n := Opl.p1 (n := Opl.nil ?_))))))))))))))))))))))))
  obtain rfl := Option.some.inj H
  refine Evr.ret1 Try.func94 rfl ?_
  show (.lit (.bool false) : PV) = _
  first | rfl | (simp only [go_sem]; rfl)
 rw [if_pos c1] at H
 obtain rfl : t419 = true := by simpa using c1
 refine Opl.p1 (v := .ptr i1 1) (n := Opl.ldb (v := .lit (.int .i64 a0_1)) h1 rfl T3 rfl rfl rfl rfl (Opl.p1 (v := .ptr i1 0) (n := Opl.ldb (v := .lit (.int .i64 a0_0)) h1 rfl T3 rfl rfl rfl rfl ?_)))
 obtain ⟨t420, h_t420, H⟩ := Option.bind_eq_some_iff.1 H
 refine Opl.callc (spec_l1In.ev h_t420) rfl rfl rfl rfl ⟨(.lit _), (.lit _), (.lit _), trivial⟩ (by decide) (Opl.p1 (n := Opl.p1 (n := ?_)))
 by_cases c2 : t420 = true
 case neg =>
  rw [if_neg c2] at H
  obtain rfl : t420 = false := by simpa using c2
  refine Opl.skp rfl (Opl.skp rfl (Opl.skp rfl (Opl.skp rfl (Opl.skp rfl (Opl.skp rfl (Opl.p1 (n := Opl.p1 (n := Opl.skp rfl (Opl.skp rfl (Opl.skp rfl (Opl.skp rfl (Opl.skp rfl (Opl.skp rfl (Opl.skp rfl (Opl.p1 (n := Opl.p1 (n := Opl.nil ?_)))))))))))))))))
  obtain rfl := Option.some.inj H
  refine Evr.ret1 Try.func94 rfl ?_
  show (.lit (.bool false) : PV) = _
  first | rfl | (simp only [go_sem]; rfl)
 rw [if_pos c2] at H
 obtain rfl : t420 = true := by simpa using c2
 refine Opl.p1 (v := .ptr i1 1) (n := Opl.ldb (v := .lit (.int .i64 a0_1)) h1 rfl T3 rfl rfl rfl rfl (Opl.p1 (v := .ptr i1 0) (n := Opl.ldb (v := .lit (.int .i64 a0_0)) h1 rfl T3 rfl rfl rfl rfl (Opl.subi (k := .i64) (a := a0_1) (b := a0_0) K3 rfl rfl rfl rfl (Opl.lss (a := (wrap64 (a0_1 - a0_0))) (b := 20) K3 rfl rfl rfl rfl (Opl.p1 (n := Opl.one (v := .lit (.bool (decide ((wrap64 (a0_1 - a0_0)) < 20)))) rfl rfl rfl ?_)))))))
 by_cases c3 : (wrap64 (a0_1 - a0_0)) < 20
 case neg =>
  rw [if_neg c3] at H
  have e2 : (decide ((wrap64 (a0_1 - a0_0)) < 20)) = false := by simpa using c3
  try rw [e2]
  refine Opl.skp rfl (Opl.skp rfl (Opl.skp rfl (Opl.skp rfl (Opl.skp rfl (Opl.skp rfl (Opl.skp rfl (Opl.p1 (n := Opl.one (v := .lit (.bool false)) rfl rfl rfl (Opl.nil ?_)))))))))
  obtain rfl := Option.some.inj H
  refine Evr.ret1 Try.func94 rfl ?_
  show (.lit (.bool false) : PV) = _
  first | rfl | (simp only [go_sem]; rfl)
 rw [if_pos c3] at H
 have e1 : (decide ((wrap64 (a0_1 - a0_0)) < 20)) = true := by simpa using c3
 try rw [e1]
 refine Opl.p1 (v := .ptr i1 2) (n := Opl.ldb (v := .lit (.int .i64 a0_2)) h1 rfl T3 rfl rfl rfl rfl (Opl.p1 (v := .ptr i1 0) (n := Opl.ldb (v := .lit (.int .i64 a0_0)) h1 rfl T3 rfl rfl rfl rfl (Opl.p1 (v := .ptr i1 1) (n := Opl.ldb (v := .lit (.int .i64 a0_1)) h1 rfl T3 rfl rfl rfl rfl ?_)))))
 obtain ⟨t421, h_t421, H⟩ := Option.bind_eq_some_iff.1 H
 refine Opl.callc (spec_l1In.ev h_t421) rfl rfl rfl rfl ⟨(.lit _), (.lit _), (.lit _), trivial⟩ (by decide) (Opl.p1 (n := Opl.one (v := .lit (.bool t421)) rfl rfl rfl (Opl.nil ?_)))
 obtain rfl := Option.some.inj H
 refine Evr.ret1 Try.func94 rfl ?_
 show (.lit (.bool t421) : PV) = _
 first | rfl | (simp only [go_sem]; rfl)
theorem spec_SystemValid.ev {k : Nat} {l0_0 : List IVar} {v0_0 : PV} (hv0_0 : Sl cIVar l0_0 v0_0) {l0_1 : List IRule} {v0_1 : PV} (hv0_1 : Sl cIRule l0_1 v0_1) {r : Bool} (H : spec_SystemValid.f k l0_0 l0_1 = some r) : Ret Try.prog 27 [.agg [v0_0, v0_1]] fun v S => v = .lit (.bool r) := by
 unfold spec_SystemValid.f at H
 refine Ret.intro Try.func27 rfl (Nat.le_of_ble_eq_true rfl) rfl ?_
 rw [tm1]
 refine Evr.sr rfl (Opl.box (cs := [v0_0, v0_1]) rfl rfl rfl rfl ?_)
 rintro i1 S h1 u1 w1
 refine Opl.p1 (n := Opl.nil (Evr.seq (Evr.seq ?_)))
 refine Evr.join (fun tm S => ∃ (kq1 : Nat) (x16_1 : Bool) (i2 : Abs.Id), spec_SystemValid.j0 kq1 x16_1 l0_0 l0_1 = some r ∧ Has tm [(1, .ptr i2 0), (16, .lit (.bool x16_1))] ∧ Box (.ptr i2 0) [v0_0, v0_1] S) ?_ fun hk1 => ?_
 ·
  rintro tm S ⟨kq1, x16_1, i2, H, hh, h2⟩
  rw [hh.eq]
  obtain _ | k1 := kq1
  · simp [spec_SystemValid.j0] at H
  simp only [spec_SystemValid.j0] at H
  by_cases c1 : x16_1 = true
  case pos =>
   rw [if_pos c1] at H
   obtain rfl : x16_1 = true := by simpa using c1
   refine Evr.condT rfl (Evr.sr rfl (Opl.p1 (n := Opl.nil ?_)))
   obtain rfl := Option.some.inj H
   refine Evr.ret1 Try.func27 rfl ?_
   show (.lit (.bool false) : PV) = _
   first | rfl | (simp only [go_sem]; rfl)
  rw [if_neg c1] at H
  obtain rfl : x16_1 = false := by simpa using c1
  refine Evr.condF rfl (Evr.skip (Evr.sr rfl (Opl.p1 (n := Opl.nil (Evr.seq (Evr.sr rfl (Opl.p1 (n := Opl.nil (Evr.block ?_)))))))))
  refine Evr.loop (Evr.rounds (n := k1) (Inv := fun n tm S => n ≤ k1 ∧ ∃ (x3_1 : Int) (x4_1 : Int) (i3 : Abs.Id), spec_SystemValid.l0 n x3_1 x4_1 l0_0 l0_1 = some r ∧ Has tm [(1, .ptr i3 0), (3, .lit (.int .i64 x3_1)), (4, .lit (.int .i64 x4_1))] ∧ Box (.ptr i3 0) [v0_0, v0_1] S) ?_ ?_ ?_)
  · exact ⟨Nat.le_refl _, _, _, _, H, ⟨rfl, rfl, rfl, trivial⟩, h2⟩
  ·
   rintro tm S ⟨_, _, _, _, H, -⟩
   simp [spec_SystemValid.l0] at H
  ·
   rintro n1 ih1 tm S ⟨hle, x3_1, x4_1, i3, H, hh, h3⟩
   simp only [spec_SystemValid.l0] at H
   rw [hh.eq]
   refine Evr.seq (Evr.sr rfl (Opl.p1 (n := Opl.p1 (v := .ptr i3 0) (n := Opl.ldb (v := v0_0) h3 rfl T23 rfl rfl rfl rfl (Opl.len (xs := l0_0) (by exact hv0_0) K23 rfl rfl rfl rfl (Opl.p1 (n := Opl.nil ?_)))))))
   by_cases c2 : x4_1 < (l0_0.length : Int)
   case neg =>
    rw [if_neg c2] at H
    have e4 : (decide (x4_1 < (l0_0.length : Int))) = false := by simpa using c2
    try rw [e4]
    refine Evr.condF rfl (Evr.exit rfl (Evr.seq (Evr.sr rfl (Opl.p1 (n := Opl.nil (Evr.block ?_))))))
    refine Evr.loop (Evr.rounds (n := n1) (Inv := fun n tm S => n ≤ n1 ∧ ∃ (x5_1 : Int) (i4 : Abs.Id), spec_SystemValid.l1 n x3_1 x5_1 l0_0 l0_1 = some r ∧ Has tm [(1, .ptr i4 0), (3, .lit (.int .i64 x3_1)), (5, .lit (.int .i64 x5_1))] ∧ Box (.ptr i4 0) [v0_0, v0_1] S) ?_ ?_ ?_)
    · exact ⟨Nat.le_refl _, _, _, H, ⟨rfl, rfl, rfl, trivial⟩, h3⟩
    ·
     rintro tm S ⟨_, _, _, H, -⟩
     simp [spec_SystemValid.l1] at H
    ·
     rintro n2 ih2 tm S ⟨hle, x5_1, i4, H, hh, h7⟩
     simp only [spec_SystemValid.l1] at H
     rw [hh.eq]
     refine Evr.seq (Evr.sr rfl (Opl.p1 (n := Opl.p1 (v := .ptr i4 1) (n := Opl.ldb (v := v0_1) h7 rfl T24 rfl rfl rfl rfl (Opl.len (xs := l0_1) (by exact hv0_1) K24 rfl rfl rfl rfl (Opl.p1 (n := Opl.nil ?_)))))))
     by_cases c5 : x5_1 < (l0_1.length : Int)
     case neg =>
      rw [if_neg c5] at H
      have e8 : (decide (x5_1 < (l0_1.length : Int))) = false := by simpa using c5
      try rw [e8]
      refine Evr.condF rfl (Evr.exit rfl (Evr.sr rfl (Opl.p1 (n := Opl.p1 (n := Opl.p1 (n := Opl.nil ?_))))))
      obtain rfl := Option.some.inj H
      refine Evr.ret1 Try.func27 rfl ?_
      show (.lit (.bool (decide (x3_1 ≤ 400))) : PV) = _
      first | rfl | (simp only [go_sem]; rfl)
     rw [if_pos c5] at H
     have e5 : (decide (x5_1 < (l0_1.length : Int))) = true := by simpa using c5
     try rw [e5]
     refine Evr.condT rfl (Evr.skip (Evr.seq (Evr.block (Evr.seq (Evr.regionD rfl (by kernel_rfl) (Opl.p1 (v := .ptr i4 1) (n := Opl.ldb (v := v0_1) h7 rfl T24 rfl rfl rfl rfl (Opl.p1 (n := ?_)))))))))
     obtain ⟨c6, H⟩ := peel H
     refine Opl.idx (M := cIRule) (xs := l0_1) (j := x5_1) zIRule (by exact hv0_1) rfl (by omega) (by omega) K24 Z106 rfl rfl ?_
     rintro p4 q4 h8
     obtain ⟨pv1, pv2, pv3, rfl, h9, h10, h11⟩ := cIRule_R (x := (rd_IRule l0_1 x5_1)) h8
     refine Opl.lda (.agg [pv1, pv2, pv3]) rfl T106 rfl rfl rfl rfl (Opl.p1 (v := .ptr i4 0) (n := Opl.ldb (v := v0_0) h7 rfl T23 rfl rfl rfl rfl (Opl.len (xs := l0_0) (by exact hv0_0) K23 rfl rfl rfl rfl ?_)))
     obtain ⟨t443, h_t443, H⟩ := Option.bind_eq_some_iff.1 H
     refine Opl.callc (spec_l2Rule.ev h9 h10 h11 h_t443) rfl rfl rfl rfl ⟨(.aggL ⟨h9.plain, h10.plain, h11.plain, trivial⟩), (.lit _), trivial⟩ (by decide) (Opl.p1 (n := Opl.nil ?_))
     by_cases c7 : t443 = true
     case neg =>
      rw [if_neg c7] at H
      have e7 : (!t443) = true := by simpa using c7
      try rw [e7]
      refine Evr.condT rfl (Evr.sr rfl (Opl.p1 (n := Opl.nil ?_)))
      obtain rfl := Option.some.inj H
      refine Evr.ret1 Try.func27 rfl ?_
      show (.lit (.bool false) : PV) = _
      first | rfl | (simp only [go_sem]; rfl)
     rw [if_pos c7] at H
     have e6 : (!t443) = false := by simpa using c7
     try rw [e6]
     refine Evr.condF rfl (Evr.skip (Evr.inBlock (Evr.regionN rfl (Opl.p1 (n := Opl.add (k := .i64) (a := x5_1) (b := 1) K3 rfl rfl rfl rfl (Opl.one (v := .lit (.int .i64 (wrap64 (x5_1 + 1)))) rfl rfl rfl (Opl.nil ?_)))))))
     exact ih2 _ (by omega) _ _ ⟨by omega, _, _, H, ⟨rfl, rfl, rfl, trivial⟩, h7⟩
   rw [if_pos c2] at H
   have e1 : (decide (x4_1 < (l0_0.length : Int))) = true := by simpa using c2
   try rw [e1]
   refine Evr.condT rfl (Evr.skip (Evr.seq (Evr.block (Evr.seq (Evr.sr rfl (Opl.p1 (v := .ptr i3 0) (n := Opl.ldb (v := v0_0) h3 rfl T23 rfl rfl rfl rfl (Opl.p1 (n := ?_)))))))))
   obtain ⟨c3, H⟩ := peel H
   refine Opl.idx (M := cIVar) (xs := l0_0) (j := x4_1) zIVar (by exact hv0_0) rfl (by omega) (by omega) K23 Z101 rfl rfl ?_
   rintro p1 q1 h4
   obtain rfl := cIVar_R (x := (rd_IVar l0_0 x4_1)) h4
   refine Opl.lda (.agg [.lit (.int .i64 ((rd_IVar l0_0 x4_1).f0)), .lit (.int .i64 ((rd_IVar l0_0 x4_1).f1)), .lit (.int .i64 ((rd_IVar l0_0 x4_1).f2))]) rfl T101 rfl rfl rfl rfl ?_
   obtain ⟨t439, h_t439, H⟩ := Option.bind_eq_some_iff.1 H
   refine Opl.callc (spec_l2Var.ev h_t439) rfl rfl rfl rfl ⟨(.aggL ⟨(.lit _), (.lit _), (.lit _), trivial⟩), trivial⟩ (by decide) (Opl.p1 (n := Opl.nil ?_))
   by_cases c4 : t439 = true
   case neg =>
    rw [if_neg c4] at H
    have e3 : (!t439) = true := by simpa using c4
    try rw [e3]
    refine Evr.condT rfl (Evr.sr rfl (Opl.p1 (n := Opl.nil ?_)))
    obtain rfl := Option.some.inj H
    refine Evr.ret1 Try.func27 rfl ?_
    show (.lit (.bool false) : PV) = _
    first | rfl | (simp only [go_sem]; rfl)
   rw [if_pos c4] at H
   have e2 : (!t439) = false := by simpa using c4
   try rw [e2]
   refine Evr.condF rfl (Evr.skip (Evr.regionD rfl (by kernel_rfl) (Opl.p1 (n := Opl.p1 (v := .ptr i3 0) (n := Opl.ldb (v := v0_0) h3 rfl T23 rfl rfl rfl rfl (Opl.p1 (n := Opl.idx (M := cIVar) (xs := l0_0) (j := x4_1) zIVar (by exact hv0_0) rfl (by omega) (by omega) K23 Z101 rfl rfl ?_)))))))
   rintro p2 q2 h5
   obtain rfl := cIVar_R (x := (rd_IVar l0_0 x4_1)) h5
   refine Opl.p1 (v := .fel ((.lit (.int .i64 ((rd_IVar l0_0 x4_1).f1))) :: (.lit (.int .i64 ((rd_IVar l0_0 x4_1).f2))) :: q2)) (n := Opl.lda (.lit (.int .i64 ((rd_IVar l0_0 x4_1).f1))) rfl T3 rfl rfl rfl rfl (Opl.p1 (v := .ptr i3 0) (n := Opl.ldb (v := v0_0) h3 rfl T23 rfl rfl rfl rfl (Opl.p1 (n := Opl.idx (M := cIVar) (xs := l0_0) (j := x4_1) zIVar (by exact hv0_0) rfl (by omega) (by omega) K23 Z101 rfl rfl ?_)))))
   rintro p3 q3 h6
   obtain rfl := cIVar_R (x := (rd_IVar l0_0 x4_1)) h6
   refine Opl.p1 (v := .fel ((.lit (.int .i64 ((rd_IVar l0_0 x4_1).f0))) :: (.lit (.int .i64 ((rd_IVar l0_0 x4_1).f1))) :: (.lit (.int .i64 ((rd_IVar l0_0 x4_1).f2))) :: q3)) (n := Opl.lda (.lit (.int .i64 ((rd_IVar l0_0 x4_1).f0))) rfl T3 rfl rfl rfl rfl (Opl.subi (k := .i64) (a := ((rd_IVar l0_0 x4_1).f1)) (b := ((rd_IVar l0_0 x4_1).f0)) K3 rfl rfl rfl rfl (Opl.add (k := .i64) (a := (wrap64 (((rd_IVar l0_0 x4_1).f1) - ((rd_IVar l0_0 x4_1).f0)))) (b := 1) K3 rfl rfl rfl rfl (Opl.mul (k := .i64) (a := x3_1) (b := (wrap64 ((wrap64 (((rd_IVar l0_0 x4_1).f1) - ((rd_IVar l0_0 x4_1).f0))) + 1))) K3 rfl rfl rfl rfl (Opl.one (v := .lit (.int .i64 (wrap64 (x3_1 * (wrap64 ((wrap64 (((rd_IVar l0_0 x4_1).f1) - ((rd_IVar l0_0 x4_1).f0))) + 1)))))) rfl rfl rfl (Opl.nil (Evr.inBlock (Evr.regionN rfl (Opl.one (v := .lit (.int .i64 x4_1)) rfl rfl rfl (Opl.add (k := .i64) (a := x4_1) (b := 1) K3 rfl rfl rfl rfl (Opl.one (v := .lit (.int .i64 (wrap64 (x4_1 + 1)))) rfl rfl rfl (Opl.nil ?_))))))))))))
   exact ih1 _ (by omega) _ _ ⟨by omega, _, _, _, H, ⟨rfl, rfl, rfl, trivial⟩, h3⟩
 ·
  refine Evr.regionN rfl (Opl.p1 (v := .ptr i1 0) (n := Opl.ldb (v := v0_0) h1 rfl T23 rfl rfl rfl rfl (Opl.len (xs := l0_0) (by exact hv0_0) K23 rfl rfl rfl rfl ?_)))
  obtain ⟨t437, h_t437, H⟩ := Option.bind_eq_some_iff.1 H
  refine Opl.callc (spec_l1In.ev h_t437) rfl rfl rfl rfl ⟨(.lit _), (.lit _), (.lit _), trivial⟩ (by decide) (Opl.p1 (n := Opl.p1 (n := ?_)))
  by_cases c8 : t437 = true
  case neg =>
   rw [if_neg c8] at H
   have e10 : (!t437) = true := by simpa using c8
   try rw [e10]
   refine Opl.skp rfl (Opl.skp rfl (Opl.skp rfl (Opl.skp rfl (Opl.p1 (n := Opl.nil ?_)))))
   exact hk1 _ _ ⟨_, _, _, H, ⟨rfl, (by first | rfl | (show PV.lit (.bool _) = _; congr 2; simp_all)), trivial⟩, h1⟩
  rw [if_pos c8] at H
  have e9 : (!t437) = false := by simpa using c8
  try rw [e9]
  refine Opl.p1 (v := .ptr i1 1) (n := Opl.ldb (v := v0_1) h1 rfl T24 rfl rfl rfl rfl (Opl.len (xs := l0_1) (by exact hv0_1) K24 rfl rfl rfl rfl (Opl.p1 (n := Opl.p1 (n := Opl.nil ?_)))))
  exact hk1 _ _ ⟨_, _, _, H, ⟨rfl, (by first | rfl | (show PV.lit (.bool _) = _; congr 2; simp_all)), trivial⟩, h1⟩
theorem spec_FirstState.ev {k : Nat} {l0_0 : List IVar} {v0_0 : PV} (hv0_0 : Sl cIVar l0_0 v0_0) {l0_1 : List IRule} {v0_1 : PV} (hv0_1 : Sl cIRule l0_1 v0_1) {r : (List Int)} (H : spec_FirstState.f k l0_0 l0_1 = some r) : Ret Try.prog 96 [.agg [v0_0, v0_1]] fun v S => Vec (cInt .i64) r v S := by
 unfold spec_FirstState.f at H
 refine Ret.intro Try.func96 rfl (Nat.le_of_ble_eq_true rfl) rfl ?_
 rw [tm1]
 refine Evr.sr rfl (Opl.box (cs := [v0_0, v0_1]) rfl rfl rfl rfl ?_)
 rintro i1 S h1 u1 w1
 refine Opl.p1 (n := Opl.nil (Evr.sr rfl (Opl.lits (M := (cInt .i64)) (ys := []) [] K27 T3 rfl rfl rfl trivial rfl (by decide) rfl rfl rfl ?_)))
 rintro pv1 S h2 u2 w2
 have ap1 := w2.box h1
 have h3 := u2.box h1 ap1
 refine Opl.p1 (n := Opl.nil (Evr.seq (Evr.sr rfl (Opl.p1 (n := Opl.nil (Evr.block ?_))))))
 refine Evr.loop (Evr.rounds (n := k) (Inv := fun n tm S => n ≤ k ∧ ∃ (x3_1 : List Int) (x4_1 : Int) (i2 : Abs.Id) (pv2 : PV), spec_FirstState.l0 n x3_1 x4_1 l0_0 l0_1 = some r ∧ Has tm [(1, .ptr i2 0), (3, pv2), (4, .lit (.int .i64 x4_1))] ∧ Box (.ptr i2 0) [v0_0, v0_1] S ∧ Vec (cInt .i64) x3_1 pv2 S ∧ Ap (.ptr i2 0) pv2) ?_ ?_ ?_)
 · exact ⟨Nat.le_refl _, _, _, _, _, H, ⟨rfl, rfl, rfl, trivial⟩, h3, h2, ap1⟩
 ·
  rintro tm S ⟨_, _, _, _, _, H, -⟩
  simp [spec_FirstState.l0] at H
 ·
  rintro n1 ih1 tm S ⟨hle, x3_1, x4_1, i2, pv2, H, hh, h4, h5, ap2⟩
  simp only [spec_FirstState.l0] at H
  rw [hh.eq]
  refine Evr.seq (Evr.sr rfl (Opl.p1 (n := Opl.p1 (v := .ptr i2 0) (n := Opl.ldb (v := v0_0) h4 rfl T23 rfl rfl rfl rfl (Opl.len (xs := l0_0) (by exact hv0_0) K23 rfl rfl rfl rfl (Opl.p1 (n := Opl.p1 (n := ?_))))))))
  by_cases c1 : x4_1 < (l0_0.length : Int)
  case neg =>
   rw [if_neg c1] at H
   have e2 : (decide (x4_1 < (l0_0.length : Int))) = false := by simpa using c1
   try rw [e2]
   refine Opl.skp rfl (Opl.skp rfl (Opl.p1 (n := Opl.nil (Evr.condF rfl (Evr.exit rfl (Evr.sr rfl (Opl.p1 (n := Opl.p1 (n := Opl.nil ?_)))))))))
   obtain rfl := Option.some.inj H
   refine Evr.ret1 Try.func96 rfl ?_
   show Vec _ _ pv2 _
   exact h5
  rw [if_pos c1] at H
  have e1 : (decide (x4_1 < (l0_0.length : Int))) = true := by simpa using c1
  try rw [e1]
  refine Opl.ldb (v := .agg [v0_0, v0_1]) h4 rfl T26 rfl rfl rfl rfl ?_
  obtain ⟨t717, h_t717, H⟩ := Option.bind_eq_some_iff.1 H
  refine Opl.callc (spec_SystemValid.ev hv0_0 hv0_1 h_t717) rfl rfl rfl rfl ⟨(.aggL ⟨hv0_0.plain, hv0_1.plain, trivial⟩), trivial⟩ (by decide) (Opl.p1 (n := Opl.nil ?_))
  by_cases c2 : t717 = true
  case neg =>
   rw [if_neg c2] at H
   obtain rfl : t717 = false := by simpa using c2
   refine Evr.condF rfl (Evr.exit rfl (Evr.sr rfl (Opl.p1 (n := Opl.p1 (n := Opl.nil ?_)))))
   obtain rfl := Option.some.inj H
   refine Evr.ret1 Try.func96 rfl ?_
   show Vec _ _ pv2 _
   exact h5
  rw [if_pos c2] at H
  obtain rfl : t717 = true := by simpa using c2
  refine Evr.condT rfl (Evr.skip (Evr.seq (Evr.block (Evr.regionN rfl (Opl.p1 (n := Opl.p1 (v := .ptr i2 0) (n := Opl.ldb (v := v0_0) h4 rfl T23 rfl rfl rfl rfl (Opl.p1 (n := ?_)))))))))
  obtain ⟨c3, H⟩ := peel H
  obtain ⟨c4, H⟩ := peel H
  refine Opl.idx (M := cIVar) (xs := l0_0) (j := x4_1) zIVar (by exact hv0_0) rfl (by omega) (by omega) K23 Z101 rfl rfl ?_
  rintro p1 q1 h6
  obtain rfl := cIVar_R (x := (rd_IVar l0_0 x4_1)) h6
  refine Opl.p1 (v := .fel ((.lit (.int .i64 ((rd_IVar l0_0 x4_1).f2))) :: q1)) (n := Opl.lda (.lit (.int .i64 ((rd_IVar l0_0 x4_1).f2))) rfl T3 rfl rfl rfl rfl (Opl.lits (M := (cInt .i64)) (ys := [((rd_IVar l0_0 x4_1).f2)]) [.tmp 23] K27 T3 rfl rfl rfl (by exact ⟨rfl, trivial⟩) rfl (by decide) rfl rfl rfl ?_))
  rintro pv3 S h7 u3 w3
  have ap3 := w3.box h4
  have h8 := u3.box h4 ap3
  have ap4 := w3.vec h5
  have h9 := u3.vec h5 ap4
  refine Opl.app (M := (cInt .i64)) (xs := x3_1) (ys := [((rd_IVar l0_0 x4_1).f2)]) (v := pv2) h9 (.vec h7) (oInt .i64) rfl rfl K27 T3 rfl rfl (by (try simp only [List.length_cons, List.length_nil]); omega) (by show (_ + _) * 8 ≤ 140737488355328; (try simp only [List.length_cons, List.length_nil]); omega) rfl rfl rfl rfl rfl ?_
  rintro pv4 S h10 u4 w4
  have ap5 := w4.box h8
  have h11 := u4.box h8 ap2
  have ap6 := w4.vec h7
  have h12 := u4.vec h7 ap4.symm
  refine Opl.p1 (n := Opl.nil (Evr.inBlock (Evr.regionN rfl (Opl.p1 (n := Opl.add (k := .i64) (a := x4_1) (b := 1) K3 rfl rfl rfl rfl (Opl.one (v := .lit (.int .i64 (wrap64 (x4_1 + 1)))) rfl rfl rfl (Opl.nil ?_)))))))
  exact ih1 _ (by omega) _ _ ⟨by omega, _, _, _, _, H, ⟨rfl, rfl, rfl, trivial⟩, h11, h10, ap5⟩
theorem spec_l2In.ev {k : Nat} {l0_0 : List IVar} {v0_0 : PV} (hv0_0 : Sl cIVar l0_0 v0_0) {l0_1 : List IRule} {v0_1 : PV} (hv0_1 : Sl cIRule l0_1 v0_1) {l1 : List Int} {v1 : PV} (hv1 : Sl (cInt .i64) l1 v1) {r : Bool} (H : spec_l2In.f k l0_0 l0_1 l1 = some r) : Ret Try.prog 153 [.agg [v0_0, v0_1], v1] fun v S => v = .lit (.bool r) := by
 unfold spec_l2In.f at H
 refine Ret.intro Try.func153 rfl (Nat.le_of_ble_eq_true rfl) rfl ?_
 rw [tm2]
 refine Evr.sr rfl (Opl.box (cs := [v0_0, v0_1]) rfl rfl rfl rfl ?_)
 rintro i1 S h1 u1 w1
 refine Opl.p1 (n := Opl.nil (Evr.seq (Evr.sr rfl (Opl.p1 (n := Opl.len (xs := l1) (by exact hv1) K27 rfl rfl rfl rfl (Opl.p1 (v := .ptr i1 0) (n := Opl.ldb (v := v0_0) h1 rfl T23 rfl rfl rfl rfl (Opl.len (xs := l0_0) (by exact hv0_0) K23 rfl rfl rfl rfl (Opl.p1 (n := Opl.nil ?_))))))))))
 by_cases c1 : (l1.length : Int) = (l0_0.length : Int)
 case neg =>
  rw [if_neg c1] at H
  have e6 : ((l1.length : Int) != (l0_0.length : Int)) = true := by simpa using c1
  try rw [e6]
  refine Evr.condT rfl (Evr.sr rfl (Opl.p1 (n := Opl.nil ?_)))
  obtain rfl := Option.some.inj H
  refine Evr.ret1 Try.func153 rfl ?_
  show (.lit (.bool false) : PV) = _
  first | rfl | (simp only [go_sem]; rfl)
 rw [if_pos c1] at H
 have e1 : ((l1.length : Int) != (l0_0.length : Int)) = false := by simpa using c1
 try rw [e1]
 refine Evr.condF rfl (Evr.skip (Evr.seq (Evr.sr rfl (Opl.p1 (n := Opl.nil (Evr.block ?_))))))
 refine Evr.loop (Evr.rounds (n := k) (Inv := fun n tm S => n ≤ k ∧ ∃ (x5_1 : Int) (i2 : Abs.Id), spec_l2In.l0 n l1 x5_1 l0_0 l0_1 = some r ∧ Has tm [(1, v1), (2, .ptr i2 0), (5, .lit (.int .i64 x5_1))] ∧ Box (.ptr i2 0) [v0_0, v0_1] S) ?_ ?_ ?_)
 · exact ⟨Nat.le_refl _, _, _, H, ⟨rfl, rfl, rfl, trivial⟩, h1⟩
 ·
  rintro tm S ⟨_, _, _, H, -⟩
  simp [spec_l2In.l0] at H
 ·
  rintro n1 ih1 tm S ⟨hle, x5_1, i2, H, hh, h2⟩
  simp only [spec_l2In.l0] at H
  rw [hh.eq]
  refine Evr.seq (Evr.sr rfl (Opl.p1 (n := Opl.p1 (n := Opl.len (xs := l1) (by exact hv1) K27 rfl rfl rfl rfl (Opl.p1 (n := Opl.nil ?_))))))
  by_cases c2 : x5_1 < (l1.length : Int)
  case neg =>
   rw [if_neg c2] at H
   have e5 : (decide (x5_1 < (l1.length : Int))) = false := by simpa using c2
   try rw [e5]
   refine Evr.condF rfl (Evr.exit rfl (Evr.sr rfl (Opl.p1 (n := Opl.nil ?_))))
   obtain rfl := Option.some.inj H
   refine Evr.ret1 Try.func153 rfl ?_
   show (.lit (.bool true) : PV) = _
   first | rfl | (simp only [go_sem]; rfl)
  rw [if_pos c2] at H
  have e2 : (decide (x5_1 < (l1.length : Int))) = true := by simpa using c2
  try rw [e2]
  refine Evr.condT rfl (Evr.skip (Evr.seq (Evr.block (Evr.seq (Evr.regionD rfl (by kernel_rfl) (Opl.p1 (n := Opl.p1 (n := ?_))))))))
  obtain ⟨c3, H⟩ := peel H
  obtain ⟨c4, H⟩ := peel H
  refine Opl.idx (M := (cInt .i64)) (xs := l1) (j := x5_1) (0 : Int) (by exact hv1) rfl (by omega) (by omega) K27 Z3 rfl rfl ?_
  rintro p1 q1 h3
  obtain rfl : p1 = [.lit (.int .i64 (rd l1 x5_1))] := h3
  refine Opl.lda (.lit (.int .i64 (rd l1 x5_1))) rfl T3 rfl rfl rfl rfl (Opl.p1 (v := .ptr i2 0) (n := Opl.ldb (v := v0_0) h2 rfl T23 rfl rfl rfl rfl (Opl.p1 (n := Opl.idx (M := cIVar) (xs := l0_0) (j := x5_1) zIVar (by exact hv0_0) rfl (by omega) (by omega) K23 Z101 rfl rfl ?_))))
  rintro p2 q2 h4
  obtain rfl := cIVar_R (x := (rd_IVar l0_0 x5_1)) h4
  refine Opl.p1 (v := .fel ((.lit (.int .i64 ((rd_IVar l0_0 x5_1).f0))) :: (.lit (.int .i64 ((rd_IVar l0_0 x5_1).f1))) :: (.lit (.int .i64 ((rd_IVar l0_0 x5_1).f2))) :: q2)) (n := Opl.lda (.lit (.int .i64 ((rd_IVar l0_0 x5_1).f0))) rfl T3 rfl rfl rfl rfl (Opl.p1 (v := .ptr i2 0) (n := Opl.ldb (v := v0_0) h2 rfl T23 rfl rfl rfl rfl (Opl.p1 (n := Opl.idx (M := cIVar) (xs := l0_0) (j := x5_1) zIVar (by exact hv0_0) rfl (by omega) (by omega) K23 Z101 rfl rfl ?_)))))
  rintro p3 q3 h5
  obtain rfl := cIVar_R (x := (rd_IVar l0_0 x5_1)) h5
  refine Opl.p1 (v := .fel ((.lit (.int .i64 ((rd_IVar l0_0 x5_1).f1))) :: (.lit (.int .i64 ((rd_IVar l0_0 x5_1).f2))) :: q3)) (n := Opl.lda (.lit (.int .i64 ((rd_IVar l0_0 x5_1).f1))) rfl T3 rfl rfl rfl rfl ?_)
  obtain ⟨t980, h_t980, H⟩ := Option.bind_eq_some_iff.1 H
  refine Opl.callc (spec_l1In.ev h_t980) rfl rfl rfl rfl ⟨(.lit _), (.lit _), (.lit _), trivial⟩ (by decide) (Opl.p1 (n := Opl.nil ?_))
  by_cases c5 : t980 = true
  case neg =>
   rw [if_neg c5] at H
   have e4 : (!t980) = true := by simpa using c5
   try rw [e4]
   refine Evr.condT rfl (Evr.sr rfl (Opl.p1 (n := Opl.nil ?_)))
   obtain rfl := Option.some.inj H
   refine Evr.ret1 Try.func153 rfl ?_
   show (.lit (.bool false) : PV) = _
   first | rfl | (simp only [go_sem]; rfl)
  rw [if_pos c5] at H
  have e3 : (!t980) = false := by simpa using c5
  try rw [e3]
  refine Evr.condF rfl (Evr.skip (Evr.inBlock (Evr.regionN rfl (Opl.p1 (n := Opl.add (k := .i64) (a := x5_1) (b := 1) K3 rfl rfl rfl rfl (Opl.one (v := .lit (.int .i64 (wrap64 (x5_1 + 1)))) rfl rfl rfl (Opl.nil ?_)))))))
  exact ih1 _ (by omega) _ _ ⟨by omega, _, _, H, ⟨rfl, rfl, rfl, trivial⟩, h2⟩
theorem spec_l1Held.ev {a0 : Int} {r : Int} (H : spec_l1Held.f a0 = some r) : Ret Try.prog 173 [.lit (.int .i64 a0)] fun v S => v = .lit (.int .i64 r) := by
 unfold spec_l1Held.f at H
 refine Ret.intro Try.func173 rfl (Nat.le_of_ble_eq_true rfl) rfl ?_
 rw [tm1]
 refine Evr.sr rfl (Opl.p1 (n := Opl.nil (Evr.seq (Evr.sr rfl (Opl.p1 (n := Opl.p1 (n := Opl.nil ?_)))))))
 by_cases c1 : a0 > 9999
 case pos =>
  rw [if_pos c1] at H
  have e1 : (decide (a0 > 9999)) = true := by simpa using c1
  try rw [e1]
  refine Evr.condT rfl (Evr.sr rfl (Opl.p1 (n := Opl.nil ?_)))
  obtain rfl := Option.some.inj H
  refine Evr.ret1 Try.func173 rfl ?_
  show (.lit (.int .i64 9999) : PV) = _
  first | rfl | (simp only [go_sem]; rfl)
 rw [if_neg c1] at H
 have e2 : (decide (a0 > 9999)) = false := by simpa using c1
 try rw [e2]
 refine Evr.condF rfl (Evr.skip (Evr.seq (Evr.sr rfl (Opl.p1 (n := Opl.p1 (n := Opl.nil ?_))))))
 by_cases c2 : a0 < (-9999)
 case pos =>
  rw [if_pos c2] at H
  have e3 : (decide (a0 < (-9999))) = true := by simpa using c2
  try rw [e3]
  refine Evr.condT rfl (Evr.sr rfl (Opl.p1 (n := Opl.nil ?_)))
  obtain rfl := Option.some.inj H
  refine Evr.ret1 Try.func173 rfl ?_
  show (.lit (.int .i64 (-9999)) : PV) = _
  first | rfl | (simp only [go_sem]; rfl)
 rw [if_neg c2] at H
 have e4 : (decide (a0 < (-9999))) = false := by simpa using c2
 try rw [e4]
 refine Evr.condF rfl (Evr.skip (Evr.sr rfl (Opl.p1 (n := Opl.p1 (n := Opl.nil ?_)))))
 obtain rfl := Option.some.inj H
 refine Evr.ret1 Try.func173 rfl ?_
 show (.lit (.int .i64 a0) : PV) = _
 first | rfl | (simp only [go_sem]; rfl)
theorem spec_l1Truth.ev {a0 : Bool} {r : Int} (H : spec_l1Truth.f a0 = some r) : Ret Try.prog 175 [.lit (.bool a0)] fun v S => v = .lit (.int .i64 r) := by
 unfold spec_l1Truth.f at H
 refine Ret.intro Try.func175 rfl (Nat.le_of_ble_eq_true rfl) rfl ?_
 rw [tm1]
 refine Evr.sr rfl (Opl.p1 (n := Opl.nil (Evr.seq (Evr.sr rfl (Opl.p1 (n := Opl.nil ?_))))))
 by_cases c1 : a0 = true
 case pos =>
  rw [if_pos c1] at H
  obtain rfl : a0 = true := by simpa using c1
  refine Evr.condT rfl (Evr.sr rfl (Opl.p1 (n := Opl.nil ?_)))
  obtain rfl := Option.some.inj H
  refine Evr.ret1 Try.func175 rfl ?_
  show (.lit (.int .i64 1) : PV) = _
  first | rfl | (simp only [go_sem]; rfl)
 rw [if_neg c1] at H
 obtain rfl : a0 = false := by simpa using c1
 refine Evr.condF rfl (Evr.skip (Evr.sr rfl (Opl.p1 (n := Opl.nil ?_))))
 obtain rfl := Option.some.inj H
 refine Evr.ret1 Try.func175 rfl ?_
 show (.lit (.int .i64 0) : PV) = _
 first | rfl | (simp only [go_sem]; rfl)
theorem spec_l1Do.ev {a0 : Int} {a1 : Int} {a2 : Int} {r : Int} (H : spec_l1Do.f a0 a1 a2 = some r) : Ret Try.prog 176 [.lit (.int .i64 a0), .lit (.int .i64 a1), .lit (.int .i64 a2)] fun v S => v = .lit (.int .i64 r) := by
 unfold spec_l1Do.f at H
 refine Ret.intro Try.func176 rfl (Nat.le_of_ble_eq_true rfl) rfl ?_
 rw [tm3]
 refine Evr.sr rfl (Opl.p1 (n := Opl.nil (Evr.seq (Evr.sr rfl (Opl.p1 (n := Opl.p1 (n := Opl.nil ?_)))))))
 by_cases c1 : a0 = 2
 case pos =>
  rw [if_pos c1] at H
  have e1 : (a0 == 2) = true := by simpa using c1
  try rw [e1]
  refine Evr.condT rfl (Evr.sr rfl (Opl.p1 (n := Opl.p1 (n := Opl.add (k := .i64) (a := a1) (b := a2) K3 rfl rfl rfl rfl ?_))))
  obtain ⟨t948, h_t948, H⟩ := Option.bind_eq_some_iff.1 H
  refine Opl.callc (spec_l1Held.ev h_t948) rfl rfl rfl rfl ⟨(.lit _), trivial⟩ (by decide) (Opl.one (v := .lit (.int .i64 t948)) rfl rfl rfl (Opl.nil ?_))
  obtain rfl := Option.some.inj H
  refine Evr.ret1 Try.func176 rfl ?_
  show (.lit (.int .i64 t948) : PV) = _
  first | rfl | (simp only [go_sem]; rfl)
 rw [if_neg c1] at H
 have e2 : (a0 == 2) = false := by simpa using c1
 try rw [e2]
 refine Evr.condF rfl (Evr.skip (Evr.seq (Evr.sr rfl (Opl.p1 (n := Opl.p1 (n := Opl.nil ?_))))))
 by_cases c2 : a0 = 3
 case pos =>
  rw [if_pos c2] at H
  have e3 : (a0 == 3) = true := by simpa using c2
  try rw [e3]
  refine Evr.condT rfl (Evr.sr rfl (Opl.p1 (n := Opl.p1 (n := Opl.subi (k := .i64) (a := a1) (b := a2) K3 rfl rfl rfl rfl ?_))))
  obtain ⟨t949, h_t949, H⟩ := Option.bind_eq_some_iff.1 H
  refine Opl.callc (spec_l1Held.ev h_t949) rfl rfl rfl rfl ⟨(.lit _), trivial⟩ (by decide) (Opl.one (v := .lit (.int .i64 t949)) rfl rfl rfl (Opl.nil ?_))
  obtain rfl := Option.some.inj H
  refine Evr.ret1 Try.func176 rfl ?_
  show (.lit (.int .i64 t949) : PV) = _
  first | rfl | (simp only [go_sem]; rfl)
 rw [if_neg c2] at H
 have e4 : (a0 == 3) = false := by simpa using c2
 try rw [e4]
 refine Evr.condF rfl (Evr.skip (Evr.seq (Evr.sr rfl (Opl.p1 (n := Opl.p1 (n := Opl.nil ?_))))))
 by_cases c3 : a0 = 4
 case pos =>
  rw [if_pos c3] at H
  have e5 : (a0 == 4) = true := by simpa using c3
  try rw [e5]
  refine Evr.condT rfl (Evr.sr rfl (Opl.p1 (n := Opl.p1 (n := Opl.mul (k := .i64) (a := a1) (b := a2) K3 rfl rfl rfl rfl ?_))))
  obtain ⟨t950, h_t950, H⟩ := Option.bind_eq_some_iff.1 H
  refine Opl.callc (spec_l1Held.ev h_t950) rfl rfl rfl rfl ⟨(.lit _), trivial⟩ (by decide) (Opl.one (v := .lit (.int .i64 t950)) rfl rfl rfl (Opl.nil ?_))
  obtain rfl := Option.some.inj H
  refine Evr.ret1 Try.func176 rfl ?_
  show (.lit (.int .i64 t950) : PV) = _
  first | rfl | (simp only [go_sem]; rfl)
 rw [if_neg c3] at H
 have e6 : (a0 == 4) = false := by simpa using c3
 try rw [e6]
 refine Evr.condF rfl (Evr.skip (Evr.seq (Evr.sr rfl (Opl.p1 (n := Opl.p1 (n := Opl.nil ?_))))))
 by_cases c4 : a0 = 5
 case pos =>
  rw [if_pos c4] at H
  have e7 : (a0 == 5) = true := by simpa using c4
  try rw [e7]
  refine Evr.condT rfl (Evr.sr rfl (Opl.p1 (n := Opl.p1 (n := Opl.p1 (n := ?_)))))
  obtain ⟨t951, h_t951, H⟩ := Option.bind_eq_some_iff.1 H
  refine Opl.callc (spec_l1Truth.ev h_t951) rfl rfl rfl rfl ⟨(.lit _), trivial⟩ (by decide) (Opl.p1 (n := Opl.nil ?_))
  obtain rfl := Option.some.inj H
  refine Evr.ret1 Try.func176 rfl ?_
  show (.lit (.int .i64 t951) : PV) = _
  first | rfl | (simp only [go_sem]; rfl)
 rw [if_neg c4] at H
 have e8 : (a0 == 5) = false := by simpa using c4
 try rw [e8]
 refine Evr.condF rfl (Evr.skip (Evr.seq (Evr.sr rfl (Opl.p1 (n := Opl.p1 (n := Opl.nil ?_))))))
 by_cases c5 : a0 = 6
 case pos =>
  rw [if_pos c5] at H
  have e9 : (a0 == 6) = true := by simpa using c5
  try rw [e9]
  refine Evr.condT rfl (Evr.sr rfl (Opl.p1 (n := Opl.p1 (n := Opl.p1 (n := ?_)))))
  obtain ⟨t952, h_t952, H⟩ := Option.bind_eq_some_iff.1 H
  refine Opl.callc (spec_l1Truth.ev h_t952) rfl rfl rfl rfl ⟨(.lit _), trivial⟩ (by decide) (Opl.p1 (n := Opl.nil ?_))
  obtain rfl := Option.some.inj H
  refine Evr.ret1 Try.func176 rfl ?_
  show (.lit (.int .i64 t952) : PV) = _
  first | rfl | (simp only [go_sem]; rfl)
 rw [if_neg c5] at H
 have e10 : (a0 == 6) = false := by simpa using c5
 try rw [e10]
 refine Evr.condF rfl (Evr.skip (Evr.seq (Evr.sr rfl (Opl.p1 (n := Opl.p1 (n := Opl.nil ?_))))))
 by_cases c6 : a0 = 7
 case pos =>
  rw [if_pos c6] at H
  have e11 : (a0 == 7) = true := by simpa using c6
  try rw [e11]
  refine Evr.condT rfl (Evr.sr rfl (Opl.p1 (n := Opl.subi (k := .i64) (a := 1) (b := a1) K3 rfl rfl rfl rfl (Opl.one (v := .lit (.int .i64 (wrap64 (1 - a1)))) rfl rfl rfl (Opl.nil ?_)))))
  obtain rfl := Option.some.inj H
  refine Evr.ret1 Try.func176 rfl ?_
  show (.lit (.int .i64 (wrap64 (1 - a1))) : PV) = _
  first | rfl | (simp only [go_sem]; rfl)
 rw [if_neg c6] at H
 have e12 : (a0 == 7) = false := by simpa using c6
 try rw [e12]
 refine Evr.condF rfl (Evr.skip (Evr.seq (Evr.sr rfl (Opl.p1 (n := Opl.p1 (n := Opl.nil ?_))))))
 by_cases c7 : a0 = 8
 case pos =>
  rw [if_pos c7] at H
  have e13 : (a0 == 8) = true := by simpa using c7
  try rw [e13]
  refine Evr.condT rfl (Evr.sr rfl (Opl.p1 (n := Opl.p1 (n := Opl.mul (k := .i64) (a := a1) (b := a2) K3 rfl rfl rfl rfl (Opl.one (v := .lit (.int .i64 (wrap64 (a1 * a2)))) rfl rfl rfl (Opl.nil ?_))))))
  obtain rfl := Option.some.inj H
  refine Evr.ret1 Try.func176 rfl ?_
  show (.lit (.int .i64 (wrap64 (a1 * a2))) : PV) = _
  first | rfl | (simp only [go_sem]; rfl)
 rw [if_neg c7] at H
 have e14 : (a0 == 8) = false := by simpa using c7
 try rw [e14]
 refine Evr.condF rfl (Evr.skip (Evr.sr rfl (Opl.p1 (n := Opl.p1 (n := Opl.add (k := .i64) (a := a1) (b := a2) K3 rfl rfl rfl rfl (Opl.gtr (a := (wrap64 (a1 + a2))) (b := 0) K3 rfl rfl rfl rfl ?_))))))
 obtain ⟨t953, h_t953, H⟩ := Option.bind_eq_some_iff.1 H
 refine Opl.callc (spec_l1Truth.ev h_t953) rfl rfl rfl rfl ⟨(.lit _), trivial⟩ (by decide) (Opl.one (v := .lit (.int .i64 t953)) rfl rfl rfl (Opl.nil ?_))
 obtain rfl := Option.some.inj H
 refine Evr.ret1 Try.func176 rfl ?_
 show (.lit (.int .i64 t953) : PV) = _
 first | rfl | (simp only [go_sem]; rfl)
theorem spec_l1Values.ev {k : Nat} {l0 : List ITerm} {v0 : PV} (hv0 : Sl cITerm l0 v0) {l1 : List Int} {v1 : PV} (hv1 : Sl (cInt .i64) l1 v1) {r : (List Int)} (H : spec_l1Values.f k l0 l1 = some r) : Ret Try.prog 187 [v0, v1] fun v S => Vec (cInt .i64) r v S := by
 unfold spec_l1Values.f at H
 refine Ret.intro Try.func187 rfl (Nat.le_of_ble_eq_true rfl) rfl ?_
 rw [tm2]
 refine Evr.sr rfl (Opl.p1 (n := Opl.nil (Evr.sr rfl (Opl.lits (M := (cInt .i64)) (ys := []) [] K27 T3 rfl rfl rfl trivial rfl (by decide) rfl rfl rfl ?_))))
 rintro pv1 S h1 u1 w1
 refine Opl.p1 (n := Opl.nil (Evr.seq (Evr.sr rfl (Opl.p1 (n := Opl.nil (Evr.block ?_))))))
 refine Evr.loop (Evr.rounds (n := k) (Inv := fun n tm S => n ≤ k ∧ ∃ (x5_1 : List Int) (x6_1 : Int) (pv2 : PV), spec_l1Values.l0 n l0 l1 x5_1 x6_1 = some r ∧ Has tm [(0, v0), (1, v1), (5, pv2), (6, .lit (.int .i64 x6_1))] ∧ Vec (cInt .i64) x5_1 pv2 S) ?_ ?_ ?_)
 · exact ⟨Nat.le_refl _, _, _, _, H, ⟨rfl, rfl, rfl, rfl, trivial⟩, h1⟩
 ·
  rintro tm S ⟨_, _, _, _, H, -⟩
  simp [spec_l1Values.l0] at H
 ·
  rintro n1 ih1 tm S ⟨hle, x5_1, x6_1, pv2, H, hh, h2⟩
  simp only [spec_l1Values.l0] at H
  rw [hh.eq]
  refine Evr.seq (Evr.sr rfl (Opl.p1 (n := Opl.p1 (n := Opl.len (xs := l0) (by exact hv0) K66 rfl rfl rfl rfl (Opl.p1 (n := Opl.nil ?_))))))
  by_cases c1 : x6_1 < (l0.length : Int)
  case neg =>
   rw [if_neg c1] at H
   have e6 : (decide (x6_1 < (l0.length : Int))) = false := by simpa using c1
   try rw [e6]
   refine Evr.condF rfl (Evr.exit rfl (Evr.sr rfl (Opl.p1 (n := Opl.p1 (n := Opl.nil ?_)))))
   obtain rfl := Option.some.inj H
   refine Evr.ret1 Try.func187 rfl ?_
   show Vec _ _ pv2 _
   exact h2
  rw [if_pos c1] at H
  have e1 : (decide (x6_1 < (l0.length : Int))) = true := by simpa using c1
  try rw [e1]
  refine Evr.condT rfl (Evr.skip (Evr.seq (Evr.block (Evr.sr rfl (Opl.p1 (n := Opl.p1 (n := ?_)))))))
  obtain ⟨c2, H⟩ := peel H
  refine Opl.idx (M := cITerm) (xs := l0) (j := x6_1) zITerm (by exact hv0) rfl (by omega) (by omega) K66 Z128 rfl rfl ?_
  rintro p1 q1 h3
  obtain rfl := cITerm_R (x := (rd_ITerm l0 x6_1)) h3
  refine Opl.lda (.agg [.lit (.int .i64 ((rd_ITerm l0 x6_1).f0)), .lit (.int .i64 ((rd_ITerm l0 x6_1).f1)), .lit (.int .i64 ((rd_ITerm l0 x6_1).f2)), .lit (.int .i64 ((rd_ITerm l0 x6_1).f3))]) rfl T128 rfl rfl rfl rfl (Opl.alloc T128 rfl rfl rfl ?_)
  rintro i1 S h4 u2 w2
  have ap1 := w2.vec h2
  have h5 := u2.vec h2 ap1
  refine Opl.stb (vs := [.lit (.int .i64 ((rd_ITerm l0 x6_1).f0)), .lit (.int .i64 ((rd_ITerm l0 x6_1).f1)), .lit (.int .i64 ((rd_ITerm l0 x6_1).f2)), .lit (.int .i64 ((rd_ITerm l0 x6_1).f3))]) h4 rfl rfl Z128 rfl (Nat.le_of_ble_eq_true rfl) rfl rfl rfl rfl ?_
  rintro S (h6 : Box (.ptr i1 0) [.lit (.int .i64 ((rd_ITerm l0 x6_1).f0)), .lit (.int .i64 ((rd_ITerm l0 x6_1).f1)), .lit (.int .i64 ((rd_ITerm l0 x6_1).f2)), .lit (.int .i64 ((rd_ITerm l0 x6_1).f3))] _) u3
  have h7 := u3.vec h5 ap1
  refine Opl.nil (Evr.sr rfl (Opl.p1 (v := .ptr i1 0) (n := Opl.ldb (v := .lit (.int .i64 ((rd_ITerm l0 x6_1).f0))) h6 rfl T3 rfl rfl rfl rfl (Opl.p1 (n := Opl.nil ?_)))))
  refine Evr.join (fun tm S => ∃ (kq1 : Nat) (x5_2 : List Int) (pv3 : PV), spec_l1Values.l0 kq1 l0 l1 x5_2 (wrap64 (x6_1 + 1)) = some r ∧ kq1 ≤ n1 ∧ Has tm [(0, v0), (1, v1), (5, pv3), (6, .lit (.int .i64 x6_1))] ∧ Vec (cInt .i64) x5_2 pv3 S) ?_ fun hk1 => ?_
  ·
   rintro tm S ⟨kq1, x5_2, pv3, H, hle, hh, h8⟩
   rw [hh.eq]
   refine Evr.inBlock (Evr.regionN rfl (Opl.p1 (n := Opl.add (k := .i64) (a := x6_1) (b := 1) K3 rfl rfl rfl rfl (Opl.one (v := .lit (.int .i64 (wrap64 (x6_1 + 1)))) rfl rfl rfl (Opl.nil ?_)))))
   exact ih1 _ (by omega) _ _ ⟨by omega, _, _, _, H, ⟨rfl, rfl, rfl, rfl, trivial⟩, h8⟩
  ·
   by_cases c3 : ((rd_ITerm l0 x6_1).f0) = 0
   case pos =>
    rw [if_pos c3] at H
    have e2 : (((rd_ITerm l0 x6_1).f0) == 0) = true := by simpa using c3
    try rw [e2]
    refine Evr.condT rfl (Evr.regionN rfl (Opl.p1 (n := Opl.p1 (v := .ptr i1 1) (n := Opl.ldb (v := .lit (.int .i64 ((rd_ITerm l0 x6_1).f1))) h6 rfl T3 rfl rfl rfl rfl (Opl.lits (M := (cInt .i64)) (ys := [((rd_ITerm l0 x6_1).f1)]) [.tmp 24] K27 T3 rfl rfl rfl (by exact ⟨rfl, trivial⟩) rfl (by decide) rfl rfl rfl ?_)))))
    rintro pv4 S h9 u4 w4
    have ap2 := w4.vec h7
    have h10 := u4.vec h7 ap2
    have ap3 := w4.box h6
    have h11 := u4.box h6 ap3
    obtain ⟨c4, H⟩ := peel H
    refine Opl.app (M := (cInt .i64)) (xs := x5_1) (ys := [((rd_ITerm l0 x6_1).f1)]) (v := pv2) h10 (.vec h9) (oInt .i64) rfl rfl K27 T3 rfl rfl (by (try simp only [List.length_cons, List.length_nil]); omega) (by show (_ + _) * 8 ≤ 140737488355328; (try simp only [List.length_cons, List.length_nil]); omega) rfl rfl rfl rfl rfl ?_
    rintro pv5 S h12 u5 w5
    have ap4 := w5.box h11
    have h13 := u5.box h11 ap1.symm
    have ap5 := w5.vec h9
    have h14 := u5.vec h9 ap2.symm
    refine Opl.p1 (n := Opl.nil ?_)
    exact hk1 _ _ ⟨_, _, _, H, by omega, ⟨rfl, rfl, rfl, rfl, trivial⟩, h12⟩
   rw [if_neg c3] at H
   have e3 : (((rd_ITerm l0 x6_1).f0) == 0) = false := by simpa using c3
   try rw [e3]
   refine Evr.condF rfl (Evr.sr rfl (Opl.p1 (v := .ptr i1 0) (n := Opl.ldb (v := .lit (.int .i64 ((rd_ITerm l0 x6_1).f0))) h6 rfl T3 rfl rfl rfl rfl (Opl.p1 (n := Opl.nil ?_)))))
   refine Evr.join (fun tm S => ∃ (kq2 : Nat) (x5_3 : List Int) (pv6 : PV), spec_l1Values.l0 kq2 l0 l1 x5_3 (wrap64 (x6_1 + 1)) = some r ∧ kq2 ≤ n1 ∧ Has tm [(0, v0), (1, v1), (5, pv6), (6, .lit (.int .i64 x6_1))] ∧ Vec (cInt .i64) x5_3 pv6 S) ?_ fun hk2 => ?_
   ·
    rintro tm S ⟨kq2, x5_3, pv6, H, hle, hh, h15⟩
    rw [hh.eq]
    exact hk1 _ _ ⟨_, _, _, H, by omega, ⟨rfl, rfl, rfl, rfl, trivial⟩, h15⟩
   ·
    by_cases c5 : ((rd_ITerm l0 x6_1).f0) = 1
    case pos =>
     rw [if_pos c5] at H
     have e4 : (((rd_ITerm l0 x6_1).f0) == 1) = true := by simpa using c5
     try rw [e4]
     refine Evr.condT rfl (Evr.regionN rfl (Opl.p1 (n := Opl.p1 (n := Opl.p1 (v := .ptr i1 1) (n := Opl.ldb (v := .lit (.int .i64 ((rd_ITerm l0 x6_1).f1))) h6 rfl T3 rfl rfl rfl rfl ?_)))))
     obtain ⟨c6, H⟩ := peel H
     obtain ⟨c7, H⟩ := peel H
     obtain ⟨c8, H⟩ := peel H
     refine Opl.idx (M := (cInt .i64)) (xs := l1) (j := ((rd_ITerm l0 x6_1).f1)) (0 : Int) (by exact hv1) rfl (by omega) (by omega) K27 Z3 rfl rfl ?_
     rintro p2 q2 h16
     obtain rfl : p2 = [.lit (.int .i64 (rd l1 ((rd_ITerm l0 x6_1).f1)))] := h16
     refine Opl.lda (.lit (.int .i64 (rd l1 ((rd_ITerm l0 x6_1).f1)))) rfl T3 rfl rfl rfl rfl (Opl.lits (M := (cInt .i64)) (ys := [(rd l1 ((rd_ITerm l0 x6_1).f1))]) [.tmp 35] K27 T3 rfl rfl rfl (by exact ⟨rfl, trivial⟩) rfl (by decide) rfl rfl rfl ?_)
     rintro pv7 S h17 u6 w6
     have ap6 := w6.vec h7
     have h18 := u6.vec h7 ap6
     have ap7 := w6.box h6
     have h19 := u6.box h6 ap7
     refine Opl.app (M := (cInt .i64)) (xs := x5_1) (ys := [(rd l1 ((rd_ITerm l0 x6_1).f1))]) (v := pv2) h18 (.vec h17) (oInt .i64) rfl rfl K27 T3 rfl rfl (by (try simp only [List.length_cons, List.length_nil]); omega) (by show (_ + _) * 8 ≤ 140737488355328; (try simp only [List.length_cons, List.length_nil]); omega) rfl rfl rfl rfl rfl ?_
     rintro pv8 S h20 u7 w7
     have ap8 := w7.box h19
     have h21 := u7.box h19 ap1.symm
     have ap9 := w7.vec h17
     have h22 := u7.vec h17 ap6.symm
     refine Opl.p1 (n := Opl.nil ?_)
     exact hk2 _ _ ⟨_, _, _, H, by omega, ⟨rfl, rfl, rfl, rfl, trivial⟩, h20⟩
    rw [if_neg c5] at H
    have e5 : (((rd_ITerm l0 x6_1).f0) == 1) = false := by simpa using c5
    try rw [e5]
    refine Evr.condF rfl (Evr.regionD rfl (by kernel_rfl) (Opl.p1 (n := Opl.p1 (v := .ptr i1 0) (n := Opl.ldb (v := .lit (.int .i64 ((rd_ITerm l0 x6_1).f0))) h6 rfl T3 rfl rfl rfl rfl (Opl.p1 (n := Opl.p1 (v := .ptr i1 2) (n := Opl.ldb (v := .lit (.int .i64 ((rd_ITerm l0 x6_1).f2))) h6 rfl T3 rfl rfl rfl rfl ?_)))))))
    obtain ⟨c9, H⟩ := peel H
    obtain ⟨c10, H⟩ := peel H
    obtain ⟨c11, H⟩ := peel H
    obtain ⟨c12, H⟩ := peel H
    refine Opl.idv (M := (cInt .i64)) (xs := x5_1) (j := ((rd_ITerm l0 x6_1).f2)) (v := pv2) h7 rfl rfl (by omega) (by omega) K27 Z3 rfl rfl ?_
    rintro d1 z1 q3 h23 h24
    refine Opl.ldv (M := (cInt .i64)) (xs := x5_1) (j := ((rd_ITerm l0 x6_1).f2)) (0 : Int) h23 h24 (by omega) (by omega) rfl T3 rfl rfl rfl ?_
    rintro p3 q4 h25
    obtain rfl : p3 = [.lit (.int .i64 (rd x5_1 ((rd_ITerm l0 x6_1).f2)))] := h25
    refine ⟨.lit (.int .i64 (rd x5_1 ((rd_ITerm l0 x6_1).f2))), rfl, ?_⟩
    refine Opl.p1 (n := Opl.p1 (v := .ptr i1 3) (n := Opl.ldb (v := .lit (.int .i64 ((rd_ITerm l0 x6_1).f3))) h6 rfl T3 rfl rfl rfl rfl (Opl.idv (M := (cInt .i64)) (xs := x5_1) (j := ((rd_ITerm l0 x6_1).f3)) (v := pv2) h7 rfl rfl (by omega) (by omega) K27 Z3 rfl rfl ?_)))
    rintro d2 z2 q5 h26 h27
    refine Opl.ldv (M := (cInt .i64)) (xs := x5_1) (j := ((rd_ITerm l0 x6_1).f3)) (0 : Int) h26 h27 (by omega) (by omega) rfl T3 rfl rfl rfl ?_
    rintro p4 q6 h28
    obtain rfl : p4 = [.lit (.int .i64 (rd x5_1 ((rd_ITerm l0 x6_1).f3)))] := h28
    refine ⟨.lit (.int .i64 (rd x5_1 ((rd_ITerm l0 x6_1).f3))), rfl, ?_⟩
    obtain ⟨t968, h_t968, H⟩ := Option.bind_eq_some_iff.1 H
    refine Opl.callc (spec_l1Do.ev h_t968) rfl rfl rfl rfl ⟨(.lit _), (.lit _), (.lit _), trivial⟩ (by decide) (Opl.lits (M := (cInt .i64)) (ys := [t968]) [.tmp 51] K27 T3 rfl rfl rfl (by exact ⟨rfl, trivial⟩) rfl (by decide) rfl rfl rfl ?_)
    rintro pv9 S h29 u8 w8
    have ap10 := w8.vec h7
    have h30 := u8.vec h7 ap10
    have ap11 := w8.box h6
    have h31 := u8.box h6 ap11
    obtain ⟨c13, H⟩ := peel H
    refine Opl.app (M := (cInt .i64)) (xs := x5_1) (ys := [t968]) (v := pv2) h30 (.vec h29) (oInt .i64) rfl rfl K27 T3 rfl rfl (by (try simp only [List.length_cons, List.length_nil]); omega) (by show (_ + _) * 8 ≤ 140737488355328; (try simp only [List.length_cons, List.length_nil]); omega) rfl rfl rfl rfl rfl ?_
    rintro pv10 S h32 u9 w9
    have ap12 := w9.box h31
    have h33 := u9.box h31 ap1.symm
    have ap13 := w9.vec h29
    have h34 := u9.vec h29 ap10.symm
    refine Opl.p1 (n := Opl.nil ?_)
    exact hk2 _ _ ⟨_, _, _, H, by omega, ⟨rfl, rfl, rfl, rfl, trivial⟩, h32⟩
theorem spec_l2Last.ev {k : Nat} {l0 : List ITerm} {v0 : PV} (hv0 : Sl cITerm l0 v0) {l1 : List Int} {v1 : PV} (hv1 : Sl (cInt .i64) l1 v1) {r : Int} (H : spec_l2Last.f k l0 l1 = some r) : Ret Try.prog 152 [v0, v1] fun v S => v = .lit (.int .i64 r) := by
 unfold spec_l2Last.f at H
 refine Ret.intro Try.func152 rfl (Nat.le_of_ble_eq_true rfl) rfl ?_
 rw [tm2]
 refine Evr.sr rfl (Opl.p1 (n := Opl.nil (Evr.sr rfl (Opl.p1 (n := Opl.p1 (n := ?_))))))
 obtain ⟨t972, h_t972, H⟩ := Option.bind_eq_some_iff.1 H
 refine Opl.call ((spec_l1Values.ev hv0 hv1 h_t972).mono fun _ _ h => Out.vec h) rfl rfl rfl rfl ⟨hv0.plain, hv1.plain, trivial⟩ (by decide) ?_
 rintro pv1 h1
 refine Opl.p1 (n := Opl.len (xs := l0) (by exact hv0) K66 rfl rfl rfl rfl (Opl.subi (k := .i64) (a := (l0.length : Int)) (b := 1) K3 rfl rfl rfl rfl ?_))
 obtain ⟨c1, H⟩ := peel H
 obtain ⟨c2, H⟩ := peel H
 refine Opl.idx (M := (cInt .i64)) (xs := t972) (j := (wrap64 ((l0.length : Int) - 1))) (0 : Int) (by exact h1) rfl (by omega) (by omega) K27 Z3 rfl rfl ?_
 rintro p1 q1 h2
 obtain rfl : p1 = [.lit (.int .i64 (rd t972 (wrap64 ((l0.length : Int) - 1))))] := h2
 refine Opl.lda (.lit (.int .i64 (rd t972 (wrap64 ((l0.length : Int) - 1))))) rfl T3 rfl rfl rfl rfl (Opl.one (v := .lit (.int .i64 (rd t972 (wrap64 ((l0.length : Int) - 1))))) rfl rfl rfl (Opl.nil ?_))
 obtain rfl := Option.some.inj H
 refine Evr.ret1 Try.func152 rfl ?_
 show (.lit (.int .i64 (rd t972 (wrap64 ((l0.length : Int) - 1)))) : PV) = _
 first | rfl | (simp only [go_sem]; rfl)
theorem spec_l2Use.ev {k : Nat} {l0_0 : List IVar} {v0_0 : PV} (hv0_0 : Sl cIVar l0_0 v0_0) {l0_1 : List IRule} {v0_1 : PV} (hv0_1 : Sl cIRule l0_1 v0_1) {l1 : List Int} {v1 : PV} (hv1 : Sl (cInt .i64) l1 v1) {a2 : Int} {r : (List Int)} (H : spec_l2Use.f k l0_0 l0_1 l1 a2 = some r) : Ret Try.prog 97 [.agg [v0_0, v0_1], v1, .lit (.int .i64 a2)] fun v S => Vec (cInt .i64) r v S := by
 unfold spec_l2Use.f at H
 refine Ret.intro Try.func97 rfl (Nat.le_of_ble_eq_true rfl) rfl ?_
 rw [tm3]
 refine Evr.sr rfl (Opl.box (cs := [v0_0, v0_1]) rfl rfl rfl rfl ?_)
 rintro i1 S h1 u1 w1
 refine Opl.p1 (n := Opl.nil (Evr.sr rfl (Opl.p1 (v := .ptr i1 1) (n := Opl.ldb (v := v0_1) h1 rfl T24 rfl rfl rfl rfl (Opl.p1 (n := ?_))))))
 obtain ⟨c1, H⟩ := peel H
 obtain ⟨c2, H⟩ := peel H
 refine Opl.idx (M := cIRule) (xs := l0_1) (j := a2) zIRule (by exact hv0_1) rfl (by omega) (by omega) K24 Z106 rfl rfl ?_
 rintro p1 q1 h2
 obtain ⟨pv1, pv2, pv3, rfl, h3, h4, h5⟩ := cIRule_R (x := (rd_IRule l0_1 a2)) h2
 refine Opl.lda (.agg [pv1, pv2, pv3]) rfl T106 rfl rfl rfl rfl (Opl.alloc T106 rfl rfl rfl ?_)
 rintro i2 S h6 u2 w2
 have ap1 := w2.box h1
 have h7 := u2.box h1 ap1
 refine Opl.stb (vs := [pv1, pv2, pv3]) h6 rfl rfl Z106 rfl (Nat.le_of_ble_eq_true rfl) (by simp only [List.all_cons, List.all_nil, h3.one, h4.one, h5.one, Bool.and_true, Bool.true_and] <;> rfl) rfl rfl rfl ?_
 rintro S (h8 : Box (.ptr i2 0) [pv1, pv2, pv3] _) u3
 have h9 := u3.box h7 ap1
 refine Opl.nil (Evr.seq (Evr.sr rfl (Opl.p1 (v := .ptr i2 0) (n := Opl.ldb (v := pv1) h8 rfl T66 rfl rfl rfl rfl (Opl.p1 (n := ?_))))))
 obtain ⟨t984, h_t984, H⟩ := Option.bind_eq_some_iff.1 H
 refine Opl.callc (spec_l2Last.ev h3 hv1 h_t984) rfl rfl rfl rfl ⟨h3.plain, hv1.plain, trivial⟩ (by decide) (Opl.p1 (n := Opl.nil ?_))
 by_cases c3 : t984 = 0
 case pos =>
  rw [if_pos c3] at H
  have e1 : (t984 == 0) = true := by simpa using c3
  try rw [e1]
  refine Evr.condT rfl (Evr.sr rfl (Opl.p1 (n := Opl.nil ?_)))
  obtain rfl := Option.some.inj H
  refine Evr.ret1 Try.func97 rfl ?_
  show Vec _ _ (.lit (.slice none 0 0)) _
  exact .nil
 rw [if_neg c3] at H
 have e2 : (t984 == 0) = false := by simpa using c3
 try rw [e2]
 refine Evr.condF rfl (Evr.skip (Evr.sr rfl (Opl.lits (M := (cInt .i64)) (ys := []) [] K27 T3 rfl rfl rfl trivial rfl (by decide) rfl rfl rfl ?_)))
 rintro pv4 S h10 u4 w4
 have ap2 := w4.box h9
 have h11 := u4.box h9 ap2
 have ap3 := w4.box h8
 have h12 := u4.box h8 ap3
 refine Opl.p1 (n := Opl.nil (Evr.seq (Evr.sr rfl (Opl.p1 (n := Opl.nil (Evr.block ?_))))))
 refine Evr.loop (Evr.rounds (n := k) (Inv := fun n tm S => n ≤ k ∧ ∃ (x8_1 : List Int) (x9_1 : Int) (i3 : Abs.Id) (i4 : Abs.Id) (pv5 : PV), spec_l2Use.l0 n l1 x8_1 x9_1 l0_0 l0_1 ((rd_IRule l0_1 a2).f0) ((rd_IRule l0_1 a2).f1) ((rd_IRule l0_1 a2).f2) = some r ∧ Has tm [(1, v1), (3, .ptr i3 0), (7, .ptr i4 0), (8, pv5), (9, .lit (.int .i64 x9_1))] ∧ Box (.ptr i3 0) [v0_0, v0_1] S ∧ Box (.ptr i4 0) [pv1, pv2, pv3] S ∧ Vec (cInt .i64) x8_1 pv5 S ∧ Ap (.ptr i3 0) (.ptr i4 0) ∧ Ap (.ptr i3 0) pv5 ∧ Ap (.ptr i4 0) pv5) ?_ ?_ ?_)
 · exact ⟨Nat.le_refl _, _, _, _, _, _, H, ⟨rfl, rfl, rfl, rfl, rfl, trivial⟩, h11, h12, h10, ap1, ap2, ap3⟩
 ·
  rintro tm S ⟨_, _, _, _, _, _, H, -⟩
  simp [spec_l2Use.l0] at H
 ·
  rintro n1 ih1 tm S ⟨hle, x8_1, x9_1, i3, i4, pv5, H, hh, h13, h14, h15, ap4, ap5, ap6⟩
  simp only [spec_l2Use.l0] at H
  rw [hh.eq]
  refine Evr.seq (Evr.sr rfl (Opl.p1 (n := Opl.p1 (n := Opl.len (xs := l1) (by exact hv1) K27 rfl rfl rfl rfl (Opl.p1 (n := Opl.nil ?_))))))
  by_cases c4 : x9_1 < (l1.length : Int)
  case pos =>
   rw [if_pos c4] at H
   have e3 : (decide (x9_1 < (l1.length : Int))) = true := by simpa using c4
   try rw [e3]
   refine Evr.condT rfl (Evr.skip (Evr.seq (Evr.block (Evr.regionN rfl (Opl.p1 (n := Opl.p1 (n := Opl.p1 (n := ?_))))))))
   obtain ⟨c5, H⟩ := peel H
   obtain ⟨c6, H⟩ := peel H
   refine Opl.idx (M := (cInt .i64)) (xs := l1) (j := x9_1) (0 : Int) (by exact hv1) rfl (by omega) (by omega) K27 Z3 rfl rfl ?_
   rintro p2 q2 h16
   obtain rfl : p2 = [.lit (.int .i64 (rd l1 x9_1))] := h16
   refine Opl.lda (.lit (.int .i64 (rd l1 x9_1))) rfl T3 rfl rfl rfl rfl (Opl.lits (M := (cInt .i64)) (ys := [(rd l1 x9_1)]) [.tmp 32] K27 T3 rfl rfl rfl (by exact ⟨rfl, trivial⟩) rfl (by decide) rfl rfl rfl ?_)
   rintro pv6 S h17 u5 w5
   have ap7 := w5.box h13
   have h18 := u5.box h13 ap7
   have ap8 := w5.box h14
   have h19 := u5.box h14 ap8
   have ap9 := w5.vec h15
   have h20 := u5.vec h15 ap9
   refine Opl.app (M := (cInt .i64)) (xs := x8_1) (ys := [(rd l1 x9_1)]) (v := pv5) h20 (.vec h17) (oInt .i64) rfl rfl K27 T3 rfl rfl (by (try simp only [List.length_cons, List.length_nil]); omega) (by show (_ + _) * 8 ≤ 140737488355328; (try simp only [List.length_cons, List.length_nil]); omega) rfl rfl rfl rfl rfl ?_
   rintro pv7 S h21 u6 w6
   have ap10 := w6.box h18
   have h22 := u6.box h18 ap5
   have ap11 := w6.box h19
   have h23 := u6.box h19 ap6
   have ap12 := w6.vec h17
   have h24 := u6.vec h17 ap9.symm
   refine Opl.p1 (n := Opl.nil (Evr.inBlock (Evr.regionN rfl (Opl.p1 (n := Opl.add (k := .i64) (a := x9_1) (b := 1) K3 rfl rfl rfl rfl (Opl.one (v := .lit (.int .i64 (wrap64 (x9_1 + 1)))) rfl rfl rfl (Opl.nil ?_)))))))
   exact ih1 _ (by omega) _ _ ⟨by omega, _, _, _, _, _, H, ⟨rfl, rfl, rfl, rfl, rfl, trivial⟩, h22, h23, h21, ap4, ap10, ap11⟩
  rw [if_neg c4] at H
  have e4 : (decide (x9_1 < (l1.length : Int))) = false := by simpa using c4
  try rw [e4]
  refine Evr.condF rfl (Evr.exit rfl (Evr.seq (Evr.sr rfl (Opl.p1 (n := Opl.nil (Evr.block ?_))))))
  refine Evr.loop (Evr.rounds (n := n1) (Inv := fun n tm S => n ≤ n1 ∧ ∃ (x8_2 : List Int) (x10_1 : Int) (i5 : Abs.Id) (i6 : Abs.Id) (pv8 : PV), spec_l2Use.l1 n l1 x8_2 x10_1 l0_0 l0_1 ((rd_IRule l0_1 a2).f0) ((rd_IRule l0_1 a2).f1) ((rd_IRule l0_1 a2).f2) = some r ∧ Has tm [(1, v1), (3, .ptr i5 0), (7, .ptr i6 0), (8, pv8), (10, .lit (.int .i64 x10_1))] ∧ Box (.ptr i5 0) [v0_0, v0_1] S ∧ Box (.ptr i6 0) [pv1, pv2, pv3] S ∧ Vec (cInt .i64) x8_2 pv8 S ∧ Ap (.ptr i5 0) (.ptr i6 0) ∧ Ap (.ptr i5 0) pv8 ∧ Ap (.ptr i6 0) pv8) ?_ ?_ ?_)
  · exact ⟨Nat.le_refl _, _, _, _, _, _, H, ⟨rfl, rfl, rfl, rfl, rfl, trivial⟩, h13, h14, h15, ap4, ap5, ap6⟩
  ·
   rintro tm S ⟨_, _, _, _, _, _, H, -⟩
   simp [spec_l2Use.l1] at H
  ·
   rintro n2 ih2 tm S ⟨hle, x8_2, x10_1, i5, i6, pv8, H, hh, h25, h26, h27, ap13, ap14, ap15⟩
   simp only [spec_l2Use.l1] at H
   rw [hh.eq]
   refine Evr.seq (Evr.sr rfl (Opl.p1 (n := Opl.p1 (v := .ptr i6 1) (n := Opl.ldb (v := pv2) h26 rfl T27 rfl rfl rfl rfl (Opl.len (xs := ((rd_IRule l0_1 a2).f1)) (by exact h4) K27 rfl rfl rfl rfl (Opl.p1 (n := Opl.nil ?_)))))))
   by_cases c7 : x10_1 < (((rd_IRule l0_1 a2).f1).length : Int)
   case neg =>
    rw [if_neg c7] at H
    have e6 : (decide (x10_1 < (((rd_IRule l0_1 a2).f1).length : Int))) = false := by simpa using c7
    try rw [e6]
    refine Evr.condF rfl (Evr.exit rfl (Evr.seq (Evr.sr rfl (Opl.ldb (v := .agg [v0_0, v0_1]) h25 rfl T26 rfl rfl rfl rfl (Opl.p1 (n := ?_))))))
    obtain ⟨t996, h_t996, H⟩ := Option.bind_eq_some_iff.1 H
    obtain ⟨pv10, h36, -, h37⟩ := Out.vec h27
    refine Opl.callw (spec_l2In.ev hv0_0 hv0_1 h37 h_t996) rfl rfl rfl (.cons (.refl _) (.cons h36 .nil)) ⟨(.aggL ⟨hv0_0.plain, hv0_1.plain, trivial⟩), h37.plain, trivial⟩ (by decide) (Opl.p1 (n := Opl.nil ?_))
    by_cases c12 : t996 = true
    case neg =>
     rw [if_neg c12] at H
     have e8 : (!t996) = true := by simpa using c12
     try rw [e8]
     refine Evr.condT rfl (Evr.sr rfl (Opl.p1 (n := Opl.nil ?_)))
     obtain rfl := Option.some.inj H
     refine Evr.ret1 Try.func97 rfl ?_
     show Vec _ _ (.lit (.slice none 0 0)) _
     exact .nil
    rw [if_pos c12] at H
    have e7 : (!t996) = false := by simpa using c12
    try rw [e7]
    refine Evr.condF rfl (Evr.skip (Evr.sr rfl (Opl.p1 (n := Opl.p1 (n := Opl.nil ?_)))))
    obtain rfl := Option.some.inj H
    refine Evr.ret1 Try.func97 rfl ?_
    show Vec _ _ pv8 _
    exact h27
   rw [if_pos c7] at H
   have e5 : (decide (x10_1 < (((rd_IRule l0_1 a2).f1).length : Int))) = true := by simpa using c7
   try rw [e5]
   refine Evr.condT rfl (Evr.skip (Evr.seq (Evr.block (Evr.regionD rfl (by kernel_rfl) (Opl.p1 (n := Opl.p1 (v := .ptr i6 1) (n := Opl.ldb (v := pv2) h26 rfl T27 rfl rfl rfl rfl (Opl.p1 (n := ?_)))))))))
   obtain ⟨c8, H⟩ := peel H
   obtain ⟨c9, H⟩ := peel H
   refine Opl.idx (M := (cInt .i64)) (xs := ((rd_IRule l0_1 a2).f1)) (j := x10_1) (0 : Int) (by exact h4) rfl (by omega) (by omega) K27 Z3 rfl rfl ?_
   rintro p3 q3 h28
   obtain rfl : p3 = [.lit (.int .i64 (rd ((rd_IRule l0_1 a2).f1) x10_1))] := h28
   refine Opl.lda (.lit (.int .i64 (rd ((rd_IRule l0_1 a2).f1) x10_1))) rfl T3 rfl rfl rfl rfl (Opl.p1 (v := .ptr i6 2) (n := Opl.ldb (v := pv3) h26 rfl T104 rfl rfl rfl rfl (Opl.p1 (n := Opl.idx (M := (cSl cITerm)) (xs := ((rd_IRule l0_1 a2).f2)) (j := x10_1) ([] : List ITerm) (by exact h5) rfl (by omega) (by omega) K104 Z66 rfl rfl ?_))))
   rintro p4 q4 h29
   obtain ⟨pv9, rfl, h30⟩ := h29
   refine Opl.lda (pv9) rfl T66 rfl rfl rfl rfl (Opl.p1 (n := ?_))
   obtain ⟨t994, h_t994, H⟩ := Option.bind_eq_some_iff.1 H
   refine Opl.callc (spec_l2Last.ev h30 hv1 h_t994) rfl rfl rfl rfl ⟨h30.plain, hv1.plain, trivial⟩ (by decide) ?_
   obtain ⟨c10, H⟩ := peel H
   obtain ⟨c11, H⟩ := peel H
   refine Opl.idv (M := (cInt .i64)) (xs := x8_2) (j := (rd ((rd_IRule l0_1 a2).f1) x10_1)) (v := pv8) h27 rfl rfl (by omega) (by omega) K27 Z3 rfl rfl ?_
   rintro d1 z1 q5 h31 h32
   refine Opl.stv (M := (cInt .i64)) (xs := x8_2) (j := (rd ((rd_IRule l0_1 a2).f1) x10_1)) (y := t994) (vs := [.lit (.int .i64 t994)]) h31 h32 (by omega) (by omega) rfl rfl (by exact rfl) Z3 rfl rfl rfl rfl ?_
   rw [← q5]
   rintro S h33 u7
   have h34 := u7.box h25 ap14
   have h35 := u7.box h26 ap15
   refine Opl.nil (Evr.inBlock (Evr.regionN rfl (Opl.p1 (n := Opl.add (k := .i64) (a := x10_1) (b := 1) K3 rfl rfl rfl rfl (Opl.one (v := .lit (.int .i64 (wrap64 (x10_1 + 1)))) rfl rfl rfl (Opl.nil ?_))))))
   exact ih2 _ (by omega) _ _ ⟨by omega, _, _, _, _, _, H, ⟨rfl, rfl, rfl, rfl, rfl, trivial⟩, h34, h35, h33, ap13, ap14, ap15⟩
theorem spec_Replay.ev {k : Nat} {l0_0 : List IVar} {v0_0 : PV} (hv0_0 : Sl cIVar l0_0 v0_0) {l0_1 : List IRule} {v0_1 : PV} (hv0_1 : Sl cIRule l0_1 v0_1) {l1 : List Int} {v1 : PV} (hv1 : Sl (cInt .i64) l1 v1) {r : (List (List Int) × List Int) × Int} (H : spec_Replay.f k l0_0 l0_1 l1 = some r) : Ret Try.prog 34 [.agg [v0_0, v0_1], v1] fun v S => Out (fun q => ∃ q1 q2, q = .tup [q1, q2] ∧ (∃ q11 q12, q1 = .agg [q11, q12] ∧ Sl (cSl (cInt .i64)) r.1.1 q11 ∧ Sl (cInt .i64) r.1.2 q12) ∧ q2 = .lit (.int .i64 r.2)) v S := by
 unfold spec_Replay.f at H
 refine Ret.intro Try.func34 rfl (Nat.le_of_ble_eq_true rfl) rfl ?_
 rw [tm2]
 refine Evr.sr rfl (Opl.box (cs := [v0_0, v0_1]) rfl rfl rfl rfl ?_)
 rintro i1 S h1 u1 w1
 refine Opl.alloc T42 rfl rfl rfl ?_
 rintro i2 S h2 u2 w2
 have ap1 := w2.box h1
 have h3 := u2.box h1 ap1
 refine Opl.p1 (n := Opl.nil (Evr.seq (Evr.sr rfl (Opl.ldb (v := .agg [v0_0, v0_1]) h3 rfl T26 rfl rfl rfl rfl ?_))))
 obtain ⟨r1, h_r1, H⟩ := Option.bind_eq_some_iff.1 H
 refine Opl.callc (spec_SystemValid.ev hv0_0 hv0_1 h_r1) rfl rfl rfl rfl ⟨(.aggL ⟨hv0_0.plain, hv0_1.plain, trivial⟩), trivial⟩ (by decide) (Opl.p1 (n := Opl.p1 (n := ?_)))
 by_cases c1 : r1 = true
 case neg =>
  rw [if_neg c1] at H
  have e10 : (!r1) = true := by simpa using c1
  try rw [e10]
  refine Opl.skp rfl (Opl.skp rfl (Opl.skp rfl (Opl.p1 (n := Opl.nil (Evr.condT rfl (Evr.sr rfl (Opl.p1 (v := .agg [.lit (.slice none 0 0), .lit (.slice none 0 0)]) (n := Opl.stb (vs := [.lit (.slice none 0 0), .lit (.slice none 0 0)]) h2 rfl rfl Z42 rfl (Nat.le_of_ble_eq_true rfl) rfl rfl rfl rfl ?_))))))))
  rintro S (h101 : Box (.ptr i2 0) [.lit (.slice none 0 0), .lit (.slice none 0 0)] _) u26
  have h102 := u26.box h3 ap1
  refine Opl.p1 (n := Opl.nil ?_)
  obtain rfl := Option.some.inj H
  refine Evr.ret_ct (v0 := .agg [.lit (.slice none 0 0), .lit (.slice none 0 0)]) Try.func34 rfl h101 rfl T42 rfl ?_
  show Out _ (.tup [.agg [.lit (.slice none 0 0), .lit (.slice none 0 0)], .lit (.int .i64 0)]) _
  exact .tup2 (.agg2 (.sl .nil) (.sl .nil)) .lit
 rw [if_pos c1] at H
 have e1 : (!r1) = false := by simpa using c1
 try rw [e1]
 refine Opl.p1 (n := Opl.len (xs := l1) (by exact hv1) K27 rfl rfl rfl rfl (Opl.p1 (n := Opl.p1 (n := Opl.nil ?_))))
 by_cases c2 : (l1.length : Int) ≥ 500
 case pos =>
  rw [if_pos c2] at H
  have e2 : (decide ((l1.length : Int) ≥ 500)) = true := by simpa using c2
  try rw [e2]
  refine Evr.condT rfl (Evr.sr rfl (Opl.p1 (v := .agg [.lit (.slice none 0 0), .lit (.slice none 0 0)]) (n := Opl.stb (vs := [.lit (.slice none 0 0), .lit (.slice none 0 0)]) h2 rfl rfl Z42 rfl (Nat.le_of_ble_eq_true rfl) rfl rfl rfl rfl ?_)))
  rintro S (h4 : Box (.ptr i2 0) [.lit (.slice none 0 0), .lit (.slice none 0 0)] _) u3
  have h5 := u3.box h3 ap1
  refine Opl.p1 (n := Opl.nil ?_)
  obtain rfl := Option.some.inj H
  refine Evr.ret_ct (v0 := .agg [.lit (.slice none 0 0), .lit (.slice none 0 0)]) Try.func34 rfl h4 rfl T42 rfl ?_
  show Out _ (.tup [.agg [.lit (.slice none 0 0), .lit (.slice none 0 0)], .lit (.int .i64 0)]) _
  exact .tup2 (.agg2 (.sl .nil) (.sl .nil)) .lit
 rw [if_neg c2] at H
 have e3 : (decide ((l1.length : Int) ≥ 500)) = false := by simpa using c2
 try rw [e3]
 refine Evr.condF rfl (Evr.skip (Evr.sr rfl (Opl.ldb (v := .agg [v0_0, v0_1]) h3 rfl T26 rfl rfl rfl rfl ?_)))
 obtain ⟨r2, h_r2, H⟩ := Option.bind_eq_some_iff.1 H
 refine Opl.call ((spec_FirstState.ev hv0_0 hv0_1 h_r2).mono fun _ _ h => Out.vec h) rfl rfl rfl rfl ⟨(.aggL ⟨hv0_0.plain, hv0_1.plain, trivial⟩), trivial⟩ (by decide) ?_
 rintro pv1 h6
 refine Opl.lits (M := (cSl (cInt .i64))) (ys := [r2]) [.tmp 19] K30 T27 rfl rfl rfl (by exact ⟨⟨_, by first | rfl | exact h6.cells, h6⟩, trivial⟩) rfl (by decide) rfl rfl rfl ?_
 rintro pv2 S h7 u4 w4
 have ap2 := w4.box h3
 have h8 := u4.box h3 ap2
 have ap3 := w4.box h2
 have h9 := u4.box h2 ap3
 refine Opl.one (v := .agg [pv2, .lit (.slice none 0 0)]) rfl rfl (by simp only [go_sem]; simp only [fillL, Vec.cells h7]; rfl) (Opl.alloc T42 rfl rfl rfl ?_)
 rintro i3 S h10 u5 w5
 have ap4 := w5.box h8
 have h11 := u5.box h8 ap4
 have ap5 := w5.box h9
 have h12 := u5.box h9 ap5
 have ap6 := w5.vec h7
 have h13 := u5.vec h7 ap6
 refine Opl.stb (vs := [pv2, .lit (.slice none 0 0)]) h10 rfl rfl Z42 rfl (Nat.le_of_ble_eq_true rfl) (by simp only [List.all_cons, List.all_nil, Vec.one h13, Bool.and_true, Bool.true_and] <;> rfl) rfl rfl rfl ?_
 rintro S (h14 : Box (.ptr i3 0) [pv2, .lit (.slice none 0 0)] _) u6
 have h15 := u6.box h11 ap4
 have h16 := u6.box h12 ap5
 have h17 := u6.vec h13 ap6
 refine Opl.nil (Evr.seq (Evr.sr rfl (Opl.p1 (n := Opl.nil (Evr.block ?_)))))
 refine Evr.loop (Evr.rounds (n := k) (Inv := fun n tm S => n ≤ k ∧ ∃ (x6b0_1 : List (List Int)) (x6b1_1 : List Int) (x7_1 : Int) (i4 : Abs.Id) (i5 : Abs.Id) (pv3 : PV) (pv4 : PV) (i6 : Abs.Id), spec_Replay.l1 n x6b0_1 x6b1_1 x7_1 l0_0 l0_1 l1 = some r ∧ Has tm [(1, v1), (2, .ptr i4 0), (4, .ptr i5 0), (6, .ptr i6 0), (7, .lit (.int .i64 x7_1))] ∧ Box (.ptr i4 0) [v0_0, v0_1] S ∧ Box (.ptr i5 0) [.lit (.slice none 0 0), .lit (.slice none 0 0)] S ∧ Vec (cSl (cInt .i64)) x6b0_1 pv3 S ∧ Vec (cInt .i64) x6b1_1 pv4 S ∧ Box (.ptr i6 0) [pv3, pv4] S ∧ Ap (.ptr i4 0) (.ptr i5 0) ∧ Ap (.ptr i4 0) pv3 ∧ Ap (.ptr i4 0) pv4 ∧ Ap (.ptr i4 0) (.ptr i6 0) ∧ Ap (.ptr i5 0) pv3 ∧ Ap (.ptr i5 0) pv4 ∧ Ap (.ptr i5 0) (.ptr i6 0) ∧ Ap pv3 pv4 ∧ Ap pv3 (.ptr i6 0) ∧ Ap pv4 (.ptr i6 0)) ?_ ?_ ?_)
 · exact ⟨Nat.le_refl _, _, _, _, _, _, _, _, _, H, ⟨rfl, rfl, rfl, rfl, rfl, trivial⟩, h15, h16, h17, .nil, h14, ap1, ap2, Ap.nil.symm, ap4, ap3, Ap.nil.symm, ap5, Ap.nil.symm, ap6, .nil⟩
 ·
  rintro tm S ⟨_, _, _, _, _, _, _, _, _, H, -⟩
  simp [spec_Replay.l1] at H
 ·
  rintro n1 ih1 tm S ⟨hle, x6b0_1, x6b1_1, x7_1, i4, i5, pv3, pv4, i6, H, hh, h18, h19, h21, h22, h20, ap7, ap8, ap9, ap10, ap11, ap12, ap13, ap14, ap15, ap16⟩
  simp only [spec_Replay.l1] at H
  rw [hh.eq]
  refine Evr.seq (Evr.sr rfl (Opl.p1 (n := Opl.p1 (n := Opl.len (xs := l1) (by exact hv1) K27 rfl rfl rfl rfl (Opl.p1 (n := Opl.nil ?_))))))
  by_cases c3 : x7_1 < (l1.length : Int)
  case neg =>
   rw [if_neg c3] at H
   have e9 : (decide (x7_1 < (l1.length : Int))) = false := by simpa using c3
   try rw [e9]
   refine Evr.condF rfl (Evr.exit rfl (Evr.seq (Evr.frzc [] [pv4] h20 h21 ap15 ?_)))
   rintro pv17 S1_ S h85 u21 u22 h86
   have h87 := u22.box (u21.box h18 ap8) ap10
   have h88 := u22.box (u21.box h19 ap11) ap13
   have h89 := u22.vec (u21.vec h22 ap14.symm) ap16
   have h90 : Sl (cSl (cInt .i64)) x6b0_1 pv17 := h85
   have h91 : Box (.ptr i6 0) [pv17, pv4] S := h86
   refine Evr.frzc [pv17] [] h91 h89 ap16 ?_
   rintro pv18 S1_ S h92 u23 u24 h93
   have h94 := u24.box (u23.box h87 ap9) ap10
   have h95 := u24.box (u23.box h88 ap12) ap13
   have h96 : Sl (cInt .i64) x6b1_1 pv18 := h92
   have h97 : Box (.ptr i6 0) [pv17, pv18] S := h93
   refine Evr.regionN rfl (Opl.ldb (v := .agg [pv17, pv18]) h97 rfl T42 rfl rfl rfl rfl (Opl.p1 (n := Opl.len (xs := l1) (by exact hv1) K27 rfl rfl rfl rfl (Opl.stb (vs := [pv17, pv18]) h95 rfl rfl Z42 rfl (Nat.le_of_ble_eq_true rfl) (by simp only [List.all_cons, List.all_nil, h90.one, h96.one, Bool.and_true, Bool.true_and] <;> rfl) rfl rfl rfl ?_))))
   rintro S (h98 : Box (.ptr i5 0) [pv17, pv18] _) u25
   have h99 := u25.box h94 ap7
   have h100 := u25.box h97 ap13.symm
   refine Opl.p1 (n := Opl.nil ?_)
   obtain rfl := Option.some.inj H
   refine Evr.ret_ct (v0 := .agg [pv17, pv18]) Try.func34 rfl h98 rfl T42 rfl ?_
   show Out _ (.tup [.agg [pv17, pv18], .lit (.int .i64 (l1.length : Int))]) _
   exact .tup2 (.agg2 (.sl h90) (.sl h96)) .lit
  rw [if_pos c3] at H
  have e4 : (decide (x7_1 < (l1.length : Int))) = true := by simpa using c3
  try rw [e4]
  refine Evr.condT rfl (Evr.skip (Evr.seq (Evr.block (Evr.seq (Evr.seq (Evr.regionD rfl (by kernel_rfl) (Opl.p1 (n := Opl.p1 (n := ?_)))))))))
  obtain ⟨c4, H⟩ := peel H
  obtain ⟨c5, H⟩ := peel H
  refine Opl.idx (M := (cInt .i64)) (xs := l1) (j := x7_1) (0 : Int) (by exact hv1) rfl (by omega) (by omega) K27 Z3 rfl rfl ?_
  rintro p1 q1 h23
  obtain rfl : p1 = [.lit (.int .i64 (rd l1 x7_1))] := h23
  refine Opl.lda (.lit (.int .i64 (rd l1 x7_1))) rfl T3 rfl rfl rfl rfl (Opl.p1 (v := .ptr i4 1) (n := Opl.ldb (v := v0_1) h18 rfl T24 rfl rfl rfl rfl (Opl.len (xs := l0_1) (by exact hv0_1) K24 rfl rfl rfl rfl (Opl.subi (k := .i64) (a := (l0_1.length : Int)) (b := 1) K3 rfl rfl rfl rfl ?_))))
  obtain ⟨r3, h_r3, H⟩ := Option.bind_eq_some_iff.1 H
  refine Opl.callc (spec_l1In.ev h_r3) rfl rfl rfl rfl ⟨(.lit _), (.lit _), (.lit _), trivial⟩ (by decide) (Opl.p1 (n := Opl.nil ?_))
  by_cases c6 : r3 = true
  case neg =>
   rw [if_neg c6] at H
   have e8 : (!r3) = true := by simpa using c6
   try rw [e8]
   refine Evr.condT rfl (Evr.seq (Evr.frzc [] [pv4] h20 h21 ap15 ?_))
   rintro pv15 S1_ S h69 u16 u17 h70
   have h71 := u17.box (u16.box h18 ap8) ap10
   have h72 := u17.box (u16.box h19 ap11) ap13
   have h73 := u17.vec (u16.vec h22 ap14.symm) ap16
   have h74 : Sl (cSl (cInt .i64)) x6b0_1 pv15 := h69
   have h75 : Box (.ptr i6 0) [pv15, pv4] S := h70
   refine Evr.frzc [pv15] [] h75 h73 ap16 ?_
   rintro pv16 S1_ S h76 u18 u19 h77
   have h78 := u19.box (u18.box h71 ap9) ap10
   have h79 := u19.box (u18.box h72 ap12) ap13
   have h80 : Sl (cInt .i64) x6b1_1 pv16 := h76
   have h81 : Box (.ptr i6 0) [pv15, pv16] S := h77
   refine Evr.regionN rfl (Opl.ldb (v := .agg [pv15, pv16]) h81 rfl T42 rfl rfl rfl rfl (Opl.one (v := .lit (.int .i64 x7_1)) rfl rfl rfl (Opl.stb (vs := [pv15, pv16]) h79 rfl rfl Z42 rfl (Nat.le_of_ble_eq_true rfl) (by simp only [List.all_cons, List.all_nil, h74.one, h80.one, Bool.and_true, Bool.true_and] <;> rfl) rfl rfl rfl ?_)))
   rintro S (h82 : Box (.ptr i5 0) [pv15, pv16] _) u20
   have h83 := u20.box h78 ap7
   have h84 := u20.box h81 ap13.symm
   refine Opl.one (v := .lit (.int .i64 x7_1)) rfl rfl rfl (Opl.nil ?_)
   obtain rfl := Option.some.inj H
   refine Evr.ret_ct (v0 := .agg [pv15, pv16]) Try.func34 rfl h82 rfl T42 rfl ?_
   show Out _ (.tup [.agg [pv15, pv16], .lit (.int .i64 x7_1)]) _
   exact .tup2 (.agg2 (.sl h74) (.sl h80)) .lit
  rw [if_pos c6] at H
  have e5 : (!r3) = false := by simpa using c6
  try rw [e5]
  refine Evr.condF rfl (Evr.skip (Evr.seq (Evr.regionD rfl (by kernel_rfl) (Opl.ldb (v := .agg [v0_0, v0_1]) h18 rfl T26 rfl rfl rfl rfl (Opl.p1 (v := .ptr i6 0) (n := Opl.ldb (v := pv3) h20 rfl T30 rfl rfl rfl rfl (Opl.one (v := .lit (.int .i64 x7_1)) rfl rfl rfl ?_)))))))
  obtain ⟨c7, H⟩ := peel H
  obtain ⟨c8, H⟩ := peel H
  obtain ⟨c9, H⟩ := peel H
  obtain ⟨c10, H⟩ := peel H
  refine Opl.idv (M := (cSl (cInt .i64))) (xs := x6b0_1) (j := x7_1) (v := pv3) h21 rfl rfl (by omega) (by omega) K30 Z27 rfl rfl ?_
  rintro d1 z1 q2 h24 h25
  refine Opl.ldv (M := (cSl (cInt .i64))) (xs := x6b0_1) (j := x7_1) ([] : List Int) h24 h25 (by omega) (by omega) rfl T27 rfl rfl rfl ?_
  rintro p2 q3 h26
  obtain ⟨pv5, rfl, h27⟩ := h26
  refine ⟨pv5, rfl, ?_⟩
  refine Opl.one (v := v1) rfl rfl rfl (Opl.one (v := .lit (.int .i64 x7_1)) rfl rfl rfl (Opl.idx (M := (cInt .i64)) (xs := l1) (j := x7_1) (0 : Int) (by exact hv1) rfl (by omega) (by omega) K27 Z3 rfl rfl ?_))
  rintro p3 q4 h28
  obtain rfl : p3 = [.lit (.int .i64 (rd l1 x7_1))] := h28
  refine Opl.lda (.lit (.int .i64 (rd l1 x7_1))) rfl T3 rfl rfl rfl rfl ?_
  obtain ⟨r4, h_r4, H⟩ := Option.bind_eq_some_iff.1 H
  refine Opl.call ((spec_l2Use.ev hv0_0 hv0_1 h27 h_r4).mono fun _ _ h => Out.vec h) rfl rfl rfl rfl ⟨(.aggL ⟨hv0_0.plain, hv0_1.plain, trivial⟩), h27.plain, (.lit _), trivial⟩ (by decide) ?_
  rintro pv6 h29
  refine Opl.one (v := pv6) rfl rfl rfl (Opl.nil (Evr.seq (Evr.sr rfl (Opl.one (v := pv6) rfl rfl rfl (Opl.len (xs := r4) (by exact h29) K27 rfl rfl rfl rfl (Opl.p1 (n := Opl.nil ?_)))))))
  by_cases c11 : (r4.length : Int) = 0
  case pos =>
   rw [if_pos c11] at H
   have e6 : ((r4.length : Int) == 0) = true := by simpa using c11
   try rw [e6]
   refine Evr.condT rfl (Evr.seq (Evr.frzc [] [pv4] h20 h21 ap15 ?_))
   rintro pv7 S1_ S h30 u7 u8 h31
   have h32 := u8.box (u7.box h18 ap8) ap10
   have h33 := u8.box (u7.box h19 ap11) ap13
   have h34 := u8.vec (u7.vec h22 ap14.symm) ap16
   have h35 : Sl (cSl (cInt .i64)) x6b0_1 pv7 := h30
   have h36 : Box (.ptr i6 0) [pv7, pv4] S := h31
   refine Evr.frzc [pv7] [] h36 h34 ap16 ?_
   rintro pv8 S1_ S h37 u9 u10 h38
   have h39 := u10.box (u9.box h32 ap9) ap10
   have h40 := u10.box (u9.box h33 ap12) ap13
   have h41 : Sl (cInt .i64) x6b1_1 pv8 := h37
   have h42 : Box (.ptr i6 0) [pv7, pv8] S := h38
   refine Evr.regionN rfl (Opl.ldb (v := .agg [pv7, pv8]) h42 rfl T42 rfl rfl rfl rfl (Opl.one (v := .lit (.int .i64 x7_1)) rfl rfl rfl (Opl.stb (vs := [pv7, pv8]) h40 rfl rfl Z42 rfl (Nat.le_of_ble_eq_true rfl) (by simp only [List.all_cons, List.all_nil, h35.one, h41.one, Bool.and_true, Bool.true_and] <;> rfl) rfl rfl rfl ?_)))
   rintro S (h43 : Box (.ptr i5 0) [pv7, pv8] _) u11
   have h44 := u11.box h39 ap7
   have h45 := u11.box h42 ap13.symm
   refine Opl.one (v := .lit (.int .i64 x7_1)) rfl rfl rfl (Opl.nil ?_)
   obtain rfl := Option.some.inj H
   refine Evr.ret_ct (v0 := .agg [pv7, pv8]) Try.func34 rfl h43 rfl T42 rfl ?_
   show Out _ (.tup [.agg [pv7, pv8], .lit (.int .i64 x7_1)]) _
   exact .tup2 (.agg2 (.sl h35) (.sl h41)) .lit
  rw [if_neg c11] at H
  have e7 : ((r4.length : Int) == 0) = false := by simpa using c11
  try rw [e7]
  refine Evr.condF rfl (Evr.skip (Evr.sr rfl (Opl.p1 (v := .ptr i6 0) (n := Opl.ldb (v := pv3) h20 rfl T30 rfl rfl rfl rfl (Opl.one (v := pv6) rfl rfl rfl (Opl.liti (M := (cSl (cInt .i64))) (ys := [r4]) [.tmp 58] K30 T27 rfl rfl rfl (by exact ⟨⟨_, by first | rfl | exact h29.cells, h29⟩, trivial⟩) rfl (by decide) rfl rfl ?_))))))
  rintro pv10 h46
  obtain ⟨c12, H⟩ := peel H
  obtain ⟨c13, H⟩ := peel H
  obtain ⟨c14, H⟩ := peel H
  obtain ⟨c15, H⟩ := peel H
  refine Opl.app (M := (cSl (cInt .i64))) (xs := x6b0_1) (ys := [r4]) (v := pv3) h21 (.sl h46) (oSl (cInt .i64)) rfl rfl K30 T27 rfl rfl (by (try simp only [List.length_cons, List.length_nil]); omega) (by show (_ + _) * 24 ≤ 140737488355328; (try simp only [List.length_cons, List.length_nil]); omega) rfl rfl rfl rfl rfl ?_
  rintro pv11 S h47 u12 w8
  have ap17 := w8.box h18
  have h48 := u12.box h18 ap8
  have ap18 := w8.box h19
  have h49 := u12.box h19 ap11
  have ap19 := w8.vec h22
  have h50 := u12.vec h22 ap14.symm
  have ap20 := w8.box h20
  have h51 := u12.box h20 ap15.symm
  refine Opl.p1 (v := .ptr i6 0) (n := Opl.stb (vs := [pv11]) h51 rfl (by exact Vec.cells h47) Z30 rfl (Nat.le_of_ble_eq_true rfl) (by simp only [List.all_cons, List.all_nil, Vec.one h47, Bool.and_true, Bool.true_and] <;> rfl) rfl rfl rfl ?_)
  rintro S (h52 : Box (.ptr i6 0) [pv11, pv4] _) u13
  have h53 := u13.box h48 ap10
  have h54 := u13.box h49 ap13
  have h55 := u13.vec h50 ap16
  have h56 := u13.vec h47 ap20.symm
  refine Opl.nil (Evr.regionL [(5, .p), (6, .p), (1, .q), (7, .m)] rfl (by kernel_rfl) (Opl.p1 (v := .ptr i6 1) (n := Opl.ldbk (v := pv4) h52 (rd_vec h55) rfl T27 rfl rfl rfl rfl (Opl.one (v := v1) rfl rfl rfl (Opl.one (v := .lit (.int .i64 x7_1)) rfl rfl rfl (Opl.idx (M := (cInt .i64)) (xs := l1) (j := x7_1) (0 : Int) (by exact hv1) rfl (by omega) (by omega) K27 Z3 rfl rfl ?_))))))
  rintro p4 q5 h57
  obtain rfl : p4 = [.lit (.int .i64 (rd l1 x7_1))] := h57
  refine Opl.ldp (.lit (.int .i64 (rd l1 x7_1))) rfl T3 rfl rfl rfl (Opl.liti (M := (cInt .i64)) (ys := [(rd l1 x7_1)]) [.tmp 67] K27 T3 rfl rfl rfl (by exact ⟨rfl, trivial⟩) rfl (by decide) rfl rfl ?_)
  rintro pv13 h58
  refine Opl.appm rfl (M := (cInt .i64)) (xs := x6b1_1) (ys := [(rd l1 x7_1)]) (v := pv4) h55 (.sl h58) (oInt .i64) rfl rfl K27 T3 rfl rfl (by (try simp only [List.length_cons, List.length_nil]); omega) (by show (_ + _) * 8 ≤ 140737488355328; (try simp only [List.length_cons, List.length_nil]); omega) rfl rfl rfl rfl rfl ?_
  rintro pv14 S h59 u14 w10
  have ap21 := w10.box h53
  have h60 := u14.box h53 ap9
  have ap22 := w10.box h54
  have h61 := u14.box h54 ap12
  have ap23 := w10.box h52
  have h62 := u14.box h52 ap16.symm
  have ap24 := w10.vec h56
  have h63 := u14.vec h56 ap19.symm
  refine Opl.p1 (v := .ptr i6 1) (n := Opl.stb (vs := [pv14]) h62 rfl (by exact Vec.cells h59) Z27 rfl (Nat.le_of_ble_eq_true rfl) (by simp only [List.all_cons, List.all_nil, Vec.one h59, Bool.and_true, Bool.true_and] <;> rfl) rfl rfl rfl ?_)
  rintro S (h64 : Box (.ptr i6 0) [pv11, pv14] _) u15
  have h65 := u15.box h60 ap10
  have h66 := u15.box h61 ap13
  have h67 := u15.vec h63 ap20.symm
  have h68 := u15.vec h59 ap23.symm
  refine Opl.nil (Evr.inBlock (Evr.regionN rfl (Opl.one (v := .lit (.int .i64 x7_1)) rfl rfl rfl (Opl.add (k := .i64) (a := x7_1) (b := 1) K3 rfl rfl rfl rfl (Opl.one (v := .lit (.int .i64 (wrap64 (x7_1 + 1)))) rfl rfl rfl (Opl.nil ?_))))))
  exact ih1 _ (by omega) _ _ ⟨by omega, _, _, _, _, _, _, _, _, H, ⟨rfl, rfl, rfl, rfl, rfl, trivial⟩, h65, h66, h67, h68, h64, ap7, ap17, ap21, ap10, ap18, ap22, ap13, ap24, ap20.symm, ap23.symm⟩
end Go.Proofs.Ytpjmiaooogephaa.PA
