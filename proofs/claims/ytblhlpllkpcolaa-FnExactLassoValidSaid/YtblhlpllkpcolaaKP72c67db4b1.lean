/- Walks of Go functions: each is shown to answer as the Lean function beside it tells, under the conditions that its theorem names. -/
import Derived.Test.YtblhlpllkpcolaaProg
import Derived.KernelRfl
import Derived.Below
import Derived.Deep.Draws
import Derived.Deep.AppendLies
import Derived.Maps.AppendAt
import Derived.OwnWalk
import Derived.Laws.BytesArg
import Derived.Laws.MakeOwn
import Derived.Laws.OwnMore
import Derived.Deep.OwnRows
import Derived.Tactics
import Derived.Lib.ConvBytes
import Derived.Laws.Slices
import Derived.WalkKit
import Derived.RowKit3
import Derived.Deep.LoopGhost
import Derived.Deep.QuietTactic
import Derived.BigQuiet
import Derived.WideLaws
import Derived.Deep.DeepCutAuto
import Derived.Deep.CutBlock
import Derived.Deep.RegionHeld3
import Derived.Laws.Rows
import Derived.Lib.AppendStr
import Derived.ArgAppend
import Derived.Laws.IdiomCopy
import Derived.OrdersHeld
import Derived.Laws.BitsLemmas
import Derived.RowKit
import Derived.Laws.StructEq
import Derived.Lib.SliceRun
import Derived.WalkSpells
import Derived.ChangeArms
import Derived.ChangeSlices
import Derived.Deep.Slices
import Derived.Attr
import Derived.Laws.Append
import Derived.Laws.AppendOwn
import Derived.Laws.Entries
import Derived.Calls
import Derived.Laws.Sem
import Derived.Test.YtblhlpllkpcolaaKPe4039f6b44
namespace Go.Proofs.Ytblhlpllkpcolaa.PA
open Go Go.Abs Go.RowKit Go.Proofs Go.Proofs.YtblhlpllkpcolaaW.PrintWords Go.Proofs.YtblhlpllkpcolaaW.PrintLast Go.Proofs.YtblhlpllkpcolaaW.PrintMore
set_option maxRecDepth 100000
set_option maxHeartbeats 4000000
set_option linter.unusedVariables false
set_option linter.unusedSimpArgs false
theorem spec_l1In.ev {a0 : Int} {a1 : Int} {a2 : Int} {r : Bool} (H : spec_l1In.f a0 a1 a2 = some r) : Ret Try.prog 76 [.lit (.int .i64 a0), .lit (.int .i64 a1), .lit (.int .i64 a2)] fun v S => v = .lit (.bool r) := by
 unfold spec_l1In.f at H
 refine Ret.intro Try.func76 rfl (Nat.le_of_ble_eq_true rfl) rfl ?_
 rw [tm3]
 refine Evr.seq (Evr.regionN rfl (Opl.one rfl rfl (by simp only [go_sem]; rfl) (Opl.nil (Evr.seq (Evr.regionN rfl (Opl.one rfl rfl (by simp only [go_sem]; rfl) (Opl.one rfl rfl (by simp only [go_sem]; rfl) (Opl.one rfl rfl (by simp only [go_sem]; rfl) (Opl.one rfl rfl (by simp only [go_sem]; rfl) ?_)))))))))
 by_cases c1 : a0 ≥ a1
 case neg =>
  rw [if_neg c1] at H
  have e2 : (decide (a0 ≥ a1)) = false := by simpa using c1
  try rw [e2]
  refine Opl.skp rfl (Opl.skp rfl (Opl.skp rfl (Opl.one rfl rfl (by simp only [go_sem]; rfl) (Opl.one rfl rfl (by simp only [go_sem]; rfl) (Opl.nil ?_)))))
  obtain rfl := Option.some.inj H
  refine Evr.ret1 Try.func76 rfl ?_
  show (.lit (.bool false) : PV) = _
  first | rfl | (simp only [go_sem]; rfl)
 rw [if_pos c1] at H
 have e1 : (decide (a0 ≥ a1)) = true := by simpa using c1
 try rw [e1]
 refine Opl.one rfl rfl (by simp only [go_sem]; rfl) (Opl.one rfl rfl (by simp only [go_sem]; rfl) (Opl.one rfl rfl (by simp only [go_sem]; rfl) (Opl.one rfl rfl (by simp only [go_sem]; rfl) (Opl.one rfl rfl (by simp only [go_sem]; rfl) (Opl.nil ?_)))))
 obtain rfl := Option.some.inj H
 refine Evr.ret1 Try.func76 rfl ?_
 show (.lit (.bool (decide (a0 ≤ a2))) : PV) = _
 first | rfl | (simp only [go_sem]; rfl)
theorem spec_l1One.ev {a0 : Int} {r : Bool} (H : spec_l1One.f a0 = some r) : Ret Try.prog 185 [.lit (.int .i64 a0)] fun v S => v = .lit (.bool r) := by
 unfold spec_l1One.f at H
 refine Ret.intro Try.func185 rfl (Nat.le_of_ble_eq_true rfl) rfl ?_
 rw [tm1]
 refine Evr.seq (Evr.regionN rfl (Opl.one rfl rfl (by simp only [go_sem]; rfl) (Opl.nil (Evr.seq (Evr.regionN rfl (Opl.one rfl rfl (by simp only [go_sem]; rfl) (Opl.one rfl rfl (by simp only [go_sem]; rfl) (Opl.one rfl rfl (by simp only [go_sem]; rfl) (Opl.nil ?_)))))))))
 obtain rfl := Option.some.inj H
 refine Evr.ret1 Try.func185 rfl ?_
 show (.lit (.bool (a0 == 7)) : PV) = _
 first | rfl | (simp only [go_sem]; rfl)
theorem spec_l1Kind.ev {k : Nat} {a0_0 : Int} {a0_1 : Int} {a0_2 : Int} {a0_3 : Int} {l1 : List Int} {v1 : PV} (hv1 : Sl (cInt .i64) l1 v1) {a2 : Int} {r : Int} (H : spec_l1Kind.f k a0_0 a0_1 a0_2 a0_3 l1 a2 = some r) : Ret Try.prog 175 [.agg [.lit (.int .i64 a0_0), .lit (.int .i64 a0_1), .lit (.int .i64 a0_2), .lit (.int .i64 a0_3)], v1, .lit (.int .i64 a2)] fun v S => v = .lit (.int .i64 r) := by
 unfold spec_l1Kind.f at H
 refine Ret.intro Try.func175 rfl (Nat.le_of_ble_eq_true rfl) rfl ?_
 rw [tm3]
 refine Evr.seq (Evr.regionN rfl (Opl.box (cs := [.lit (.int .i64 a0_0), .lit (.int .i64 a0_1), .lit (.int .i64 a0_2), .lit (.int .i64 a0_3)]) rfl rfl rfl rfl ?_))
 rintro i1 S h1 u1 w1
 refine Opl.one rfl rfl (by simp only [go_sem]; rfl) (Opl.nil (Evr.seq (Evr.seq ?_)))
 refine Evr.join (fun tm S => ∃ (kq1 : Nat) (x25_1 : Bool) (i2 : Abs.Id), spec_l1Kind.j0 kq1 l1 a2 x25_1 a0_0 a0_1 a0_2 a0_3 = some r ∧ Has tm [(1, v1), (2, .lit (.int .i64 a2)), (3, .ptr i2 0), (25, .lit (.bool x25_1))] ∧ Box (.ptr i2 0) [.lit (.int .i64 a0_0), .lit (.int .i64 a0_1), .lit (.int .i64 a0_2), .lit (.int .i64 a0_3)] S) ?_ fun hk1 => ?_
 ·
  rintro tm S ⟨kq1, x25_1, i2, H, hh, h2⟩
  rw [hh.eq]
  obtain _ | k1 := kq1
  · simp [spec_l1Kind.j0] at H
  simp only [spec_l1Kind.j0] at H
  by_cases c1 : x25_1 = true
  case pos =>
   rw [if_pos c1] at H
   obtain rfl : x25_1 = true := by simpa using c1
   refine Evr.condT rfl (Evr.seq (Evr.regionN rfl (Opl.one rfl rfl (by simp only [go_sem]; rfl) (Opl.nil ?_))))
   obtain rfl := Option.some.inj H
   refine Evr.ret1 Try.func175 rfl ?_
   show (.lit (.int .i64 1) : PV) = _
   first | rfl | (simp only [go_sem]; rfl)
  rw [if_neg c1] at H
  obtain rfl : x25_1 = false := by simpa using c1
  refine Evr.condF rfl (Evr.skip (Evr.seq (Evr.seq ?_)))
  refine Evr.join (fun tm S => ∃ (kq2 : Nat) (x45_1 : Bool) (i3 : Abs.Id), spec_l1Kind.j1 kq2 l1 x45_1 a0_0 a0_1 a0_2 a0_3 = some r ∧ Has tm [(1, v1), (3, .ptr i3 0), (45, .lit (.bool x45_1))] ∧ Box (.ptr i3 0) [.lit (.int .i64 a0_0), .lit (.int .i64 a0_1), .lit (.int .i64 a0_2), .lit (.int .i64 a0_3)] S) ?_ fun hk2 => ?_
  ·
   rintro tm S ⟨kq2, x45_1, i3, H, hh, h3⟩
   rw [hh.eq]
   obtain _ | k2 := kq2
   · simp [spec_l1Kind.j1] at H
   simp only [spec_l1Kind.j1] at H
   by_cases c2 : x45_1 = true
   case pos =>
    rw [if_pos c2] at H
    obtain rfl : x45_1 = true := by simpa using c2
    refine Evr.condT rfl (Evr.seq (Evr.regionN rfl (Opl.one rfl rfl (by simp only [go_sem]; rfl) (Opl.nil ?_))))
    obtain rfl := Option.some.inj H
    refine Evr.ret1 Try.func175 rfl ?_
    show (.lit (.int .i64 1) : PV) = _
    first | rfl | (simp only [go_sem]; rfl)
   rw [if_neg c2] at H
   obtain rfl : x45_1 = false := by simpa using c2
   refine Evr.condF rfl (Evr.skip (Evr.seq (Evr.seq ?_)))
   refine Evr.join (fun tm S => ∃ (kq3 : Nat) (x72_1 : Bool) (i4 : Abs.Id), spec_l1Kind.j2 kq3 l1 x72_1 a0_0 a0_1 a0_2 a0_3 = some r ∧ Has tm [(1, v1), (3, .ptr i4 0), (72, .lit (.bool x72_1))] ∧ Box (.ptr i4 0) [.lit (.int .i64 a0_0), .lit (.int .i64 a0_1), .lit (.int .i64 a0_2), .lit (.int .i64 a0_3)] S) ?_ fun hk3 => ?_
   ·
    rintro tm S ⟨kq3, x72_1, i4, H, hh, h4⟩
    rw [hh.eq]
    obtain _ | k3 := kq3
    · simp [spec_l1Kind.j2] at H
    simp only [spec_l1Kind.j2] at H
    by_cases c3 : x72_1 = true
    case pos =>
     rw [if_pos c3] at H
     obtain rfl : x72_1 = true := by simpa using c3
     refine Evr.condT rfl (Evr.seq (Evr.regionN rfl (Opl.one rfl rfl (by simp only [go_sem]; rfl) (Opl.nil ?_))))
     obtain rfl := Option.some.inj H
     refine Evr.ret1 Try.func175 rfl ?_
     show (.lit (.int .i64 0) : PV) = _
     first | rfl | (simp only [go_sem]; rfl)
    rw [if_neg c3] at H
    obtain rfl : x72_1 = false := by simpa using c3
    refine Evr.condF rfl (Evr.skip (Evr.seq (Evr.regionN rfl (Opl.one rfl rfl (by simp only [go_sem]; rfl) (Opl.nil (Evr.seq (Evr.seq (Evr.regionN rfl (Opl.one (v := .ptr i4 0) rfl rfl (by simp only [go_sem]; rfl) (Opl.ldb (v := .lit (.int .i64 a0_0)) h4 rfl T3 rfl rfl rfl rfl (Opl.one rfl rfl (by simp only [go_sem]; rfl) (Opl.nil ?_))))))))))))
    refine Evr.join (fun tm S => ∃ (kq4 : Nat) (x7_1 : Int) (i5 : Abs.Id), spec_l1Kind.j3 kq4 l1 x7_1 a0_0 a0_1 a0_2 a0_3 = some r ∧ Has tm [(1, v1), (3, .ptr i5 0), (7, .lit (.int .i64 x7_1))] ∧ Box (.ptr i5 0) [.lit (.int .i64 a0_0), .lit (.int .i64 a0_1), .lit (.int .i64 a0_2), .lit (.int .i64 a0_3)] S) ?_ fun hk4 => ?_
    ·
     rintro tm S ⟨kq4, x7_1, i5, H, hh, h5⟩
     rw [hh.eq]
     refine Evr.seq (Evr.seq ?_)
     refine Evr.join (fun tm S => ∃ (kq5 : Nat) (x103_1 : Bool) (i6 : Abs.Id), spec_l1Kind.j4 kq5 x103_1 a0_0 a0_1 a0_2 a0_3 = some r ∧ Has tm [(3, .ptr i6 0), (103, .lit (.bool x103_1))] ∧ Box (.ptr i6 0) [.lit (.int .i64 a0_0), .lit (.int .i64 a0_1), .lit (.int .i64 a0_2), .lit (.int .i64 a0_3)] S) ?_ fun hk5 => ?_
     ·
      rintro tm S ⟨kq5, x103_1, i6, H, hh, h6⟩
      rw [hh.eq]
      obtain _ | k4 := kq5
      · simp [spec_l1Kind.j4] at H
      simp only [spec_l1Kind.j4] at H
      by_cases c4 : x103_1 = true
      case pos =>
       rw [if_pos c4] at H
       obtain rfl : x103_1 = true := by simpa using c4
       refine Evr.condT rfl (Evr.seq (Evr.regionN rfl (Opl.one rfl rfl (by simp only [go_sem]; rfl) (Opl.nil ?_))))
       obtain rfl := Option.some.inj H
       refine Evr.ret1 Try.func175 rfl ?_
       show (.lit (.int .i64 0) : PV) = _
       first | rfl | (simp only [go_sem]; rfl)
      rw [if_neg c4] at H
      obtain rfl : x103_1 = false := by simpa using c4
      refine Evr.condF rfl (Evr.skip (Evr.seq (Evr.seq (Evr.regionN rfl (Opl.one (v := .ptr i6 0) rfl rfl (by simp only [go_sem]; rfl) (Opl.ldb (v := .lit (.int .i64 a0_0)) h6 rfl T3 rfl rfl rfl rfl (Opl.one rfl rfl (by simp only [go_sem]; rfl) (Opl.nil ?_))))))))
      by_cases c5 : a0_0 ≥ 5
      case pos =>
       rw [if_pos c5] at H
       have e1 : (decide (a0_0 ≥ 5)) = true := by simpa using c5
       try rw [e1]
       refine Evr.condT rfl (Evr.seq (Evr.regionN rfl (Opl.one rfl rfl (by simp only [go_sem]; rfl) (Opl.nil ?_))))
       obtain rfl := Option.some.inj H
       refine Evr.ret1 Try.func175 rfl ?_
       show (.lit (.int .i64 2) : PV) = _
       first | rfl | (simp only [go_sem]; rfl)
      rw [if_neg c5] at H
      have e2 : (decide (a0_0 ≥ 5)) = false := by simpa using c5
      try rw [e2]
      refine Evr.condF rfl (Evr.skip (Evr.seq (Evr.regionN rfl (Opl.one rfl rfl (by simp only [go_sem]; rfl) (Opl.nil ?_)))))
      obtain rfl := Option.some.inj H
      refine Evr.ret1 Try.func175 rfl ?_
      show (.lit (.int .i64 1) : PV) = _
      first | rfl | (simp only [go_sem]; rfl)
     ·
      refine Evr.regionN rfl (Opl.one rfl rfl (by simp only [go_sem]; rfl) (Opl.one (v := .ptr i5 2) rfl rfl (by simp only [go_sem]; rfl) (Opl.ldb (v := .lit (.int .i64 a0_2)) h5 rfl T3 rfl rfl rfl rfl ?_)))
      obtain _ | k5 := kq4
      · simp [spec_l1Kind.j3] at H
      simp only [spec_l1Kind.j3] at H
      obtain ⟨c6, H⟩ := peel H
      obtain ⟨c7, H⟩ := peel H
      refine Opl.idx (M := (cInt .i64)) (xs := l1) (j := a0_2) (0 : Int) (by exact hv1) rfl (by first | omega | (simp only [List.length_set] at *; omega)) (by first | omega | (simp only [List.length_set] at *; omega)) K26 Z3 rfl rfl ?_
      rintro p1 q1 h7
      obtain rfl : p1 = [.lit (.int .i64 (rd l1 a0_2))] := h7
      refine Opl.lda (.lit (.int .i64 (rd l1 a0_2))) rfl T3 rfl rfl rfl rfl (Opl.one rfl rfl (by simp only [go_sem]; rfl) (Opl.one rfl rfl (by simp only [go_sem]; rfl) (Opl.one rfl rfl (by simp only [go_sem]; rfl) ?_)))
      by_cases c8 : (rd l1 a0_2) = x7_1
      case neg =>
       rw [if_neg c8] at H
       have e6 : ((rd l1 a0_2) != x7_1) = true := by simpa using c8
       try rw [e6]
       refine Opl.skp rfl (Opl.skp rfl (Opl.skp rfl (Opl.skp rfl (Opl.skp rfl (Opl.skp rfl (Opl.skp rfl (Opl.one rfl rfl (by simp only [go_sem]; rfl) (Opl.one rfl rfl (by simp only [go_sem]; rfl) (Opl.skp rfl (Opl.skp rfl (Opl.skp rfl (Opl.skp rfl (Opl.skp rfl (Opl.skp rfl (Opl.skp rfl (Opl.skp rfl (Opl.skp rfl (Opl.skp rfl (Opl.one rfl rfl (by simp only [go_sem]; rfl) (Opl.nil ?_))))))))))))))))))))
       exact hk5 _ _ ⟨_, _, _, H, ⟨rfl, (by first | rfl | (show PV.lit (.bool _) = _; congr 2; simp_all)), trivial⟩, h5⟩
      rw [if_pos c8] at H
      have e3 : ((rd l1 a0_2) != x7_1) = false := by simpa using c8
      try rw [e3]
      refine Opl.one rfl rfl (by simp only [go_sem]; rfl) (Opl.one (v := .ptr i5 3) rfl rfl (by simp only [go_sem]; rfl) (Opl.ldb (v := .lit (.int .i64 a0_3)) h5 rfl T3 rfl rfl rfl rfl ?_))
      obtain ⟨c9, H⟩ := peel H
      obtain ⟨c10, H⟩ := peel H
      refine Opl.idx (M := (cInt .i64)) (xs := l1) (j := a0_3) (0 : Int) (by exact hv1) rfl (by first | omega | (simp only [List.length_set] at *; omega)) (by first | omega | (simp only [List.length_set] at *; omega)) K26 Z3 rfl rfl ?_
      rintro p2 q2 h8
      obtain rfl : p2 = [.lit (.int .i64 (rd l1 a0_3))] := h8
      refine Opl.lda (.lit (.int .i64 (rd l1 a0_3))) rfl T3 rfl rfl rfl rfl (Opl.one rfl rfl (by simp only [go_sem]; rfl) (Opl.one rfl rfl (by simp only [go_sem]; rfl) (Opl.one rfl rfl (by simp only [go_sem]; rfl) (Opl.one rfl rfl (by simp only [go_sem]; rfl) ?_))))
      by_cases c11 : (rd l1 a0_3) = x7_1
      case neg =>
       rw [if_neg c11] at H
       have e5 : ((rd l1 a0_3) != x7_1) = true := by simpa using c11
       try rw [e5]
       refine Opl.skp rfl (Opl.skp rfl (Opl.skp rfl (Opl.skp rfl (Opl.skp rfl (Opl.skp rfl (Opl.skp rfl (Opl.skp rfl (Opl.skp rfl (Opl.skp rfl (Opl.one rfl rfl (by simp only [go_sem]; rfl) (Opl.nil ?_)))))))))))
       exact hk5 _ _ ⟨_, _, _, H, ⟨rfl, (by first | rfl | (show PV.lit (.bool _) = _; congr 2; simp_all)), trivial⟩, h5⟩
      rw [if_pos c11] at H
      have e4 : ((rd l1 a0_3) != x7_1) = false := by simpa using c11
      try rw [e4]
      refine Opl.one (v := .ptr i5 0) rfl rfl (by simp only [go_sem]; rfl) (Opl.ldb (v := .lit (.int .i64 a0_0)) h5 rfl T3 rfl rfl rfl rfl ?_)
      obtain ⟨t321, h_t321, H⟩ := Option.bind_eq_some_iff.1 H
      refine Opl.callc (spec_l1One.ev h_t321) rfl rfl rfl rfl ⟨(.lit _), trivial⟩ (by decide) (Opl.one rfl rfl (by simp only [go_sem]; rfl) ?_)
      by_cases c12 : t321 = true
      case neg =>
       rw [if_neg c12] at H
       obtain rfl : t321 = false := by simpa using c12
       refine Opl.skp rfl (Opl.skp rfl (Opl.skp rfl (Opl.skp rfl (Opl.skp rfl (Opl.one rfl rfl (by simp only [go_sem]; rfl) (Opl.one rfl rfl (by simp only [go_sem]; rfl) (Opl.nil ?_)))))))
       exact hk5 _ _ ⟨_, _, _, H, ⟨rfl, (by first | rfl | (show PV.lit (.bool _) = _; congr 2; simp_all)), trivial⟩, h5⟩
      rw [if_pos c12] at H
      obtain rfl : t321 = true := by simpa using c12
      refine Opl.one (v := .ptr i5 3) rfl rfl (by simp only [go_sem]; rfl) (Opl.ldb (v := .lit (.int .i64 a0_3)) h5 rfl T3 rfl rfl rfl rfl (Opl.one (v := .ptr i5 2) rfl rfl (by simp only [go_sem]; rfl) (Opl.ldb (v := .lit (.int .i64 a0_2)) h5 rfl T3 rfl rfl rfl rfl (Opl.one rfl rfl (by simp only [go_sem]; rfl) (Opl.one rfl rfl (by simp only [go_sem]; rfl) (Opl.one rfl rfl (by simp only [go_sem]; rfl) (Opl.nil ?_)))))))
      exact hk5 _ _ ⟨_, _, _, H, ⟨rfl, (by first | rfl | (show PV.lit (.bool _) = _; congr 2; simp_all)), trivial⟩, h5⟩
    ·
     by_cases c13 : a0_0 ≥ 7
     case neg =>
      rw [if_neg c13] at H
      have e8 : (decide (a0_0 ≥ 7)) = false := by simpa using c13
      try rw [e8]
      refine Evr.condF rfl (Evr.skip ?_)
      exact hk4 _ _ ⟨_, _, _, H, ⟨rfl, rfl, rfl, trivial⟩, h4⟩
     rw [if_pos c13] at H
     have e7 : (decide (a0_0 ≥ 7)) = true := by simpa using c13
     try rw [e7]
     refine Evr.condT rfl (Evr.regionN rfl (Opl.one rfl rfl (by simp only [go_sem]; rfl) (Opl.nil ?_)))
     exact hk4 _ _ ⟨_, _, _, H, ⟨rfl, rfl, rfl, trivial⟩, h4⟩
   ·
    refine Evr.regionN rfl (Opl.one (v := .ptr i3 0) rfl rfl (by simp only [go_sem]; rfl) (Opl.ldb (v := .lit (.int .i64 a0_0)) h3 rfl T3 rfl rfl rfl rfl ?_))
    obtain ⟨t316, h_t316, H⟩ := Option.bind_eq_some_iff.1 H
    refine Opl.callc (spec_l1In.ev h_t316) rfl rfl rfl rfl ⟨(.lit _), (.lit _), (.lit _), trivial⟩ (by decide) (Opl.one rfl rfl (by simp only [go_sem]; rfl) (Opl.one rfl rfl (by simp only [go_sem]; rfl) ?_))
    by_cases c14 : t316 = true
    case neg =>
     rw [if_neg c14] at H
     have e14 : (!t316) = true := by simpa using c14
     try rw [e14]
     refine Opl.skp rfl (Opl.skp rfl (Opl.skp rfl (Opl.one rfl rfl (by simp only [go_sem]; rfl) (Opl.one rfl rfl (by simp only [go_sem]; rfl) (Opl.skp rfl (Opl.skp rfl (Opl.skp rfl (Opl.skp rfl (Opl.skp rfl (Opl.skp rfl (Opl.skp rfl (Opl.one rfl rfl (by simp only [go_sem]; rfl) (Opl.one rfl rfl (by simp only [go_sem]; rfl) (Opl.skp rfl (Opl.skp rfl (Opl.skp rfl (Opl.skp rfl (Opl.skp rfl (Opl.skp rfl (Opl.skp rfl (Opl.one rfl rfl (by simp only [go_sem]; rfl) (Opl.nil ?_))))))))))))))))))))))
     exact hk3 _ _ ⟨_, _, _, H, ⟨rfl, rfl, (by first | rfl | (show PV.lit (.bool _) = _; congr 2; simp_all)), trivial⟩, h3⟩
    rw [if_pos c14] at H
    have e9 : (!t316) = false := by simpa using c14
    try rw [e9]
    refine Opl.one (v := .ptr i3 1) rfl rfl (by simp only [go_sem]; rfl) (Opl.ldb (v := .lit (.int .i64 a0_1)) h3 rfl T3 rfl rfl rfl rfl (Opl.one rfl rfl (by simp only [go_sem]; rfl) (Opl.one rfl rfl (by simp only [go_sem]; rfl) (Opl.one rfl rfl (by simp only [go_sem]; rfl) ?_))))
    by_cases c15 : a0_1 = 0
    case neg =>
     rw [if_neg c15] at H
     have e13 : (a0_1 != 0) = true := by simpa using c15
     try rw [e13]
     refine Opl.skp rfl (Opl.skp rfl (Opl.skp rfl (Opl.skp rfl (Opl.skp rfl (Opl.skp rfl (Opl.skp rfl (Opl.one rfl rfl (by simp only [go_sem]; rfl) (Opl.one rfl rfl (by simp only [go_sem]; rfl) (Opl.skp rfl (Opl.skp rfl (Opl.skp rfl (Opl.skp rfl (Opl.skp rfl (Opl.skp rfl (Opl.skp rfl (Opl.one rfl rfl (by simp only [go_sem]; rfl) (Opl.nil ?_)))))))))))))))))
     exact hk3 _ _ ⟨_, _, _, H, ⟨rfl, rfl, (by first | rfl | (show PV.lit (.bool _) = _; congr 2; simp_all)), trivial⟩, h3⟩
    rw [if_pos c15] at H
    have e10 : (a0_1 != 0) = false := by simpa using c15
    try rw [e10]
    refine Opl.one (v := .ptr i3 2) rfl rfl (by simp only [go_sem]; rfl) (Opl.ldb (v := .lit (.int .i64 a0_2)) h3 rfl T3 rfl rfl rfl rfl (Opl.one rfl rfl (by simp only [go_sem]; rfl) (Opl.len (xs := l1) (by exact hv1) K26 rfl rfl rfl rfl (Opl.subi (k := .i64) (a := (l1.length : Int)) (b := 1) K3 rfl rfl rfl rfl ?_))))
    obtain ⟨t317, h_t317, H⟩ := Option.bind_eq_some_iff.1 H
    refine Opl.callc (spec_l1In.ev h_t317) rfl rfl rfl rfl ⟨(.lit _), (.lit _), (.lit _), trivial⟩ (by decide) (Opl.one rfl rfl (by simp only [go_sem]; rfl) (Opl.one rfl rfl (by simp only [go_sem]; rfl) (Opl.one (v := .lit (.bool (!t317))) rfl rfl rfl ?_)))
    by_cases c16 : t317 = true
    case neg =>
     rw [if_neg c16] at H
     have e12 : (!t317) = true := by simpa using c16
     try rw [e12]
     refine Opl.skp rfl (Opl.skp rfl (Opl.skp rfl (Opl.skp rfl (Opl.skp rfl (Opl.skp rfl (Opl.skp rfl (Opl.one rfl rfl (by simp only [go_sem]; rfl) (Opl.nil ?_))))))))
     exact hk3 _ _ ⟨_, _, _, H, ⟨rfl, rfl, (by first | rfl | (show PV.lit (.bool _) = _; congr 2; simp_all)), trivial⟩, h3⟩
    rw [if_pos c16] at H
    have e11 : (!t317) = false := by simpa using c16
    try rw [e11]
    refine Opl.one (v := .ptr i3 3) rfl rfl (by simp only [go_sem]; rfl) (Opl.ldb (v := .lit (.int .i64 a0_3)) h3 rfl T3 rfl rfl rfl rfl (Opl.one (v := v1) rfl rfl rfl (Opl.len (xs := l1) (by exact hv1) K26 rfl rfl rfl rfl (Opl.subi (k := .i64) (a := (l1.length : Int)) (b := 1) K3 rfl rfl rfl rfl ?_))))
    obtain ⟨t318, h_t318, H⟩ := Option.bind_eq_some_iff.1 H
    refine Opl.callc (spec_l1In.ev h_t318) rfl rfl rfl rfl ⟨(.lit _), (.lit _), (.lit _), trivial⟩ (by decide) (Opl.one rfl rfl (by simp only [go_sem]; rfl) (Opl.one rfl rfl (by simp only [go_sem]; rfl) (Opl.nil ?_)))
    exact hk3 _ _ ⟨_, _, _, H, ⟨rfl, rfl, (by first | rfl | (show PV.lit (.bool _) = _; congr 2; simp_all)), trivial⟩, h3⟩
  ·
   refine Evr.regionN rfl (Opl.one (v := .ptr i2 0) rfl rfl (by simp only [go_sem]; rfl) (Opl.ldb (v := .lit (.int .i64 a0_0)) h2 rfl T3 rfl rfl rfl rfl (Opl.one rfl rfl (by simp only [go_sem]; rfl) (Opl.one rfl rfl (by simp only [go_sem]; rfl) ?_))))
   by_cases c17 : a0_0 = 1
   case neg =>
    rw [if_neg c17] at H
    have e18 : (a0_0 == 1) = false := by simpa using c17
    try rw [e18]
    refine Opl.skp rfl (Opl.skp rfl (Opl.skp rfl (Opl.skp rfl (Opl.skp rfl (Opl.one rfl rfl (by simp only [go_sem]; rfl) (Opl.one rfl rfl (by simp only [go_sem]; rfl) (Opl.skp rfl (Opl.skp rfl (Opl.skp rfl (Opl.one rfl rfl (by simp only [go_sem]; rfl) (Opl.one rfl rfl (by simp only [go_sem]; rfl) (Opl.skp rfl (Opl.skp rfl (Opl.skp rfl (Opl.one rfl rfl (by simp only [go_sem]; rfl) (Opl.nil ?_))))))))))))))))
    exact hk2 _ _ ⟨_, _, _, H, ⟨rfl, rfl, (by first | rfl | (show PV.lit (.bool _) = _; congr 2; simp_all)), trivial⟩, h2⟩
   rw [if_pos c17] at H
   have e15 : (a0_0 == 1) = true := by simpa using c17
   try rw [e15]
   refine Opl.one (v := .ptr i2 1) rfl rfl (by simp only [go_sem]; rfl) (Opl.ldb (v := .lit (.int .i64 a0_1)) h2 rfl T3 rfl rfl rfl rfl (Opl.one rfl rfl (by simp only [go_sem]; rfl) (Opl.subi (k := .i64) (a := a2) (b := 1) K3 rfl rfl rfl rfl ?_)))
   obtain ⟨t315, h_t315, H⟩ := Option.bind_eq_some_iff.1 H
   refine Opl.callc (spec_l1In.ev h_t315) rfl rfl rfl rfl ⟨(.lit _), (.lit _), (.lit _), trivial⟩ (by decide) (Opl.one rfl rfl (by simp only [go_sem]; rfl) (Opl.one (v := .lit (.bool t315)) rfl rfl rfl ?_))
   by_cases c18 : t315 = true
   case neg =>
    rw [if_neg c18] at H
    obtain rfl : t315 = false := by simpa using c18
    refine Opl.skp rfl (Opl.skp rfl (Opl.skp rfl (Opl.one rfl rfl (by simp only [go_sem]; rfl) (Opl.one (v := .lit (.bool false)) rfl rfl rfl (Opl.skp rfl (Opl.skp rfl (Opl.skp rfl (Opl.one rfl rfl (by simp only [go_sem]; rfl) (Opl.nil ?_)))))))))
    exact hk2 _ _ ⟨_, _, _, H, ⟨rfl, rfl, (by first | rfl | (show PV.lit (.bool _) = _; congr 2; simp_all)), trivial⟩, h2⟩
   rw [if_pos c18] at H
   obtain rfl : t315 = true := by simpa using c18
   refine Opl.one (v := .ptr i2 2) rfl rfl (by simp only [go_sem]; rfl) (Opl.ldb (v := .lit (.int .i64 a0_2)) h2 rfl T3 rfl rfl rfl rfl (Opl.one rfl rfl (by simp only [go_sem]; rfl) (Opl.one rfl rfl (by simp only [go_sem]; rfl) (Opl.one (v := .lit (.bool (a0_2 == 0))) rfl rfl rfl ?_))))
   by_cases c19 : a0_2 = 0
   case neg =>
    rw [if_neg c19] at H
    have e17 : (a0_2 == 0) = false := by simpa using c19
    try rw [e17]
    refine Opl.skp rfl (Opl.skp rfl (Opl.skp rfl (Opl.one rfl rfl (by simp only [go_sem]; rfl) (Opl.nil ?_))))
    exact hk2 _ _ ⟨_, _, _, H, ⟨rfl, rfl, (by first | rfl | (show PV.lit (.bool _) = _; congr 2; simp_all)), trivial⟩, h2⟩
   rw [if_pos c19] at H
   have e16 : (a0_2 == 0) = true := by simpa using c19
   try rw [e16]
   refine Opl.one (v := .ptr i2 3) rfl rfl (by simp only [go_sem]; rfl) (Opl.ldb (v := .lit (.int .i64 a0_3)) h2 rfl T3 rfl rfl rfl rfl (Opl.one rfl rfl (by simp only [go_sem]; rfl) (Opl.one rfl rfl (by simp only [go_sem]; rfl) (Opl.nil ?_))))
   exact hk2 _ _ ⟨_, _, _, H, ⟨rfl, rfl, (by first | rfl | (show PV.lit (.bool _) = _; congr 2; simp_all)), trivial⟩, h2⟩
 ·
  refine Evr.regionN rfl (Opl.one (v := .ptr i1 0) rfl rfl (by simp only [go_sem]; rfl) (Opl.ldb (v := .lit (.int .i64 a0_0)) h1 rfl T3 rfl rfl rfl rfl (Opl.one rfl rfl (by simp only [go_sem]; rfl) (Opl.one rfl rfl (by simp only [go_sem]; rfl) ?_))))
  by_cases c20 : a0_0 = 0
  case neg =>
   rw [if_neg c20] at H
   have e22 : (a0_0 == 0) = false := by simpa using c20
   try rw [e22]
   refine Opl.skp rfl (Opl.skp rfl (Opl.skp rfl (Opl.one rfl rfl (by simp only [go_sem]; rfl) (Opl.one rfl rfl (by simp only [go_sem]; rfl) (Opl.skp rfl (Opl.skp rfl (Opl.skp rfl (Opl.one rfl rfl (by simp only [go_sem]; rfl) (Opl.one rfl rfl (by simp only [go_sem]; rfl) (Opl.skp rfl (Opl.skp rfl (Opl.skp rfl (Opl.one rfl rfl (by simp only [go_sem]; rfl) (Opl.nil ?_))))))))))))))
   exact hk1 _ _ ⟨_, _, _, H, ⟨rfl, rfl, rfl, (by first | rfl | (show PV.lit (.bool _) = _; congr 2; simp_all)), trivial⟩, h1⟩
  rw [if_pos c20] at H
  have e19 : (a0_0 == 0) = true := by simpa using c20
  try rw [e19]
  refine Opl.one (v := .ptr i1 1) rfl rfl (by simp only [go_sem]; rfl) (Opl.ldb (v := .lit (.int .i64 a0_1)) h1 rfl T3 rfl rfl rfl rfl ?_)
  obtain ⟨t314, h_t314, H⟩ := Option.bind_eq_some_iff.1 H
  refine Opl.callc (spec_l1In.ev h_t314) rfl rfl rfl rfl ⟨(.lit _), (.lit _), (.lit _), trivial⟩ (by decide) (Opl.one rfl rfl (by simp only [go_sem]; rfl) (Opl.one rfl rfl (by simp only [go_sem]; rfl) ?_))
  by_cases c21 : t314 = true
  case neg =>
   rw [if_neg c21] at H
   obtain rfl : t314 = false := by simpa using c21
   refine Opl.skp rfl (Opl.skp rfl (Opl.skp rfl (Opl.one rfl rfl (by simp only [go_sem]; rfl) (Opl.one rfl rfl (by simp only [go_sem]; rfl) (Opl.skp rfl (Opl.skp rfl (Opl.skp rfl (Opl.one rfl rfl (by simp only [go_sem]; rfl) (Opl.nil ?_)))))))))
   exact hk1 _ _ ⟨_, _, _, H, ⟨rfl, rfl, rfl, (by first | rfl | (show PV.lit (.bool _) = _; congr 2; simp_all)), trivial⟩, h1⟩
  rw [if_pos c21] at H
  obtain rfl : t314 = true := by simpa using c21
  refine Opl.one (v := .ptr i1 2) rfl rfl (by simp only [go_sem]; rfl) (Opl.ldb (v := .lit (.int .i64 a0_2)) h1 rfl T3 rfl rfl rfl rfl (Opl.one rfl rfl (by simp only [go_sem]; rfl) (Opl.one rfl rfl (by simp only [go_sem]; rfl) (Opl.one rfl rfl (by simp only [go_sem]; rfl) ?_))))
  by_cases c22 : a0_2 = 0
  case neg =>
   rw [if_neg c22] at H
   have e21 : (a0_2 == 0) = false := by simpa using c22
   try rw [e21]
   refine Opl.skp rfl (Opl.skp rfl (Opl.skp rfl (Opl.one rfl rfl (by simp only [go_sem]; rfl) (Opl.nil ?_))))
   exact hk1 _ _ ⟨_, _, _, H, ⟨rfl, rfl, rfl, (by first | rfl | (show PV.lit (.bool _) = _; congr 2; simp_all)), trivial⟩, h1⟩
  rw [if_pos c22] at H
  have e20 : (a0_2 == 0) = true := by simpa using c22
  try rw [e20]
  refine Opl.one (v := .ptr i1 3) rfl rfl (by simp only [go_sem]; rfl) (Opl.ldb (v := .lit (.int .i64 a0_3)) h1 rfl T3 rfl rfl rfl rfl (Opl.one rfl rfl (by simp only [go_sem]; rfl) (Opl.one rfl rfl (by simp only [go_sem]; rfl) (Opl.nil ?_))))
  exact hk1 _ _ ⟨_, _, _, H, ⟨rfl, rfl, rfl, (by first | rfl | (show PV.lit (.bool _) = _; congr 2; simp_all)), trivial⟩, h1⟩
theorem spec_KindsOf.ev {k : Nat} {l0 : List ITerm} {v0 : PV} (hv0 : Sl cITerm l0 v0) {a1 : Int} {r : (List Int)} (H : spec_KindsOf.f k l0 a1 = some r) : Ret Try.prog 154 [v0, .lit (.int .i64 a1)] fun v S => Vec (cInt .i64) r v S := by
 unfold spec_KindsOf.f at H
 refine Ret.intro Try.func154 rfl (Nat.le_of_ble_eq_true rfl) rfl ?_
 rw [tm2]
 refine Evr.seq (Evr.regionN rfl (Opl.one rfl rfl (by simp only [go_sem]; rfl) (Opl.nil (Evr.seq (Evr.seq ?_)))))
 refine Evr.join (fun tm S => ∃ (kq1 : Nat) (x16_1 : Bool), spec_KindsOf.j0 kq1 l0 a1 x16_1 = some r ∧ Has tm [(0, v0), (1, .lit (.int .i64 a1)), (16, .lit (.bool x16_1))]) ?_ fun hk1 => ?_
 ·
  rintro tm S ⟨kq1, x16_1, H, hh⟩
  rw [hh.eq]
  obtain _ | k1 := kq1
  · simp [spec_KindsOf.j0] at H
  simp only [spec_KindsOf.j0] at H
  by_cases c1 : x16_1 = true
  case pos =>
   rw [if_pos c1] at H
   obtain rfl : x16_1 = true := by simpa using c1
   refine Evr.condT rfl (Evr.seq (Evr.regionN rfl (Opl.one rfl rfl (by simp only [go_sem]; rfl) (Opl.nil ?_))))
   obtain rfl := Option.some.inj H
   refine Evr.ret1 Try.func154 rfl ?_
   show Vec _ _ (.lit (.slice none 0 0)) _
   exact .nil
  rw [if_neg c1] at H
  obtain rfl : x16_1 = false := by simpa using c1
  refine Evr.condF rfl (Evr.skip (Evr.seq (Evr.regionN rfl (Opl.lits (M := (cInt .i64)) (ys := []) [] K26 T3 rfl rfl rfl trivial rfl (by decide) rfl rfl rfl ?_))))
  rintro pv1 S h1 u1 w1
  refine Opl.one rfl rfl (by simp only [go_sem]; rfl) (Opl.nil (Evr.seq (Evr.seq (Evr.regionN rfl (Opl.one rfl rfl (by simp only [go_sem]; rfl) (Opl.nil (Evr.block ?_)))))))
  refine Evr.loop (Evr.rounds (n := k1) (Inv := fun n tm S => n ≤ k1 ∧ ∃ (x5_1 : List Int) (x6_1 : Int) (pv2 : PV), spec_KindsOf.l0 n l0 a1 x5_1 x6_1 = some r ∧ Has tm [(0, v0), (1, .lit (.int .i64 a1)), (5, pv2), (6, .lit (.int .i64 x6_1))] ∧ Vec (cInt .i64) x5_1 pv2 S) ?_ ?_ ?_)
  · exact ⟨Nat.le_refl _, _, _, _, H, ⟨rfl, rfl, rfl, rfl, trivial⟩, h1⟩
  ·
   rintro tm S ⟨_, _, _, _, H, -⟩
   simp [spec_KindsOf.l0] at H
  ·
   rintro n1 ih1 tm S ⟨hle, x5_1, x6_1, pv2, H, hh, h2⟩
   simp only [spec_KindsOf.l0] at H
   rw [hh.eq]
   refine Evr.seq (Evr.seq (Evr.regionN rfl (Opl.one rfl rfl (by simp only [go_sem]; rfl) (Opl.one rfl rfl (by simp only [go_sem]; rfl) (Opl.len (xs := l0) (by exact hv0) K60 rfl rfl rfl rfl (Opl.one rfl rfl (by simp only [go_sem]; rfl) (Opl.nil ?_)))))))
   by_cases c2 : x6_1 < (l0.length : Int)
   case neg =>
    rw [if_neg c2] at H
    have e4 : (decide (x6_1 < (l0.length : Int))) = false := by simpa using c2
    try rw [e4]
    refine Evr.condF rfl (Evr.exit rfl (Evr.seq (Evr.regionN rfl (Opl.one rfl rfl (by simp only [go_sem]; rfl) (Opl.one rfl rfl (by simp only [go_sem]; rfl) (Opl.nil ?_))))))
    obtain rfl := Option.some.inj H
    refine Evr.ret1 Try.func154 rfl ?_
    show Vec _ _ pv2 _
    exact h2
   rw [if_pos c2] at H
   have e1 : (decide (x6_1 < (l0.length : Int))) = true := by simpa using c2
   try rw [e1]
   refine Evr.condT rfl (Evr.skip (Evr.seq (Evr.block (Evr.seq (Evr.regionN rfl (Opl.one rfl rfl (by simp only [go_sem]; rfl) (Opl.one rfl rfl (by simp only [go_sem]; rfl) ?_)))))))
   obtain ⟨c3, H⟩ := peel H
   refine Opl.idx (M := cITerm) (xs := l0) (j := x6_1) zITerm (by exact hv0) rfl (by first | omega | (simp only [List.length_set] at *; omega)) (by first | omega | (simp only [List.length_set] at *; omega)) K60 Z106 rfl rfl ?_
   rintro p1 q1 h3
   obtain rfl := cITerm_R (x := (rd_ITerm l0 x6_1)) h3
   refine Opl.lda (.agg [.lit (.int .i64 ((rd_ITerm l0 x6_1).f0)), .lit (.int .i64 ((rd_ITerm l0 x6_1).f1)), .lit (.int .i64 ((rd_ITerm l0 x6_1).f2)), .lit (.int .i64 ((rd_ITerm l0 x6_1).f3))]) rfl T106 rfl rfl rfl rfl (Opl.one rfl rfl (by simp only [go_sem]; rfl) (Opl.one rfl rfl (by simp only [go_sem]; rfl) ?_))
   obtain ⟨t328, h_t328, H⟩ := Option.bind_eq_some_iff.1 H
   obtain ⟨pv3, h4, -, h5⟩ := Out.vec h2
   refine Opl.callw (spec_l1Kind.ev h5 h_t328) rfl rfl rfl (.cons (.refl _) (.cons h4 (.cons (.refl _) .nil))) ⟨(.aggL ⟨(.lit _), (.lit _), (.lit _), (.lit _), trivial⟩), h5.plain, (.lit _), trivial⟩ (by decide) (Opl.one rfl rfl (by simp only [go_sem]; rfl) (Opl.nil (Evr.seq (Evr.seq (Evr.regionN rfl (Opl.one rfl rfl (by simp only [go_sem]; rfl) (Opl.one rfl rfl (by simp only [go_sem]; rfl) (Opl.nil ?_))))))))
   by_cases c4 : t328 = 0
   case pos =>
    rw [if_pos c4] at H
    have e2 : (t328 == 0) = true := by simpa using c4
    try rw [e2]
    refine Evr.condT rfl (Evr.seq (Evr.regionN rfl (Opl.one rfl rfl (by simp only [go_sem]; rfl) (Opl.nil ?_))))
    obtain rfl := Option.some.inj H
    refine Evr.ret1 Try.func154 rfl ?_
    show Vec _ _ (.lit (.slice none 0 0)) _
    exact .nil
   rw [if_neg c4] at H
   have e3 : (t328 == 0) = false := by simpa using c4
   try rw [e3]
   refine Evr.condF rfl (Evr.skip (Evr.regionN rfl (Opl.one rfl rfl (by simp only [go_sem]; rfl) (Opl.one rfl rfl (by simp only [go_sem]; rfl) (Opl.lits (M := (cInt .i64)) (ys := [t328]) [.tmp 34] K26 T3 rfl rfl rfl (by exact ⟨rfl, trivial⟩) rfl (by decide) rfl rfl rfl ?_)))))
   rintro pv4 S h6 u2 w2
   have ap1 := w2.vec h2
   have h7 := u2.vec h2 ap1
   obtain ⟨c5, H⟩ := peel H
   refine Opl.app (M := (cInt .i64)) (xs := x5_1) (ys := [t328]) (v := pv2) h7 (.vec h6) (oInt .i64) rfl rfl K26 T3 rfl rfl (by (try simp only [List.length_cons, List.length_nil]); omega) (by show (_ + _) * 8 ≤ 140737488355328; (try simp only [List.length_cons, List.length_nil]); omega) rfl rfl rfl rfl rfl ?_
   rintro pv5 S h8 u3 w3
   have ap2 := w3.vec h6
   have h9 := u3.vec h6 ap1.symm
   refine Opl.one rfl rfl (by simp only [go_sem]; rfl) (Opl.nil (Evr.inBlock (Evr.regionN rfl (Opl.one rfl rfl (by simp only [go_sem]; rfl) (Opl.add (k := .i64) (a := x6_1) (b := 1) K3 rfl rfl rfl rfl (Opl.one (v := .lit (.int .i64 (wrap64 (x6_1 + 1)))) rfl rfl rfl (Opl.nil ?_)))))))
   exact ih1 _ (by omega) _ _ ⟨by omega, _, _, _, H, ⟨rfl, rfl, rfl, rfl, trivial⟩, h8⟩
 ·
  refine Evr.regionN rfl (Opl.one rfl rfl (by simp only [go_sem]; rfl) ?_)
  obtain ⟨t322, h_t322, H⟩ := Option.bind_eq_some_iff.1 H
  refine Opl.callc (spec_l1In.ev h_t322) rfl rfl rfl rfl ⟨(.lit _), (.lit _), (.lit _), trivial⟩ (by decide) (Opl.one rfl rfl (by simp only [go_sem]; rfl) (Opl.one rfl rfl (by simp only [go_sem]; rfl) ?_))
  by_cases c6 : t322 = true
  case neg =>
   rw [if_neg c6] at H
   have e6 : (!t322) = true := by simpa using c6
   try rw [e6]
   refine Opl.skp rfl (Opl.skp rfl (Opl.skp rfl (Opl.skp rfl (Opl.one rfl rfl (by simp only [go_sem]; rfl) (Opl.nil ?_)))))
   exact hk1 _ _ ⟨_, _, H, ⟨rfl, rfl, (by first | rfl | (show PV.lit (.bool _) = _; congr 2; simp_all)), trivial⟩⟩
  rw [if_pos c6] at H
  have e5 : (!t322) = false := by simpa using c6
  try rw [e5]
  refine Opl.one rfl rfl (by simp only [go_sem]; rfl) (Opl.len (xs := l0) (by exact hv0) K60 rfl rfl rfl rfl ?_)
  obtain ⟨t323, h_t323, H⟩ := Option.bind_eq_some_iff.1 H
  refine Opl.callc (spec_l1In.ev h_t323) rfl rfl rfl rfl ⟨(.lit _), (.lit _), (.lit _), trivial⟩ (by decide) (Opl.one rfl rfl (by simp only [go_sem]; rfl) (Opl.one rfl rfl (by simp only [go_sem]; rfl) (Opl.nil ?_)))
  exact hk1 _ _ ⟨_, _, H, ⟨rfl, rfl, (by first | rfl | (show PV.lit (.bool _) = _; congr 2; simp_all)), trivial⟩⟩
theorem spec_l2Is.ev {k : Nat} {l0 : List ITerm} {v0 : PV} (hv0 : Sl cITerm l0 v0) {a1 : Int} {a2 : Int} {r : Bool} (H : spec_l2Is.f k l0 a1 a2 = some r) : Ret Try.prog 100 [v0, .lit (.int .i64 a1), .lit (.int .i64 a2)] fun v S => v = .lit (.bool r) := by
 unfold spec_l2Is.f at H
 refine Ret.intro Try.func100 rfl (Nat.le_of_ble_eq_true rfl) rfl ?_
 rw [tm3]
 refine Evr.seq (Evr.regionN rfl (Opl.one rfl rfl (by simp only [go_sem]; rfl) (Opl.nil (Evr.seq (Evr.regionN rfl (Opl.one rfl rfl (by simp only [go_sem]; rfl) (Opl.one rfl rfl (by simp only [go_sem]; rfl) ?_)))))))
 obtain ⟨t332, h_t332, H⟩ := Option.bind_eq_some_iff.1 H
 refine Opl.call ((spec_KindsOf.ev hv0 h_t332).mono fun _ _ h => Out.vec h) rfl rfl rfl rfl ⟨hv0.plain, (.lit _), trivial⟩ (by decide) ?_
 rintro pv1 h1
 refine Opl.one rfl rfl (by simp only [go_sem]; rfl) (Opl.nil (Evr.seq (Evr.regionN rfl (Opl.one rfl rfl (by simp only [go_sem]; rfl) (Opl.len (xs := t332) (by exact h1) K26 rfl rfl rfl rfl (Opl.one rfl rfl (by simp only [go_sem]; rfl) (Opl.one rfl rfl (by simp only [go_sem]; rfl) ?_)))))))
 by_cases c1 : (t332.length : Int) > 0
 case neg =>
  rw [if_neg c1] at H
  have e2 : (decide ((t332.length : Int) > 0)) = false := by simpa using c1
  try rw [e2]
  refine Opl.skp rfl (Opl.skp rfl (Opl.skp rfl (Opl.skp rfl (Opl.skp rfl (Opl.skp rfl (Opl.skp rfl (Opl.skp rfl (Opl.one rfl rfl (by simp only [go_sem]; rfl) (Opl.one rfl rfl (by simp only [go_sem]; rfl) (Opl.nil ?_))))))))))
  obtain rfl := Option.some.inj H
  refine Evr.ret1 Try.func100 rfl ?_
  show (.lit (.bool false) : PV) = _
  first | rfl | (simp only [go_sem]; rfl)
 rw [if_pos c1] at H
 have e1 : (decide ((t332.length : Int) > 0)) = true := by simpa using c1
 try rw [e1]
 refine Opl.one rfl rfl (by simp only [go_sem]; rfl) (Opl.one rfl rfl (by simp only [go_sem]; rfl) (Opl.len (xs := t332) (by exact h1) K26 rfl rfl rfl rfl (Opl.subi (k := .i64) (a := (t332.length : Int)) (b := 1) K3 rfl rfl rfl rfl ?_)))
 obtain ⟨c2, H⟩ := peel H
 obtain ⟨c3, H⟩ := peel H
 refine Opl.idx (M := (cInt .i64)) (xs := t332) (j := (wrap64 ((t332.length : Int) - 1))) (0 : Int) (by exact h1) rfl (by first | omega | (simp only [List.length_set] at *; omega)) (by first | omega | (simp only [List.length_set] at *; omega)) K26 Z3 rfl rfl ?_
 rintro p1 q1 h2
 obtain rfl : p1 = [.lit (.int .i64 (rd t332 (wrap64 ((t332.length : Int) - 1))))] := h2
 refine Opl.lda (.lit (.int .i64 (rd t332 (wrap64 ((t332.length : Int) - 1))))) rfl T3 rfl rfl rfl rfl (Opl.one (v := .lit (.int .i64 a2)) rfl rfl rfl (Opl.eql (a := (rd t332 (wrap64 ((t332.length : Int) - 1)))) (b := a2) K3 rfl rfl rfl rfl (Opl.one rfl rfl (by simp only [go_sem]; rfl) (Opl.one (v := .lit (.bool ((rd t332 (wrap64 ((t332.length : Int) - 1))) == a2))) rfl rfl rfl (Opl.nil ?_)))))
 obtain rfl := Option.some.inj H
 refine Evr.ret1 Try.func100 rfl ?_
 show (.lit (.bool ((rd t332 (wrap64 ((t332.length : Int) - 1))) == a2)) : PV) = _
 first | rfl | (simp only [go_sem]; rfl)
theorem spec_l2Rule.ev {k : Nat} {l0_0 : List ITerm} {v0_0 : PV} (hv0_0 : Sl cITerm l0_0 v0_0) {l0_1 : List Int} {v0_1 : PV} (hv0_1 : Sl (cInt .i64) l0_1 v0_1) {l0_2 : List (List ITerm)} {v0_2 : PV} (hv0_2 : Sl (cSl cITerm) l0_2 v0_2) {a1 : Int} {r : Bool} (H : spec_l2Rule.f k l0_0 l0_1 l0_2 a1 = some r) : Ret Try.prog 136 [.agg [v0_0, v0_1, v0_2], .lit (.int .i64 a1)] fun v S => v = .lit (.bool r) := by
 unfold spec_l2Rule.f at H
 refine Ret.intro Try.func136 rfl (Nat.le_of_ble_eq_true rfl) rfl ?_
 rw [tm2]
 refine Evr.seq (Evr.regionN rfl (Opl.box (cs := [v0_0, v0_1, v0_2]) rfl rfl rfl rfl ?_))
 rintro i1 S h1 u1 w1
 refine Opl.one rfl rfl (by simp only [go_sem]; rfl) (Opl.nil (Evr.seq (Evr.seq ?_)))
 refine Evr.join (fun tm S => ∃ (kq1 : Nat) (x26_1 : Bool) (i2 : Abs.Id), spec_l2Rule.j0 kq1 a1 x26_1 l0_0 l0_1 l0_2 = some r ∧ Has tm [(1, .lit (.int .i64 a1)), (2, .ptr i2 0), (26, .lit (.bool x26_1))] ∧ Box (.ptr i2 0) [v0_0, v0_1, v0_2] S) ?_ fun hk1 => ?_
 ·
  rintro tm S ⟨kq1, x26_1, i2, H, hh, h2⟩
  rw [hh.eq]
  obtain _ | k1 := kq1
  · simp [spec_l2Rule.j0] at H
  simp only [spec_l2Rule.j0] at H
  by_cases c1 : x26_1 = true
  case pos =>
   rw [if_pos c1] at H
   obtain rfl : x26_1 = true := by simpa using c1
   refine Evr.condT rfl (Evr.seq (Evr.regionN rfl (Opl.one rfl rfl (by simp only [go_sem]; rfl) (Opl.nil ?_))))
   obtain rfl := Option.some.inj H
   refine Evr.ret1 Try.func136 rfl ?_
   show (.lit (.bool false) : PV) = _
   first | rfl | (simp only [go_sem]; rfl)
  rw [if_neg c1] at H
  obtain rfl : x26_1 = false := by simpa using c1
  refine Evr.condF rfl (Evr.skip (Evr.seq (Evr.seq (Evr.regionN rfl (Opl.one rfl rfl (by simp only [go_sem]; rfl) (Opl.nil (Evr.block ?_)))))))
  refine Evr.loop (Evr.rounds (n := k1) (Inv := fun n tm S => n ≤ k1 ∧ ∃ (x5_1 : Int) (i3 : Abs.Id), spec_l2Rule.l0 n a1 x5_1 l0_0 l0_1 l0_2 = some r ∧ Has tm [(1, .lit (.int .i64 a1)), (2, .ptr i3 0), (5, .lit (.int .i64 x5_1))] ∧ Box (.ptr i3 0) [v0_0, v0_1, v0_2] S) ?_ ?_ ?_)
  · exact ⟨Nat.le_refl _, _, _, H, ⟨rfl, rfl, rfl, trivial⟩, h2⟩
  ·
   rintro tm S ⟨_, _, _, H, -⟩
   simp [spec_l2Rule.l0] at H
  ·
   rintro n1 ih1 tm S ⟨hle, x5_1, i3, H, hh, h3⟩
   simp only [spec_l2Rule.l0] at H
   rw [hh.eq]
   refine Evr.seq (Evr.seq (Evr.regionN rfl (Opl.one rfl rfl (by simp only [go_sem]; rfl) (Opl.one (v := .ptr i3 1) rfl rfl (by simp only [go_sem]; rfl) (Opl.ldb (v := v0_1) h3 rfl T26 rfl rfl rfl rfl (Opl.len (xs := l0_1) (by exact hv0_1) K26 rfl rfl rfl rfl (Opl.one rfl rfl (by simp only [go_sem]; rfl) (Opl.nil ?_))))))))
   by_cases c2 : x5_1 < (l0_1.length : Int)
   case neg =>
    rw [if_neg c2] at H
    have e8 : (decide (x5_1 < (l0_1.length : Int))) = false := by simpa using c2
    try rw [e8]
    refine Evr.condF rfl (Evr.exit rfl (Evr.seq (Evr.regionN rfl (Opl.one rfl rfl (by simp only [go_sem]; rfl) (Opl.nil ?_)))))
    obtain rfl := Option.some.inj H
    refine Evr.ret1 Try.func136 rfl ?_
    show (.lit (.bool true) : PV) = _
    first | rfl | (simp only [go_sem]; rfl)
   rw [if_pos c2] at H
   have e1 : (decide (x5_1 < (l0_1.length : Int))) = true := by simpa using c2
   try rw [e1]
   refine Evr.condT rfl (Evr.skip (Evr.seq (Evr.block (Evr.seq ?_))))
   refine Evr.join (fun tm S => ∃ (kq2 : Nat) (x70_1 : Bool) (i4 : Abs.Id), spec_l2Rule.j2 kq2 a1 x5_1 x70_1 l0_0 l0_1 l0_2 = some r ∧ kq2 ≤ n1 ∧ Has tm [(1, .lit (.int .i64 a1)), (2, .ptr i4 0), (5, .lit (.int .i64 x5_1)), (70, .lit (.bool x70_1))] ∧ Box (.ptr i4 0) [v0_0, v0_1, v0_2] S) ?_ fun hk2 => ?_
   ·
    rintro tm S ⟨kq2, x70_1, i4, H, hle, hh, h4⟩
    rw [hh.eq]
    obtain _ | k2 := kq2
    · simp [spec_l2Rule.j2] at H
    simp only [spec_l2Rule.j2] at H
    by_cases c3 : x70_1 = true
    case pos =>
     rw [if_pos c3] at H
     obtain rfl : x70_1 = true := by simpa using c3
     refine Evr.condT rfl (Evr.seq (Evr.regionN rfl (Opl.one rfl rfl (by simp only [go_sem]; rfl) (Opl.nil ?_))))
     obtain rfl := Option.some.inj H
     refine Evr.ret1 Try.func136 rfl ?_
     show (.lit (.bool false) : PV) = _
     first | rfl | (simp only [go_sem]; rfl)
    rw [if_neg c3] at H
    obtain rfl : x70_1 = false := by simpa using c3
    refine Evr.condF rfl (Evr.skip (Evr.inBlock (Evr.regionN rfl (Opl.one rfl rfl (by simp only [go_sem]; rfl) (Opl.add (k := .i64) (a := x5_1) (b := 1) K3 rfl rfl rfl rfl (Opl.one (v := .lit (.int .i64 (wrap64 (x5_1 + 1)))) rfl rfl rfl (Opl.nil ?_)))))))
    exact ih1 _ (by omega) _ _ ⟨by omega, _, _, H, ⟨rfl, rfl, rfl, trivial⟩, h4⟩
   ·
    refine Evr.regionD rfl (by kernel_rfl) (Opl.one (v := .ptr i3 1) rfl rfl (by simp only [go_sem]; rfl) (Opl.ldb (v := v0_1) h3 rfl T26 rfl rfl rfl rfl (Opl.one rfl rfl (by simp only [go_sem]; rfl) ?_)))
    obtain ⟨c4, H⟩ := peel H
    refine Opl.idx (M := (cInt .i64)) (xs := l0_1) (j := x5_1) (0 : Int) (by exact hv0_1) rfl (by first | omega | (simp only [List.length_set] at *; omega)) (by first | omega | (simp only [List.length_set] at *; omega)) K26 Z3 rfl rfl ?_
    rintro p1 q1 h5
    obtain rfl : p1 = [.lit (.int .i64 (rd l0_1 x5_1))] := h5
    refine Opl.lda (.lit (.int .i64 (rd l0_1 x5_1))) rfl T3 rfl rfl rfl rfl (Opl.one rfl rfl (by simp only [go_sem]; rfl) (Opl.subi (k := .i64) (a := a1) (b := 1) K3 rfl rfl rfl rfl ?_))
    obtain ⟨t339, h_t339, H⟩ := Option.bind_eq_some_iff.1 H
    refine Opl.callc (spec_l1In.ev h_t339) rfl rfl rfl rfl ⟨(.lit _), (.lit _), (.lit _), trivial⟩ (by decide) (Opl.one rfl rfl (by simp only [go_sem]; rfl) (Opl.one (v := .lit (.bool (!t339))) rfl rfl rfl ?_))
    by_cases c5 : t339 = true
    case neg =>
     rw [if_neg c5] at H
     have e7 : (!t339) = true := by simpa using c5
     try rw [e7]
     refine Opl.skp rfl (Opl.skp rfl (Opl.skp rfl (Opl.skp rfl (Opl.skp rfl (Opl.skp rfl (Opl.skp rfl (Opl.skp rfl (Opl.skp rfl (Opl.skp rfl (Opl.skp rfl (Opl.skp rfl (Opl.skp rfl (Opl.skp rfl (Opl.skp rfl (Opl.skp rfl (Opl.one rfl rfl (by simp only [go_sem]; rfl) (Opl.one (v := .lit (.bool true)) rfl rfl rfl (Opl.skp rfl (Opl.skp rfl (Opl.skp rfl (Opl.skp rfl (Opl.skp rfl (Opl.skp rfl (Opl.skp rfl (Opl.skp rfl (Opl.one rfl rfl (by simp only [go_sem]; rfl) (Opl.nil ?_)))))))))))))))))))))))))))
     exact hk2 _ _ ⟨_, _, _, H, by omega, ⟨rfl, rfl, rfl, (by first | rfl | (show PV.lit (.bool _) = _; congr 2; simp_all)), trivial⟩, h3⟩
    rw [if_pos c5] at H
    have e2 : (!t339) = false := by simpa using c5
    try rw [e2]
    refine Opl.one (v := .lit (.int .i64 x5_1)) rfl rfl rfl (Opl.one rfl rfl (by simp only [go_sem]; rfl) (Opl.one (v := .lit (.bool (decide (x5_1 > 0)))) rfl rfl rfl ?_))
    by_cases c6 : x5_1 > 0
    case neg =>
     rw [if_neg c6] at H
     have e6 : (decide (x5_1 > 0)) = false := by simpa using c6
     try rw [e6]
     refine Opl.skp rfl (Opl.skp rfl (Opl.skp rfl (Opl.skp rfl (Opl.skp rfl (Opl.skp rfl (Opl.skp rfl (Opl.skp rfl (Opl.skp rfl (Opl.skp rfl (Opl.skp rfl (Opl.skp rfl (Opl.one rfl rfl (by simp only [go_sem]; rfl) (Opl.one rfl rfl (by simp only [go_sem]; rfl) (Opl.one (v := .lit (.bool false)) rfl rfl rfl (Opl.one (v := .ptr i3 2) rfl rfl (by simp only [go_sem]; rfl) (Opl.ldb (v := v0_2) h3 rfl T74 rfl rfl rfl rfl (Opl.one (v := .lit (.int .i64 x5_1)) rfl rfl rfl ?_)))))))))))))))))
     obtain ⟨c11, H⟩ := peel H
     refine Opl.idx (M := (cSl cITerm)) (xs := l0_2) (j := x5_1) ([] : List ITerm) (by exact hv0_2) rfl (by first | omega | (simp only [List.length_set] at *; omega)) (by first | omega | (simp only [List.length_set] at *; omega)) K74 Z60 rfl rfl ?_
     rintro p5 q5 h10
     obtain ⟨pv2, rfl, h11⟩ := h10
     refine Opl.lda (pv2) rfl T60 rfl rfl rfl rfl (Opl.one (v := .lit (.int .i64 a1)) rfl rfl rfl ?_)
     obtain ⟨t345, h_t345, H⟩ := Option.bind_eq_some_iff.1 H
     refine Opl.callc (spec_l2Is.ev h11 h_t345) rfl rfl rfl rfl ⟨h11.plain, (.lit _), (.lit _), trivial⟩ (by decide) (Opl.one rfl rfl (by simp only [go_sem]; rfl) (Opl.one rfl rfl (by simp only [go_sem]; rfl) (Opl.nil ?_)))
     exact hk2 _ _ ⟨_, _, _, H, by omega, ⟨rfl, rfl, rfl, (by first | rfl | (show PV.lit (.bool _) = _; congr 2; simp_all)), trivial⟩, h3⟩
    rw [if_pos c6] at H
    have e3 : (decide (x5_1 > 0)) = true := by simpa using c6
    try rw [e3]
    refine Opl.one (v := .ptr i3 1) rfl rfl (by simp only [go_sem]; rfl) (Opl.ldb (v := v0_1) h3 rfl T26 rfl rfl rfl rfl (Opl.one (v := .lit (.int .i64 x5_1)) rfl rfl rfl ?_))
    obtain ⟨c7, H⟩ := peel H
    obtain ⟨c8, H⟩ := peel H
    refine Opl.idx (M := (cInt .i64)) (xs := l0_1) (j := x5_1) (0 : Int) (by exact hv0_1) rfl (by first | omega | (simp only [List.length_set] at *; omega)) (by first | omega | (simp only [List.length_set] at *; omega)) K26 Z3 rfl rfl ?_
    rintro p2 q2 h6
    obtain rfl : p2 = [.lit (.int .i64 (rd l0_1 x5_1))] := h6
    refine Opl.lda (.lit (.int .i64 (rd l0_1 x5_1))) rfl T3 rfl rfl rfl rfl (Opl.one (v := .ptr i3 1) rfl rfl (by simp only [go_sem]; rfl) (Opl.ldb (v := v0_1) h3 rfl T26 rfl rfl rfl rfl (Opl.one (v := .lit (.int .i64 x5_1)) rfl rfl rfl (Opl.subi (k := .i64) (a := x5_1) (b := 1) K3 rfl rfl rfl rfl (Opl.idx (M := (cInt .i64)) (xs := l0_1) (j := (wrap64 (x5_1 - 1))) (0 : Int) (by exact hv0_1) rfl (by first | omega | (simp only [List.length_set] at *; omega)) (by first | omega | (simp only [List.length_set] at *; omega)) K26 Z3 rfl rfl ?_)))))
    rintro p3 q3 h7
    obtain rfl : p3 = [.lit (.int .i64 (rd l0_1 (wrap64 (x5_1 - 1))))] := h7
    refine Opl.lda (.lit (.int .i64 (rd l0_1 (wrap64 (x5_1 - 1))))) rfl T3 rfl rfl rfl rfl (Opl.leq (a := (rd l0_1 x5_1)) (b := (rd l0_1 (wrap64 (x5_1 - 1)))) K3 rfl rfl rfl rfl (Opl.one rfl rfl (by simp only [go_sem]; rfl) (Opl.one rfl rfl (by simp only [go_sem]; rfl) (Opl.one (v := .lit (.bool (decide ((rd l0_1 x5_1) ≤ (rd l0_1 (wrap64 (x5_1 - 1))))))) rfl rfl rfl ?_))))
    by_cases c9 : (rd l0_1 x5_1) ≤ (rd l0_1 (wrap64 (x5_1 - 1)))
    case pos =>
     rw [if_pos c9] at H
     have e4 : (decide ((rd l0_1 x5_1) ≤ (rd l0_1 (wrap64 (x5_1 - 1))))) = true := by simpa using c9
     try rw [e4]
     refine Opl.skp rfl (Opl.skp rfl (Opl.skp rfl (Opl.skp rfl (Opl.skp rfl (Opl.skp rfl (Opl.skp rfl (Opl.skp rfl (Opl.one rfl rfl (by simp only [go_sem]; rfl) (Opl.nil ?_)))))))))
     exact hk2 _ _ ⟨_, _, _, H, by omega, ⟨rfl, rfl, rfl, (by first | rfl | (show PV.lit (.bool _) = _; congr 2; simp_all)), trivial⟩, h3⟩
    rw [if_neg c9] at H
    have e5 : (decide ((rd l0_1 x5_1) ≤ (rd l0_1 (wrap64 (x5_1 - 1))))) = false := by simpa using c9
    try rw [e5]
    refine Opl.one (v := .ptr i3 2) rfl rfl (by simp only [go_sem]; rfl) (Opl.ldb (v := v0_2) h3 rfl T74 rfl rfl rfl rfl (Opl.one (v := .lit (.int .i64 x5_1)) rfl rfl rfl ?_))
    obtain ⟨c10, H⟩ := peel H
    refine Opl.idx (M := (cSl cITerm)) (xs := l0_2) (j := x5_1) ([] : List ITerm) (by exact hv0_2) rfl (by first | omega | (simp only [List.length_set] at *; omega)) (by first | omega | (simp only [List.length_set] at *; omega)) K74 Z60 rfl rfl ?_
    rintro p4 q4 h8
    obtain ⟨pv1, rfl, h9⟩ := h8
    refine Opl.lda (pv1) rfl T60 rfl rfl rfl rfl (Opl.one (v := .lit (.int .i64 a1)) rfl rfl rfl ?_)
    obtain ⟨t343, h_t343, H⟩ := Option.bind_eq_some_iff.1 H
    refine Opl.callc (spec_l2Is.ev h9 h_t343) rfl rfl rfl rfl ⟨h9.plain, (.lit _), (.lit _), trivial⟩ (by decide) (Opl.one rfl rfl (by simp only [go_sem]; rfl) (Opl.one rfl rfl (by simp only [go_sem]; rfl) (Opl.nil ?_)))
    exact hk2 _ _ ⟨_, _, _, H, by omega, ⟨rfl, rfl, rfl, (by first | rfl | (show PV.lit (.bool _) = _; congr 2; simp_all)), trivial⟩, h3⟩
 ·
  refine Evr.regionN rfl (Opl.one (v := .ptr i1 0) rfl rfl (by simp only [go_sem]; rfl) (Opl.ldb (v := v0_0) h1 rfl T60 rfl rfl rfl rfl (Opl.one rfl rfl (by simp only [go_sem]; rfl) ?_)))
  obtain ⟨t337, h_t337, H⟩ := Option.bind_eq_some_iff.1 H
  refine Opl.callc (spec_l2Is.ev hv0_0 h_t337) rfl rfl rfl rfl ⟨hv0_0.plain, (.lit _), (.lit _), trivial⟩ (by decide) (Opl.one rfl rfl (by simp only [go_sem]; rfl) (Opl.one rfl rfl (by simp only [go_sem]; rfl) ?_))
  by_cases c12 : t337 = true
  case neg =>
   rw [if_neg c12] at H
   have e12 : (!t337) = true := by simpa using c12
   try rw [e12]
   refine Opl.skp rfl (Opl.skp rfl (Opl.skp rfl (Opl.skp rfl (Opl.skp rfl (Opl.skp rfl (Opl.skp rfl (Opl.one rfl rfl (by simp only [go_sem]; rfl) (Opl.one rfl rfl (by simp only [go_sem]; rfl) (Opl.skp rfl (Opl.skp rfl (Opl.skp rfl (Opl.skp rfl (Opl.skp rfl (Opl.one rfl rfl (by simp only [go_sem]; rfl) (Opl.nil ?_)))))))))))))))
   exact hk1 _ _ ⟨_, _, _, H, ⟨rfl, rfl, (by first | rfl | (show PV.lit (.bool _) = _; congr 2; simp_all)), trivial⟩, h1⟩
  rw [if_pos c12] at H
  have e9 : (!t337) = false := by simpa using c12
  try rw [e9]
  refine Opl.one (v := .ptr i1 1) rfl rfl (by simp only [go_sem]; rfl) (Opl.ldb (v := v0_1) h1 rfl T26 rfl rfl rfl rfl (Opl.len (xs := l0_1) (by exact hv0_1) K26 rfl rfl rfl rfl (Opl.one (v := .ptr i1 2) rfl rfl (by simp only [go_sem]; rfl) (Opl.ldb (v := v0_2) h1 rfl T74 rfl rfl rfl rfl (Opl.len (xs := l0_2) (by exact hv0_2) K74 rfl rfl rfl rfl (Opl.one rfl rfl (by simp only [go_sem]; rfl) (Opl.one rfl rfl (by simp only [go_sem]; rfl) (Opl.one rfl rfl (by simp only [go_sem]; rfl) ?_))))))))
  by_cases c13 : (l0_1.length : Int) = (l0_2.length : Int)
  case neg =>
   rw [if_neg c13] at H
   have e11 : ((l0_1.length : Int) != (l0_2.length : Int)) = true := by simpa using c13
   try rw [e11]
   refine Opl.skp rfl (Opl.skp rfl (Opl.skp rfl (Opl.skp rfl (Opl.skp rfl (Opl.one rfl rfl (by simp only [go_sem]; rfl) (Opl.nil ?_))))))
   exact hk1 _ _ ⟨_, _, _, H, ⟨rfl, rfl, (by first | rfl | (show PV.lit (.bool _) = _; congr 2; simp_all)), trivial⟩, h1⟩
  rw [if_pos c13] at H
  have e10 : ((l0_1.length : Int) != (l0_2.length : Int)) = false := by simpa using c13
  try rw [e10]
  refine Opl.one (v := .ptr i1 1) rfl rfl (by simp only [go_sem]; rfl) (Opl.ldb (v := v0_1) h1 rfl T26 rfl rfl rfl rfl (Opl.len (xs := l0_1) (by exact hv0_1) K26 rfl rfl rfl rfl (Opl.one rfl rfl (by simp only [go_sem]; rfl) (Opl.one rfl rfl (by simp only [go_sem]; rfl) (Opl.one rfl rfl (by simp only [go_sem]; rfl) (Opl.nil ?_))))))
  exact hk1 _ _ ⟨_, _, _, H, ⟨rfl, rfl, (by first | rfl | (show PV.lit (.bool _) = _; congr 2; simp_all)), trivial⟩, h1⟩
theorem spec_l2Var.ev {a0_0 : Int} {a0_1 : Int} {a0_2 : Int} {r : Bool} (H : spec_l2Var.f a0_0 a0_1 a0_2 = some r) : Ret Try.prog 135 [.agg [.lit (.int .i64 a0_0), .lit (.int .i64 a0_1), .lit (.int .i64 a0_2)]] fun v S => v = .lit (.bool r) := by
 unfold spec_l2Var.f at H
 refine Ret.intro Try.func135 rfl (Nat.le_of_ble_eq_true rfl) rfl ?_
 rw [tm1]
 refine Evr.seq (Evr.regionN rfl (Opl.box (cs := [.lit (.int .i64 a0_0), .lit (.int .i64 a0_1), .lit (.int .i64 a0_2)]) rfl rfl rfl rfl ?_))
 rintro i1 S h1 u1 w1
 refine Opl.one rfl rfl (by simp only [go_sem]; rfl) (Opl.nil (Evr.seq (Evr.regionN rfl (Opl.one (v := .ptr i1 0) rfl rfl (by simp only [go_sem]; rfl) (Opl.ldb (v := .lit (.int .i64 a0_0)) h1 rfl T3 rfl rfl rfl rfl ?_)))))
 obtain ⟨t310, h_t310, H⟩ := Option.bind_eq_some_iff.1 H
 refine Opl.callc (spec_l1In.ev h_t310) rfl rfl rfl rfl ⟨(.lit _), (.lit _), (.lit _), trivial⟩ (by decide) (Opl.one rfl rfl (by simp only [go_sem]; rfl) ?_)
 by_cases c1 : t310 = true
 case neg =>
  rw [if_neg c1] at H
  obtain rfl : t310 = false := by simpa using c1
  refine Opl.skp rfl (Opl.skp rfl (Opl.skp rfl (Opl.skp rfl (Opl.skp rfl (Opl.one rfl rfl (by simp only [go_sem]; rfl) (Opl.one rfl rfl (by simp only [go_sem]; rfl) (Opl.skp rfl (Opl.skp rfl (Opl.skp rfl (Opl.skp rfl (Opl.skp rfl (Opl.skp rfl (Opl.one rfl rfl (by simp only [go_sem]; rfl) (Opl.one rfl rfl (by simp only [go_sem]; rfl) (Opl.skp rfl (Opl.skp rfl (Opl.skp rfl (Opl.skp rfl (Opl.skp rfl (Opl.skp rfl (Opl.skp rfl (Opl.one rfl rfl (by simp only [go_sem]; rfl) (Opl.one rfl rfl (by simp only [go_sem]; rfl) (Opl.nil ?_))))))))))))))))))))))))
  obtain rfl := Option.some.inj H
  refine Evr.ret1 Try.func135 rfl ?_
  show (.lit (.bool false) : PV) = _
  first | rfl | (simp only [go_sem]; rfl)
 rw [if_pos c1] at H
 obtain rfl : t310 = true := by simpa using c1
 refine Opl.one (v := .ptr i1 1) rfl rfl (by simp only [go_sem]; rfl) (Opl.ldb (v := .lit (.int .i64 a0_1)) h1 rfl T3 rfl rfl rfl rfl (Opl.one (v := .ptr i1 0) rfl rfl (by simp only [go_sem]; rfl) (Opl.ldb (v := .lit (.int .i64 a0_0)) h1 rfl T3 rfl rfl rfl rfl ?_)))
 obtain ⟨t311, h_t311, H⟩ := Option.bind_eq_some_iff.1 H
 refine Opl.callc (spec_l1In.ev h_t311) rfl rfl rfl rfl ⟨(.lit _), (.lit _), (.lit _), trivial⟩ (by decide) (Opl.one rfl rfl (by simp only [go_sem]; rfl) (Opl.one rfl rfl (by simp only [go_sem]; rfl) ?_))
 by_cases c2 : t311 = true
 case neg =>
  rw [if_neg c2] at H
  obtain rfl : t311 = false := by simpa using c2
  refine Opl.skp rfl (Opl.skp rfl (Opl.skp rfl (Opl.skp rfl (Opl.skp rfl (Opl.skp rfl (Opl.one rfl rfl (by simp only [go_sem]; rfl) (Opl.one rfl rfl (by simp only [go_sem]; rfl) (Opl.skp rfl (Opl.skp rfl (Opl.skp rfl (Opl.skp rfl (Opl.skp rfl (Opl.skp rfl (Opl.skp rfl (Opl.one rfl rfl (by simp only [go_sem]; rfl) (Opl.one rfl rfl (by simp only [go_sem]; rfl) (Opl.nil ?_)))))))))))))))))
  obtain rfl := Option.some.inj H
  refine Evr.ret1 Try.func135 rfl ?_
  show (.lit (.bool false) : PV) = _
  first | rfl | (simp only [go_sem]; rfl)
 rw [if_pos c2] at H
 obtain rfl : t311 = true := by simpa using c2
 refine Opl.one (v := .ptr i1 1) rfl rfl (by simp only [go_sem]; rfl) (Opl.ldb (v := .lit (.int .i64 a0_1)) h1 rfl T3 rfl rfl rfl rfl (Opl.one (v := .ptr i1 0) rfl rfl (by simp only [go_sem]; rfl) (Opl.ldb (v := .lit (.int .i64 a0_0)) h1 rfl T3 rfl rfl rfl rfl (Opl.subi (k := .i64) (a := a0_1) (b := a0_0) K3 rfl rfl rfl rfl (Opl.lss (a := (wrap64 (a0_1 - a0_0))) (b := 20) K3 rfl rfl rfl rfl (Opl.one rfl rfl (by simp only [go_sem]; rfl) (Opl.one (v := .lit (.bool (decide ((wrap64 (a0_1 - a0_0)) < 20)))) rfl rfl rfl ?_)))))))
 by_cases c3 : (wrap64 (a0_1 - a0_0)) < 20
 case neg =>
  rw [if_neg c3] at H
  have e2 : (decide ((wrap64 (a0_1 - a0_0)) < 20)) = false := by simpa using c3
  try rw [e2]
  refine Opl.skp rfl (Opl.skp rfl (Opl.skp rfl (Opl.skp rfl (Opl.skp rfl (Opl.skp rfl (Opl.skp rfl (Opl.one rfl rfl (by simp only [go_sem]; rfl) (Opl.one (v := .lit (.bool false)) rfl rfl rfl (Opl.nil ?_)))))))))
  obtain rfl := Option.some.inj H
  refine Evr.ret1 Try.func135 rfl ?_
  show (.lit (.bool false) : PV) = _
  first | rfl | (simp only [go_sem]; rfl)
 rw [if_pos c3] at H
 have e1 : (decide ((wrap64 (a0_1 - a0_0)) < 20)) = true := by simpa using c3
 try rw [e1]
 refine Opl.one (v := .ptr i1 2) rfl rfl (by simp only [go_sem]; rfl) (Opl.ldb (v := .lit (.int .i64 a0_2)) h1 rfl T3 rfl rfl rfl rfl (Opl.one (v := .ptr i1 0) rfl rfl (by simp only [go_sem]; rfl) (Opl.ldb (v := .lit (.int .i64 a0_0)) h1 rfl T3 rfl rfl rfl rfl (Opl.one (v := .ptr i1 1) rfl rfl (by simp only [go_sem]; rfl) (Opl.ldb (v := .lit (.int .i64 a0_1)) h1 rfl T3 rfl rfl rfl rfl ?_)))))
 obtain ⟨t312, h_t312, H⟩ := Option.bind_eq_some_iff.1 H
 refine Opl.callc (spec_l1In.ev h_t312) rfl rfl rfl rfl ⟨(.lit _), (.lit _), (.lit _), trivial⟩ (by decide) (Opl.one rfl rfl (by simp only [go_sem]; rfl) (Opl.one (v := .lit (.bool t312)) rfl rfl rfl (Opl.nil ?_)))
 obtain rfl := Option.some.inj H
 refine Evr.ret1 Try.func135 rfl ?_
 show (.lit (.bool t312) : PV) = _
 first | rfl | (simp only [go_sem]; rfl)
theorem spec_SystemValid.ev {k : Nat} {l0_0 : List IVar} {v0_0 : PV} (hv0_0 : Sl cIVar l0_0 v0_0) {l0_1 : List IRule} {v0_1 : PV} (hv0_1 : Sl cIRule l0_1 v0_1) {r : Bool} (H : spec_SystemValid.f k l0_0 l0_1 = some r) : Ret Try.prog 75 [.agg [v0_0, v0_1]] fun v S => v = .lit (.bool r) := by
 unfold spec_SystemValid.f at H
 refine Ret.intro Try.func75 rfl (Nat.le_of_ble_eq_true rfl) rfl ?_
 rw [tm1]
 refine Evr.seq (Evr.regionN rfl (Opl.box (cs := [v0_0, v0_1]) rfl rfl rfl rfl ?_))
 rintro i1 S h1 u1 w1
 refine Opl.one rfl rfl (by simp only [go_sem]; rfl) (Opl.nil (Evr.seq (Evr.seq ?_)))
 refine Evr.join (fun tm S => ∃ (kq1 : Nat) (x16_1 : Bool) (i2 : Abs.Id), spec_SystemValid.j0 kq1 x16_1 l0_0 l0_1 = some r ∧ Has tm [(1, .ptr i2 0), (16, .lit (.bool x16_1))] ∧ Box (.ptr i2 0) [v0_0, v0_1] S) ?_ fun hk1 => ?_
 ·
  rintro tm S ⟨kq1, x16_1, i2, H, hh, h2⟩
  rw [hh.eq]
  obtain _ | k1 := kq1
  · simp [spec_SystemValid.j0] at H
  simp only [spec_SystemValid.j0] at H
  by_cases c1 : x16_1 = true
  case pos =>
   rw [if_pos c1] at H
   obtain rfl : x16_1 = true := by simpa using c1
   refine Evr.condT rfl (Evr.seq (Evr.regionN rfl (Opl.one rfl rfl (by simp only [go_sem]; rfl) (Opl.nil ?_))))
   obtain rfl := Option.some.inj H
   refine Evr.ret1 Try.func75 rfl ?_
   show (.lit (.bool false) : PV) = _
   first | rfl | (simp only [go_sem]; rfl)
  rw [if_neg c1] at H
  obtain rfl : x16_1 = false := by simpa using c1
  refine Evr.condF rfl (Evr.skip (Evr.seq (Evr.regionN rfl (Opl.one rfl rfl (by simp only [go_sem]; rfl) (Opl.nil (Evr.seq (Evr.seq (Evr.regionN rfl (Opl.one rfl rfl (by simp only [go_sem]; rfl) (Opl.nil (Evr.block ?_)))))))))))
  refine Evr.loop (Evr.rounds (n := k1) (Inv := fun n tm S => n ≤ k1 ∧ ∃ (x3_1 : Int) (x4_1 : Int) (i3 : Abs.Id), spec_SystemValid.l0 n x3_1 x4_1 l0_0 l0_1 = some r ∧ Has tm [(1, .ptr i3 0), (3, .lit (.int .i64 x3_1)), (4, .lit (.int .i64 x4_1))] ∧ Box (.ptr i3 0) [v0_0, v0_1] S) ?_ ?_ ?_)
  · exact ⟨Nat.le_refl _, _, _, _, H, ⟨rfl, rfl, rfl, trivial⟩, h2⟩
  ·
   rintro tm S ⟨_, _, _, _, H, -⟩
   simp [spec_SystemValid.l0] at H
  ·
   rintro n1 ih1 tm S ⟨hle, x3_1, x4_1, i3, H, hh, h3⟩
   simp only [spec_SystemValid.l0] at H
   rw [hh.eq]
   refine Evr.seq (Evr.seq (Evr.regionN rfl (Opl.one rfl rfl (by simp only [go_sem]; rfl) (Opl.one (v := .ptr i3 0) rfl rfl (by simp only [go_sem]; rfl) (Opl.ldb (v := v0_0) h3 rfl T29 rfl rfl rfl rfl (Opl.len (xs := l0_0) (by exact hv0_0) K29 rfl rfl rfl rfl (Opl.one rfl rfl (by simp only [go_sem]; rfl) (Opl.nil ?_))))))))
   by_cases c2 : x4_1 < (l0_0.length : Int)
   case neg =>
    rw [if_neg c2] at H
    have e4 : (decide (x4_1 < (l0_0.length : Int))) = false := by simpa using c2
    try rw [e4]
    refine Evr.condF rfl (Evr.exit rfl (Evr.seq (Evr.seq (Evr.regionN rfl (Opl.one rfl rfl (by simp only [go_sem]; rfl) (Opl.nil (Evr.block ?_)))))))
    refine Evr.loop (Evr.rounds (n := n1) (Inv := fun n tm S => n ≤ n1 ∧ ∃ (x5_1 : Int) (i4 : Abs.Id), spec_SystemValid.l1 n x3_1 x5_1 l0_0 l0_1 = some r ∧ Has tm [(1, .ptr i4 0), (3, .lit (.int .i64 x3_1)), (5, .lit (.int .i64 x5_1))] ∧ Box (.ptr i4 0) [v0_0, v0_1] S) ?_ ?_ ?_)
    · exact ⟨Nat.le_refl _, _, _, H, ⟨rfl, rfl, rfl, trivial⟩, h3⟩
    ·
     rintro tm S ⟨_, _, _, H, -⟩
     simp [spec_SystemValid.l1] at H
    ·
     rintro n2 ih2 tm S ⟨hle, x5_1, i4, H, hh, h7⟩
     simp only [spec_SystemValid.l1] at H
     rw [hh.eq]
     refine Evr.seq (Evr.seq (Evr.regionN rfl (Opl.one rfl rfl (by simp only [go_sem]; rfl) (Opl.one (v := .ptr i4 1) rfl rfl (by simp only [go_sem]; rfl) (Opl.ldb (v := v0_1) h7 rfl T30 rfl rfl rfl rfl (Opl.len (xs := l0_1) (by exact hv0_1) K30 rfl rfl rfl rfl (Opl.one rfl rfl (by simp only [go_sem]; rfl) (Opl.nil ?_))))))))
     by_cases c5 : x5_1 < (l0_1.length : Int)
     case neg =>
      rw [if_neg c5] at H
      have e8 : (decide (x5_1 < (l0_1.length : Int))) = false := by simpa using c5
      try rw [e8]
      refine Evr.condF rfl (Evr.exit rfl (Evr.seq (Evr.regionN rfl (Opl.one rfl rfl (by simp only [go_sem]; rfl) (Opl.one rfl rfl (by simp only [go_sem]; rfl) (Opl.one rfl rfl (by simp only [go_sem]; rfl) (Opl.nil ?_)))))))
      obtain rfl := Option.some.inj H
      refine Evr.ret1 Try.func75 rfl ?_
      show (.lit (.bool (decide (x3_1 ≤ 400))) : PV) = _
      first | rfl | (simp only [go_sem]; rfl)
     rw [if_pos c5] at H
     have e5 : (decide (x5_1 < (l0_1.length : Int))) = true := by simpa using c5
     try rw [e5]
     refine Evr.condT rfl (Evr.skip (Evr.seq (Evr.block (Evr.seq (Evr.regionD rfl (by kernel_rfl) (Opl.one (v := .ptr i4 1) rfl rfl (by simp only [go_sem]; rfl) (Opl.ldb (v := v0_1) h7 rfl T30 rfl rfl rfl rfl (Opl.one rfl rfl (by simp only [go_sem]; rfl) ?_))))))))
     obtain ⟨c6, H⟩ := peel H
     refine Opl.idx (M := cIRule) (xs := l0_1) (j := x5_1) zIRule (by exact hv0_1) rfl (by first | omega | (simp only [List.length_set] at *; omega)) (by first | omega | (simp only [List.length_set] at *; omega)) K30 Z125 rfl rfl ?_
     rintro p4 q4 h8
     obtain ⟨pv1, pv2, pv3, rfl, h9, h10, h11⟩ := cIRule_R (x := (rd_IRule l0_1 x5_1)) h8
     refine Opl.lda (.agg [pv1, pv2, pv3]) rfl T125 rfl rfl rfl rfl (Opl.one (v := .ptr i4 0) rfl rfl (by simp only [go_sem]; rfl) (Opl.ldb (v := v0_0) h7 rfl T29 rfl rfl rfl rfl (Opl.len (xs := l0_0) (by exact hv0_0) K29 rfl rfl rfl rfl ?_)))
     obtain ⟨t353, h_t353, H⟩ := Option.bind_eq_some_iff.1 H
     refine Opl.callc (spec_l2Rule.ev h9 h10 h11 h_t353) rfl rfl rfl rfl ⟨(.aggL ⟨h9.plain, h10.plain, h11.plain, trivial⟩), (.lit _), trivial⟩ (by decide) (Opl.one rfl rfl (by simp only [go_sem]; rfl) (Opl.nil ?_))
     by_cases c7 : t353 = true
     case neg =>
      rw [if_neg c7] at H
      have e7 : (!t353) = true := by simpa using c7
      try rw [e7]
      refine Evr.condT rfl (Evr.seq (Evr.regionN rfl (Opl.one rfl rfl (by simp only [go_sem]; rfl) (Opl.nil ?_))))
      obtain rfl := Option.some.inj H
      refine Evr.ret1 Try.func75 rfl ?_
      show (.lit (.bool false) : PV) = _
      first | rfl | (simp only [go_sem]; rfl)
     rw [if_pos c7] at H
     have e6 : (!t353) = false := by simpa using c7
     try rw [e6]
     refine Evr.condF rfl (Evr.skip (Evr.inBlock (Evr.regionN rfl (Opl.one rfl rfl (by simp only [go_sem]; rfl) (Opl.add (k := .i64) (a := x5_1) (b := 1) K3 rfl rfl rfl rfl (Opl.one (v := .lit (.int .i64 (wrap64 (x5_1 + 1)))) rfl rfl rfl (Opl.nil ?_)))))))
     exact ih2 _ (by omega) _ _ ⟨by omega, _, _, H, ⟨rfl, rfl, rfl, trivial⟩, h7⟩
   rw [if_pos c2] at H
   have e1 : (decide (x4_1 < (l0_0.length : Int))) = true := by simpa using c2
   try rw [e1]
   refine Evr.condT rfl (Evr.skip (Evr.seq (Evr.block (Evr.seq (Evr.seq (Evr.regionN rfl (Opl.one (v := .ptr i3 0) rfl rfl (by simp only [go_sem]; rfl) (Opl.ldb (v := v0_0) h3 rfl T29 rfl rfl rfl rfl (Opl.one rfl rfl (by simp only [go_sem]; rfl) ?_)))))))))
   obtain ⟨c3, H⟩ := peel H
   refine Opl.idx (M := cIVar) (xs := l0_0) (j := x4_1) zIVar (by exact hv0_0) rfl (by first | omega | (simp only [List.length_set] at *; omega)) (by first | omega | (simp only [List.length_set] at *; omega)) K29 Z97 rfl rfl ?_
   rintro p1 q1 h4
   obtain rfl := cIVar_R (x := (rd_IVar l0_0 x4_1)) h4
   refine Opl.lda (.agg [.lit (.int .i64 ((rd_IVar l0_0 x4_1).f0)), .lit (.int .i64 ((rd_IVar l0_0 x4_1).f1)), .lit (.int .i64 ((rd_IVar l0_0 x4_1).f2))]) rfl T97 rfl rfl rfl rfl ?_
   obtain ⟨t349, h_t349, H⟩ := Option.bind_eq_some_iff.1 H
   refine Opl.callc (spec_l2Var.ev h_t349) rfl rfl rfl rfl ⟨(.aggL ⟨(.lit _), (.lit _), (.lit _), trivial⟩), trivial⟩ (by decide) (Opl.one rfl rfl (by simp only [go_sem]; rfl) (Opl.nil ?_))
   by_cases c4 : t349 = true
   case neg =>
    rw [if_neg c4] at H
    have e3 : (!t349) = true := by simpa using c4
    try rw [e3]
    refine Evr.condT rfl (Evr.seq (Evr.regionN rfl (Opl.one rfl rfl (by simp only [go_sem]; rfl) (Opl.nil ?_))))
    obtain rfl := Option.some.inj H
    refine Evr.ret1 Try.func75 rfl ?_
    show (.lit (.bool false) : PV) = _
    first | rfl | (simp only [go_sem]; rfl)
   rw [if_pos c4] at H
   have e2 : (!t349) = false := by simpa using c4
   try rw [e2]
   refine Evr.condF rfl (Evr.skip (Evr.regionD rfl (by kernel_rfl) (Opl.one rfl rfl (by simp only [go_sem]; rfl) (Opl.one (v := .ptr i3 0) rfl rfl (by simp only [go_sem]; rfl) (Opl.ldb (v := v0_0) h3 rfl T29 rfl rfl rfl rfl (Opl.one rfl rfl (by simp only [go_sem]; rfl) (Opl.idx (M := cIVar) (xs := l0_0) (j := x4_1) zIVar (by exact hv0_0) rfl (by first | omega | (simp only [List.length_set] at *; omega)) (by first | omega | (simp only [List.length_set] at *; omega)) K29 Z97 rfl rfl ?_)))))))
   rintro p2 q2 h5
   obtain rfl := cIVar_R (x := (rd_IVar l0_0 x4_1)) h5
   refine Opl.one (v := .fel ((.lit (.int .i64 ((rd_IVar l0_0 x4_1).f1))) :: (.lit (.int .i64 ((rd_IVar l0_0 x4_1).f2))) :: q2)) rfl rfl (by simp only [go_sem]; rfl) (Opl.lda (.lit (.int .i64 ((rd_IVar l0_0 x4_1).f1))) rfl T3 rfl rfl rfl rfl (Opl.one (v := .ptr i3 0) rfl rfl (by simp only [go_sem]; rfl) (Opl.ldb (v := v0_0) h3 rfl T29 rfl rfl rfl rfl (Opl.one rfl rfl (by simp only [go_sem]; rfl) (Opl.idx (M := cIVar) (xs := l0_0) (j := x4_1) zIVar (by exact hv0_0) rfl (by first | omega | (simp only [List.length_set] at *; omega)) (by first | omega | (simp only [List.length_set] at *; omega)) K29 Z97 rfl rfl ?_)))))
   rintro p3 q3 h6
   obtain rfl := cIVar_R (x := (rd_IVar l0_0 x4_1)) h6
   refine Opl.one (v := .fel ((.lit (.int .i64 ((rd_IVar l0_0 x4_1).f0))) :: (.lit (.int .i64 ((rd_IVar l0_0 x4_1).f1))) :: (.lit (.int .i64 ((rd_IVar l0_0 x4_1).f2))) :: q3)) rfl rfl (by simp only [go_sem]; rfl) (Opl.lda (.lit (.int .i64 ((rd_IVar l0_0 x4_1).f0))) rfl T3 rfl rfl rfl rfl (Opl.subi (k := .i64) (a := ((rd_IVar l0_0 x4_1).f1)) (b := ((rd_IVar l0_0 x4_1).f0)) K3 rfl rfl rfl rfl (Opl.add (k := .i64) (a := (wrap64 (((rd_IVar l0_0 x4_1).f1) - ((rd_IVar l0_0 x4_1).f0)))) (b := 1) K3 rfl rfl rfl rfl (Opl.mul (k := .i64) (a := x3_1) (b := (wrap64 ((wrap64 (((rd_IVar l0_0 x4_1).f1) - ((rd_IVar l0_0 x4_1).f0))) + 1))) K3 rfl rfl rfl rfl (Opl.one (v := .lit (.int .i64 (wrap64 (x3_1 * (wrap64 ((wrap64 (((rd_IVar l0_0 x4_1).f1) - ((rd_IVar l0_0 x4_1).f0))) + 1)))))) rfl rfl rfl (Opl.nil (Evr.inBlock (Evr.regionN rfl (Opl.one (v := .lit (.int .i64 x4_1)) rfl rfl rfl (Opl.add (k := .i64) (a := x4_1) (b := 1) K3 rfl rfl rfl rfl (Opl.one (v := .lit (.int .i64 (wrap64 (x4_1 + 1)))) rfl rfl rfl (Opl.nil ?_))))))))))))
   exact ih1 _ (by omega) _ _ ⟨by omega, _, _, _, H, ⟨rfl, rfl, rfl, trivial⟩, h3⟩
 ·
  refine Evr.regionN rfl (Opl.one (v := .ptr i1 0) rfl rfl (by simp only [go_sem]; rfl) (Opl.ldb (v := v0_0) h1 rfl T29 rfl rfl rfl rfl (Opl.len (xs := l0_0) (by exact hv0_0) K29 rfl rfl rfl rfl ?_)))
  obtain ⟨t347, h_t347, H⟩ := Option.bind_eq_some_iff.1 H
  refine Opl.callc (spec_l1In.ev h_t347) rfl rfl rfl rfl ⟨(.lit _), (.lit _), (.lit _), trivial⟩ (by decide) (Opl.one rfl rfl (by simp only [go_sem]; rfl) (Opl.one rfl rfl (by simp only [go_sem]; rfl) ?_))
  by_cases c8 : t347 = true
  case neg =>
   rw [if_neg c8] at H
   have e10 : (!t347) = true := by simpa using c8
   try rw [e10]
   refine Opl.skp rfl (Opl.skp rfl (Opl.skp rfl (Opl.skp rfl (Opl.one rfl rfl (by simp only [go_sem]; rfl) (Opl.nil ?_)))))
   exact hk1 _ _ ⟨_, _, _, H, ⟨rfl, (by first | rfl | (show PV.lit (.bool _) = _; congr 2; simp_all)), trivial⟩, h1⟩
  rw [if_pos c8] at H
  have e9 : (!t347) = false := by simpa using c8
  try rw [e9]
  refine Opl.one (v := .ptr i1 1) rfl rfl (by simp only [go_sem]; rfl) (Opl.ldb (v := v0_1) h1 rfl T30 rfl rfl rfl rfl (Opl.len (xs := l0_1) (by exact hv0_1) K30 rfl rfl rfl rfl (Opl.one rfl rfl (by simp only [go_sem]; rfl) (Opl.one rfl rfl (by simp only [go_sem]; rfl) (Opl.nil ?_)))))
  exact hk1 _ _ ⟨_, _, _, H, ⟨rfl, (by first | rfl | (show PV.lit (.bool _) = _; congr 2; simp_all)), trivial⟩, h1⟩
theorem spec_FirstState.ev {k : Nat} {l0_0 : List IVar} {v0_0 : PV} (hv0_0 : Sl cIVar l0_0 v0_0) {l0_1 : List IRule} {v0_1 : PV} (hv0_1 : Sl cIRule l0_1 v0_1) {r : (List Int)} (H : spec_FirstState.f k l0_0 l0_1 = some r) : Ret Try.prog 78 [.agg [v0_0, v0_1]] fun v S => Vec (cInt .i64) r v S := by
 unfold spec_FirstState.f at H
 refine Ret.intro Try.func78 rfl (Nat.le_of_ble_eq_true rfl) rfl ?_
 rw [tm1]
 refine Evr.seq (Evr.regionN rfl (Opl.box (cs := [v0_0, v0_1]) rfl rfl rfl rfl ?_))
 rintro i1 S h1 u1 w1
 refine Opl.one rfl rfl (by simp only [go_sem]; rfl) (Opl.nil (Evr.seq (Evr.regionN rfl (Opl.lits (M := (cInt .i64)) (ys := []) [] K26 T3 rfl rfl rfl trivial rfl (by decide) rfl rfl rfl ?_))))
 rintro pv1 S h2 u2 w2
 have ap1 := w2.box h1
 have h3 := u2.box h1 ap1
 refine Opl.one rfl rfl (by simp only [go_sem]; rfl) (Opl.nil (Evr.seq (Evr.seq (Evr.regionN rfl (Opl.one rfl rfl (by simp only [go_sem]; rfl) (Opl.nil (Evr.block ?_)))))))
 refine Evr.loop (Evr.rounds (n := k) (Inv := fun n tm S => n ≤ k ∧ ∃ (x3_1 : List Int) (x4_1 : Int) (i2 : Abs.Id) (pv2 : PV), spec_FirstState.l0 n x3_1 x4_1 l0_0 l0_1 = some r ∧ Has tm [(1, .ptr i2 0), (3, pv2), (4, .lit (.int .i64 x4_1))] ∧ Box (.ptr i2 0) [v0_0, v0_1] S ∧ Vec (cInt .i64) x3_1 pv2 S ∧ Ap (.ptr i2 0) pv2) ?_ ?_ ?_)
 · exact ⟨Nat.le_refl _, _, _, _, _, H, ⟨rfl, rfl, rfl, trivial⟩, h3, h2, ap1⟩
 ·
  rintro tm S ⟨_, _, _, _, _, H, -⟩
  simp [spec_FirstState.l0] at H
 ·
  rintro n1 ih1 tm S ⟨hle, x3_1, x4_1, i2, pv2, H, hh, h4, h5, ap2⟩
  simp only [spec_FirstState.l0] at H
  rw [hh.eq]
  refine Evr.seq (Evr.seq (Evr.regionN rfl (Opl.one rfl rfl (by simp only [go_sem]; rfl) (Opl.one (v := .ptr i2 0) rfl rfl (by simp only [go_sem]; rfl) (Opl.ldb (v := v0_0) h4 rfl T29 rfl rfl rfl rfl (Opl.len (xs := l0_0) (by exact hv0_0) K29 rfl rfl rfl rfl (Opl.one rfl rfl (by simp only [go_sem]; rfl) (Opl.one rfl rfl (by simp only [go_sem]; rfl) ?_))))))))
  by_cases c1 : x4_1 < (l0_0.length : Int)
  case neg =>
   rw [if_neg c1] at H
   have e2 : (decide (x4_1 < (l0_0.length : Int))) = false := by simpa using c1
   try rw [e2]
   refine Opl.skp rfl (Opl.skp rfl (Opl.one rfl rfl (by simp only [go_sem]; rfl) (Opl.nil (Evr.condF rfl (Evr.exit rfl (Evr.seq (Evr.regionN rfl (Opl.one rfl rfl (by simp only [go_sem]; rfl) (Opl.one rfl rfl (by simp only [go_sem]; rfl) (Opl.nil ?_))))))))))
   obtain rfl := Option.some.inj H
   refine Evr.ret1 Try.func78 rfl ?_
   show Vec _ _ pv2 _
   exact h5
  rw [if_pos c1] at H
  have e1 : (decide (x4_1 < (l0_0.length : Int))) = true := by simpa using c1
  try rw [e1]
  refine Opl.ldb (v := .agg [v0_0, v0_1]) h4 rfl T32 rfl rfl rfl rfl ?_
  obtain ⟨t358, h_t358, H⟩ := Option.bind_eq_some_iff.1 H
  refine Opl.callc (spec_SystemValid.ev hv0_0 hv0_1 h_t358) rfl rfl rfl rfl ⟨(.aggL ⟨hv0_0.plain, hv0_1.plain, trivial⟩), trivial⟩ (by decide) (Opl.one rfl rfl (by simp only [go_sem]; rfl) (Opl.nil ?_))
  by_cases c2 : t358 = true
  case neg =>
   rw [if_neg c2] at H
   obtain rfl : t358 = false := by simpa using c2
   refine Evr.condF rfl (Evr.exit rfl (Evr.seq (Evr.regionN rfl (Opl.one rfl rfl (by simp only [go_sem]; rfl) (Opl.one rfl rfl (by simp only [go_sem]; rfl) (Opl.nil ?_))))))
   obtain rfl := Option.some.inj H
   refine Evr.ret1 Try.func78 rfl ?_
   show Vec _ _ pv2 _
   exact h5
  rw [if_pos c2] at H
  obtain rfl : t358 = true := by simpa using c2
  refine Evr.condT rfl (Evr.skip (Evr.seq (Evr.block (Evr.regionN rfl (Opl.one rfl rfl (by simp only [go_sem]; rfl) (Opl.one (v := .ptr i2 0) rfl rfl (by simp only [go_sem]; rfl) (Opl.ldb (v := v0_0) h4 rfl T29 rfl rfl rfl rfl (Opl.one rfl rfl (by simp only [go_sem]; rfl) ?_))))))))
  obtain ⟨c3, H⟩ := peel H
  obtain ⟨c4, H⟩ := peel H
  refine Opl.idx (M := cIVar) (xs := l0_0) (j := x4_1) zIVar (by exact hv0_0) rfl (by first | omega | (simp only [List.length_set] at *; omega)) (by first | omega | (simp only [List.length_set] at *; omega)) K29 Z97 rfl rfl ?_
  rintro p1 q1 h6
  obtain rfl := cIVar_R (x := (rd_IVar l0_0 x4_1)) h6
  refine Opl.one (v := .fel ((.lit (.int .i64 ((rd_IVar l0_0 x4_1).f2))) :: q1)) rfl rfl (by simp only [go_sem]; rfl) (Opl.lda (.lit (.int .i64 ((rd_IVar l0_0 x4_1).f2))) rfl T3 rfl rfl rfl rfl (Opl.lits (M := (cInt .i64)) (ys := [((rd_IVar l0_0 x4_1).f2)]) [.tmp 23] K26 T3 rfl rfl rfl (by exact ⟨rfl, trivial⟩) rfl (by decide) rfl rfl rfl ?_))
  rintro pv3 S h7 u3 w3
  have ap3 := w3.box h4
  have h8 := u3.box h4 ap3
  have ap4 := w3.vec h5
  have h9 := u3.vec h5 ap4
  refine Opl.app (M := (cInt .i64)) (xs := x3_1) (ys := [((rd_IVar l0_0 x4_1).f2)]) (v := pv2) h9 (.vec h7) (oInt .i64) rfl rfl K26 T3 rfl rfl (by (try simp only [List.length_cons, List.length_nil]); omega) (by show (_ + _) * 8 ≤ 140737488355328; (try simp only [List.length_cons, List.length_nil]); omega) rfl rfl rfl rfl rfl ?_
  rintro pv4 S h10 u4 w4
  have ap5 := w4.box h8
  have h11 := u4.box h8 ap2
  have ap6 := w4.vec h7
  have h12 := u4.vec h7 ap4.symm
  refine Opl.one rfl rfl (by simp only [go_sem]; rfl) (Opl.nil (Evr.inBlock (Evr.regionN rfl (Opl.one rfl rfl (by simp only [go_sem]; rfl) (Opl.add (k := .i64) (a := x4_1) (b := 1) K3 rfl rfl rfl rfl (Opl.one (v := .lit (.int .i64 (wrap64 (x4_1 + 1)))) rfl rfl rfl (Opl.nil ?_)))))))
  exact ih1 _ (by omega) _ _ ⟨by omega, _, _, _, _, H, ⟨rfl, rfl, rfl, trivial⟩, h11, h10, ap5⟩
theorem spec_l2In.ev {k : Nat} {l0_0 : List IVar} {v0_0 : PV} (hv0_0 : Sl cIVar l0_0 v0_0) {l0_1 : List IRule} {v0_1 : PV} (hv0_1 : Sl cIRule l0_1 v0_1) {l1 : List Int} {v1 : PV} (hv1 : Sl (cInt .i64) l1 v1) {r : Bool} (H : spec_l2In.f k l0_0 l0_1 l1 = some r) : Ret Try.prog 65 [.agg [v0_0, v0_1], v1] fun v S => v = .lit (.bool r) := by
 unfold spec_l2In.f at H
 refine Ret.intro Try.func65 rfl (Nat.le_of_ble_eq_true rfl) rfl ?_
 rw [tm2]
 refine Evr.seq (Evr.regionN rfl (Opl.box (cs := [v0_0, v0_1]) rfl rfl rfl rfl ?_))
 rintro i1 S h1 u1 w1
 refine Opl.one rfl rfl (by simp only [go_sem]; rfl) (Opl.nil (Evr.seq (Evr.seq (Evr.regionN rfl (Opl.one rfl rfl (by simp only [go_sem]; rfl) (Opl.len (xs := l1) (by exact hv1) K26 rfl rfl rfl rfl (Opl.one (v := .ptr i1 0) rfl rfl (by simp only [go_sem]; rfl) (Opl.ldb (v := v0_0) h1 rfl T29 rfl rfl rfl rfl (Opl.len (xs := l0_0) (by exact hv0_0) K29 rfl rfl rfl rfl (Opl.one rfl rfl (by simp only [go_sem]; rfl) (Opl.nil ?_)))))))))))
 by_cases c1 : (l1.length : Int) = (l0_0.length : Int)
 case neg =>
  rw [if_neg c1] at H
  have e6 : ((l1.length : Int) != (l0_0.length : Int)) = true := by simpa using c1
  try rw [e6]
  refine Evr.condT rfl (Evr.seq (Evr.regionN rfl (Opl.one rfl rfl (by simp only [go_sem]; rfl) (Opl.nil ?_))))
  obtain rfl := Option.some.inj H
  refine Evr.ret1 Try.func65 rfl ?_
  show (.lit (.bool false) : PV) = _
  first | rfl | (simp only [go_sem]; rfl)
 rw [if_pos c1] at H
 have e1 : ((l1.length : Int) != (l0_0.length : Int)) = false := by simpa using c1
 try rw [e1]
 refine Evr.condF rfl (Evr.skip (Evr.seq (Evr.seq (Evr.regionN rfl (Opl.one rfl rfl (by simp only [go_sem]; rfl) (Opl.nil (Evr.block ?_)))))))
 refine Evr.loop (Evr.rounds (n := k) (Inv := fun n tm S => n ≤ k ∧ ∃ (x5_1 : Int) (i2 : Abs.Id), spec_l2In.l0 n l1 x5_1 l0_0 l0_1 = some r ∧ Has tm [(1, v1), (2, .ptr i2 0), (5, .lit (.int .i64 x5_1))] ∧ Box (.ptr i2 0) [v0_0, v0_1] S) ?_ ?_ ?_)
 · exact ⟨Nat.le_refl _, _, _, H, ⟨rfl, rfl, rfl, trivial⟩, h1⟩
 ·
  rintro tm S ⟨_, _, _, H, -⟩
  simp [spec_l2In.l0] at H
 ·
  rintro n1 ih1 tm S ⟨hle, x5_1, i2, H, hh, h2⟩
  simp only [spec_l2In.l0] at H
  rw [hh.eq]
  refine Evr.seq (Evr.seq (Evr.regionN rfl (Opl.one rfl rfl (by simp only [go_sem]; rfl) (Opl.one rfl rfl (by simp only [go_sem]; rfl) (Opl.len (xs := l1) (by exact hv1) K26 rfl rfl rfl rfl (Opl.one rfl rfl (by simp only [go_sem]; rfl) (Opl.nil ?_)))))))
  by_cases c2 : x5_1 < (l1.length : Int)
  case neg =>
   rw [if_neg c2] at H
   have e5 : (decide (x5_1 < (l1.length : Int))) = false := by simpa using c2
   try rw [e5]
   refine Evr.condF rfl (Evr.exit rfl (Evr.seq (Evr.regionN rfl (Opl.one rfl rfl (by simp only [go_sem]; rfl) (Opl.nil ?_)))))
   obtain rfl := Option.some.inj H
   refine Evr.ret1 Try.func65 rfl ?_
   show (.lit (.bool true) : PV) = _
   first | rfl | (simp only [go_sem]; rfl)
  rw [if_pos c2] at H
  have e2 : (decide (x5_1 < (l1.length : Int))) = true := by simpa using c2
  try rw [e2]
  refine Evr.condT rfl (Evr.skip (Evr.seq (Evr.block (Evr.seq (Evr.regionD rfl (by kernel_rfl) (Opl.one rfl rfl (by simp only [go_sem]; rfl) (Opl.one rfl rfl (by simp only [go_sem]; rfl) ?_)))))))
  obtain ⟨c3, H⟩ := peel H
  obtain ⟨c4, H⟩ := peel H
  refine Opl.idx (M := (cInt .i64)) (xs := l1) (j := x5_1) (0 : Int) (by exact hv1) rfl (by first | omega | (simp only [List.length_set] at *; omega)) (by first | omega | (simp only [List.length_set] at *; omega)) K26 Z3 rfl rfl ?_
  rintro p1 q1 h3
  obtain rfl : p1 = [.lit (.int .i64 (rd l1 x5_1))] := h3
  refine Opl.lda (.lit (.int .i64 (rd l1 x5_1))) rfl T3 rfl rfl rfl rfl (Opl.one (v := .ptr i2 0) rfl rfl (by simp only [go_sem]; rfl) (Opl.ldb (v := v0_0) h2 rfl T29 rfl rfl rfl rfl (Opl.one rfl rfl (by simp only [go_sem]; rfl) (Opl.idx (M := cIVar) (xs := l0_0) (j := x5_1) zIVar (by exact hv0_0) rfl (by first | omega | (simp only [List.length_set] at *; omega)) (by first | omega | (simp only [List.length_set] at *; omega)) K29 Z97 rfl rfl ?_))))
  rintro p2 q2 h4
  obtain rfl := cIVar_R (x := (rd_IVar l0_0 x5_1)) h4
  refine Opl.one (v := .fel ((.lit (.int .i64 ((rd_IVar l0_0 x5_1).f0))) :: (.lit (.int .i64 ((rd_IVar l0_0 x5_1).f1))) :: (.lit (.int .i64 ((rd_IVar l0_0 x5_1).f2))) :: q2)) rfl rfl (by simp only [go_sem]; rfl) (Opl.lda (.lit (.int .i64 ((rd_IVar l0_0 x5_1).f0))) rfl T3 rfl rfl rfl rfl (Opl.one (v := .ptr i2 0) rfl rfl (by simp only [go_sem]; rfl) (Opl.ldb (v := v0_0) h2 rfl T29 rfl rfl rfl rfl (Opl.one rfl rfl (by simp only [go_sem]; rfl) (Opl.idx (M := cIVar) (xs := l0_0) (j := x5_1) zIVar (by exact hv0_0) rfl (by first | omega | (simp only [List.length_set] at *; omega)) (by first | omega | (simp only [List.length_set] at *; omega)) K29 Z97 rfl rfl ?_)))))
  rintro p3 q3 h5
  obtain rfl := cIVar_R (x := (rd_IVar l0_0 x5_1)) h5
  refine Opl.one (v := .fel ((.lit (.int .i64 ((rd_IVar l0_0 x5_1).f1))) :: (.lit (.int .i64 ((rd_IVar l0_0 x5_1).f2))) :: q3)) rfl rfl (by simp only [go_sem]; rfl) (Opl.lda (.lit (.int .i64 ((rd_IVar l0_0 x5_1).f1))) rfl T3 rfl rfl rfl rfl ?_)
  obtain ⟨t216, h_t216, H⟩ := Option.bind_eq_some_iff.1 H
  refine Opl.callc (spec_l1In.ev h_t216) rfl rfl rfl rfl ⟨(.lit _), (.lit _), (.lit _), trivial⟩ (by decide) (Opl.one rfl rfl (by simp only [go_sem]; rfl) (Opl.nil ?_))
  by_cases c5 : t216 = true
  case neg =>
   rw [if_neg c5] at H
   have e4 : (!t216) = true := by simpa using c5
   try rw [e4]
   refine Evr.condT rfl (Evr.seq (Evr.regionN rfl (Opl.one rfl rfl (by simp only [go_sem]; rfl) (Opl.nil ?_))))
   obtain rfl := Option.some.inj H
   refine Evr.ret1 Try.func65 rfl ?_
   show (.lit (.bool false) : PV) = _
   first | rfl | (simp only [go_sem]; rfl)
  rw [if_pos c5] at H
  have e3 : (!t216) = false := by simpa using c5
  try rw [e3]
  refine Evr.condF rfl (Evr.skip (Evr.inBlock (Evr.regionN rfl (Opl.one rfl rfl (by simp only [go_sem]; rfl) (Opl.add (k := .i64) (a := x5_1) (b := 1) K3 rfl rfl rfl rfl (Opl.one (v := .lit (.int .i64 (wrap64 (x5_1 + 1)))) rfl rfl rfl (Opl.nil ?_)))))))
  exact ih1 _ (by omega) _ _ ⟨by omega, _, _, H, ⟨rfl, rfl, rfl, trivial⟩, h2⟩
theorem spec_l2Same.ev {k : Nat} {l0 : List Int} {v0 : PV} (hv0 : Sl (cInt .i64) l0 v0) {l1 : List Int} {v1 : PV} (hv1 : Sl (cInt .i64) l1 v1) {r : Bool} (H : spec_l2Same.f k l0 l1 = some r) : Ret Try.prog 77 [v0, v1] fun v S => v = .lit (.bool r) := by
 unfold spec_l2Same.f at H
 refine Ret.intro Try.func77 rfl (Nat.le_of_ble_eq_true rfl) rfl ?_
 rw [tm2]
 refine Evr.seq (Evr.regionN rfl (Opl.one rfl rfl (by simp only [go_sem]; rfl) (Opl.nil (Evr.seq (Evr.seq (Evr.regionN rfl (Opl.one rfl rfl (by simp only [go_sem]; rfl) (Opl.len (xs := l0) (by exact hv0) K26 rfl rfl rfl rfl (Opl.one rfl rfl (by simp only [go_sem]; rfl) (Opl.len (xs := l1) (by exact hv1) K26 rfl rfl rfl rfl (Opl.one rfl rfl (by simp only [go_sem]; rfl) (Opl.nil ?_))))))))))))
 by_cases c1 : (l0.length : Int) = (l1.length : Int)
 case neg =>
  rw [if_neg c1] at H
  have e6 : ((l0.length : Int) != (l1.length : Int)) = true := by simpa using c1
  try rw [e6]
  refine Evr.condT rfl (Evr.seq (Evr.regionN rfl (Opl.one rfl rfl (by simp only [go_sem]; rfl) (Opl.nil ?_))))
  obtain rfl := Option.some.inj H
  refine Evr.ret1 Try.func77 rfl ?_
  show (.lit (.bool false) : PV) = _
  first | rfl | (simp only [go_sem]; rfl)
 rw [if_pos c1] at H
 have e1 : ((l0.length : Int) != (l1.length : Int)) = false := by simpa using c1
 try rw [e1]
 refine Evr.condF rfl (Evr.skip (Evr.seq (Evr.seq (Evr.regionN rfl (Opl.one rfl rfl (by simp only [go_sem]; rfl) (Opl.nil (Evr.block ?_)))))))
 refine Evr.loop (Evr.rounds (n := k) (Inv := fun n tm S => n ≤ k ∧ ∃ (x5_1 : Int), spec_l2Same.l0 n l0 l1 x5_1 = some r ∧ Has tm [(0, v0), (1, v1), (5, .lit (.int .i64 x5_1))]) ?_ ?_ ?_)
 · exact ⟨Nat.le_refl _, _, H, ⟨rfl, rfl, rfl, trivial⟩⟩
 ·
  rintro tm S ⟨_, _, H, -⟩
  simp [spec_l2Same.l0] at H
 ·
  rintro n1 ih1 tm S ⟨hle, x5_1, H, hh⟩
  simp only [spec_l2Same.l0] at H
  rw [hh.eq]
  refine Evr.seq (Evr.seq (Evr.regionN rfl (Opl.one rfl rfl (by simp only [go_sem]; rfl) (Opl.one rfl rfl (by simp only [go_sem]; rfl) (Opl.len (xs := l0) (by exact hv0) K26 rfl rfl rfl rfl (Opl.one rfl rfl (by simp only [go_sem]; rfl) (Opl.nil ?_)))))))
  by_cases c2 : x5_1 < (l0.length : Int)
  case neg =>
   rw [if_neg c2] at H
   have e5 : (decide (x5_1 < (l0.length : Int))) = false := by simpa using c2
   try rw [e5]
   refine Evr.condF rfl (Evr.exit rfl (Evr.seq (Evr.regionN rfl (Opl.one rfl rfl (by simp only [go_sem]; rfl) (Opl.nil ?_)))))
   obtain rfl := Option.some.inj H
   refine Evr.ret1 Try.func77 rfl ?_
   show (.lit (.bool true) : PV) = _
   first | rfl | (simp only [go_sem]; rfl)
  rw [if_pos c2] at H
  have e2 : (decide (x5_1 < (l0.length : Int))) = true := by simpa using c2
  try rw [e2]
  refine Evr.condT rfl (Evr.skip (Evr.seq (Evr.block (Evr.seq (Evr.regionD rfl (by kernel_rfl) (Opl.one rfl rfl (by simp only [go_sem]; rfl) (Opl.one rfl rfl (by simp only [go_sem]; rfl) ?_)))))))
  obtain ⟨c3, H⟩ := peel H
  obtain ⟨c4, H⟩ := peel H
  refine Opl.idx (M := (cInt .i64)) (xs := l0) (j := x5_1) (0 : Int) (by exact hv0) rfl (by first | omega | (simp only [List.length_set] at *; omega)) (by first | omega | (simp only [List.length_set] at *; omega)) K26 Z3 rfl rfl ?_
  rintro p1 q1 h1
  obtain rfl : p1 = [.lit (.int .i64 (rd l0 x5_1))] := h1
  refine Opl.lda (.lit (.int .i64 (rd l0 x5_1))) rfl T3 rfl rfl rfl rfl (Opl.one rfl rfl (by simp only [go_sem]; rfl) (Opl.one rfl rfl (by simp only [go_sem]; rfl) (Opl.idx (M := (cInt .i64)) (xs := l1) (j := x5_1) (0 : Int) (by exact hv1) rfl (by first | omega | (simp only [List.length_set] at *; omega)) (by first | omega | (simp only [List.length_set] at *; omega)) K26 Z3 rfl rfl ?_)))
  rintro p2 q2 h2
  obtain rfl : p2 = [.lit (.int .i64 (rd l1 x5_1))] := h2
  refine Opl.lda (.lit (.int .i64 (rd l1 x5_1))) rfl T3 rfl rfl rfl rfl (Opl.one rfl rfl (by simp only [go_sem]; rfl) (Opl.nil ?_))
  by_cases c5 : (rd l0 x5_1) = (rd l1 x5_1)
  case neg =>
   rw [if_neg c5] at H
   have e4 : ((rd l0 x5_1) != (rd l1 x5_1)) = true := by simpa using c5
   try rw [e4]
   refine Evr.condT rfl (Evr.seq (Evr.regionN rfl (Opl.one rfl rfl (by simp only [go_sem]; rfl) (Opl.nil ?_))))
   obtain rfl := Option.some.inj H
   refine Evr.ret1 Try.func77 rfl ?_
   show (.lit (.bool false) : PV) = _
   first | rfl | (simp only [go_sem]; rfl)
  rw [if_pos c5] at H
  have e3 : ((rd l0 x5_1) != (rd l1 x5_1)) = false := by simpa using c5
  try rw [e3]
  refine Evr.condF rfl (Evr.skip (Evr.inBlock (Evr.regionN rfl (Opl.one rfl rfl (by simp only [go_sem]; rfl) (Opl.add (k := .i64) (a := x5_1) (b := 1) K3 rfl rfl rfl rfl (Opl.one (v := .lit (.int .i64 (wrap64 (x5_1 + 1)))) rfl rfl rfl (Opl.nil ?_)))))))
  exact ih1 _ (by omega) _ _ ⟨by omega, _, H, ⟨rfl, rfl, rfl, trivial⟩⟩
theorem spec_l3At.ev {l0 : List (List Int)} {v0 : PV} (hv0 : Sl (cSl (cInt .i64)) l0 v0) {l1 : List (List Int)} {v1 : PV} (hv1 : Sl (cSl (cInt .i64)) l1 v1) {a2 : Int} {r : (List Int)} (H : spec_l3At.f l0 l1 a2 = some r) : Ret Try.prog 85 [v0, v1, .lit (.int .i64 a2)] fun v S => Out (fun q => Sl (cInt .i64) r q) v S := by
 unfold spec_l3At.f at H
 refine Ret.intro Try.func85 rfl (Nat.le_of_ble_eq_true rfl) rfl ?_
 rw [tm3]
 refine Evr.seq (Evr.regionN rfl (Opl.one rfl rfl (by simp only [go_sem]; rfl) (Opl.nil (Evr.seq (Evr.seq (Evr.regionN rfl (Opl.one rfl rfl (by simp only [go_sem]; rfl) (Opl.one rfl rfl (by simp only [go_sem]; rfl) (Opl.len (xs := l0) (by exact hv0) K38 rfl rfl rfl rfl (Opl.one rfl rfl (by simp only [go_sem]; rfl) (Opl.nil ?_)))))))))))
 by_cases c1 : a2 < (l0.length : Int)
 case pos =>
  rw [if_pos c1] at H
  have e1 : (decide (a2 < (l0.length : Int))) = true := by simpa using c1
  try rw [e1]
  refine Evr.condT rfl (Evr.seq (Evr.regionN rfl (Opl.one rfl rfl (by simp only [go_sem]; rfl) (Opl.one rfl rfl (by simp only [go_sem]; rfl) ?_))))
  obtain ⟨c2, H⟩ := peel H
  refine Opl.idx (M := (cSl (cInt .i64))) (xs := l0) (j := a2) ([] : List Int) (by exact hv0) rfl (by first | omega | (simp only [List.length_set] at *; omega)) (by first | omega | (simp only [List.length_set] at *; omega)) K38 Z26 rfl rfl ?_
  rintro p1 q1 h1
  obtain ⟨pv1, rfl, h2⟩ := h1
  refine Opl.lda (pv1) rfl T26 rfl rfl rfl rfl (Opl.one rfl rfl (by simp only [go_sem]; rfl) (Opl.nil ?_))
  obtain rfl := Option.some.inj H
  refine Evr.ret1 Try.func85 rfl ?_
  show Out _ pv1 _
  exact (.sl h2)
 rw [if_neg c1] at H
 have e2 : (decide (a2 < (l0.length : Int))) = false := by simpa using c1
 try rw [e2]
 refine Evr.condF rfl (Evr.skip (Evr.seq (Evr.regionN rfl (Opl.one rfl rfl (by simp only [go_sem]; rfl) (Opl.one rfl rfl (by simp only [go_sem]; rfl) (Opl.one rfl rfl (by simp only [go_sem]; rfl) (Opl.len (xs := l0) (by exact hv0) K38 rfl rfl rfl rfl (Opl.subi (k := .i64) (a := a2) (b := (l0.length : Int)) K3 rfl rfl rfl rfl (Opl.one (v := v1) rfl rfl rfl (Opl.len (xs := l1) (by exact hv1) K38 rfl rfl rfl rfl ?_))))))))))
 obtain ⟨c3, H⟩ := peelN H
 obtain ⟨c4, H⟩ := peel H
 obtain ⟨c5, H⟩ := peel H
 refine Opl.one (v := .lit (.int .i64 (Int.tmod (wrap64 (a2 - (l0.length : Int))) (l1.length : Int)))) rfl rfl (by simp only [go_sem]; rw [if_neg (by first | assumption | decide | omega)]; rfl) (Opl.idx (M := (cSl (cInt .i64))) (xs := l1) (j := (Int.tmod (wrap64 (a2 - (l0.length : Int))) (l1.length : Int))) ([] : List Int) (by exact hv1) rfl (by first | omega | (simp only [List.length_set] at *; omega)) (by first | omega | (simp only [List.length_set] at *; omega)) K38 Z26 rfl rfl ?_)
 rintro p2 q2 h3
 obtain ⟨pv2, rfl, h4⟩ := h3
 refine Opl.lda (pv2) rfl T26 rfl rfl rfl rfl (Opl.one (v := pv2) rfl rfl rfl (Opl.nil ?_))
 obtain rfl := Option.some.inj H
 refine Evr.ret1 Try.func85 rfl ?_
 show Out _ pv2 _
 exact (.sl h4)
theorem spec_l2Less.ev {k : Nat} {l0 : List Int} {v0 : PV} (hv0 : Sl (cInt .i64) l0 v0) {l1 : List Int} {v1 : PV} (hv1 : Sl (cInt .i64) l1 v1) {r : Bool} (H : spec_l2Less.f k l0 l1 = some r) : Ret Try.prog 182 [v0, v1] fun v S => v = .lit (.bool r) := by
 unfold spec_l2Less.f at H
 refine Ret.intro Try.func182 rfl (Nat.le_of_ble_eq_true rfl) rfl ?_
 rw [tm2]
 refine Evr.seq (Evr.regionN rfl (Opl.one rfl rfl (by simp only [go_sem]; rfl) (Opl.nil (Evr.seq (Evr.seq (Evr.regionN rfl (Opl.one rfl rfl (by simp only [go_sem]; rfl) (Opl.nil (Evr.block ?_)))))))))
 refine Evr.loop (Evr.rounds (n := k) (Inv := fun n tm S => n ≤ k ∧ ∃ (x5_1 : Int), spec_l2Less.l0 n l0 l1 x5_1 = some r ∧ Has tm [(0, v0), (1, v1), (5, .lit (.int .i64 x5_1))]) ?_ ?_ ?_)
 · exact ⟨Nat.le_refl _, _, H, ⟨rfl, rfl, rfl, trivial⟩⟩
 ·
  rintro tm S ⟨_, _, H, -⟩
  simp [spec_l2Less.l0] at H
 ·
  rintro n1 ih1 tm S ⟨hle, x5_1, H, hh⟩
  simp only [spec_l2Less.l0] at H
  rw [hh.eq]
  refine Evr.seq (Evr.seq ?_)
  refine Evr.join (fun tm S => ∃ (kq1 : Nat) (x15_1 : Bool), spec_l2Less.j1 kq1 l0 l1 x5_1 x15_1 = some r ∧ kq1 ≤ n1 ∧ Has tm [(0, v0), (1, v1), (5, .lit (.int .i64 x5_1)), (15, .lit (.bool x15_1))]) ?_ fun hk1 => ?_
  ·
   rintro tm S ⟨kq1, x15_1, H, hle, hh⟩
   rw [hh.eq]
   obtain _ | k1 := kq1
   · simp [spec_l2Less.j1] at H
   simp only [spec_l2Less.j1] at H
   by_cases c1 : x15_1 = true
   case neg =>
    rw [if_neg c1] at H
    obtain rfl : x15_1 = false := by simpa using c1
    refine Evr.condF rfl (Evr.exit rfl (Evr.seq (Evr.regionN rfl (Opl.one rfl rfl (by simp only [go_sem]; rfl) (Opl.len (xs := l0) (by exact hv0) K26 rfl rfl rfl rfl (Opl.one rfl rfl (by simp only [go_sem]; rfl) (Opl.len (xs := l1) (by exact hv1) K26 rfl rfl rfl rfl (Opl.one rfl rfl (by simp only [go_sem]; rfl) (Opl.one rfl rfl (by simp only [go_sem]; rfl) (Opl.nil ?_))))))))))
    obtain rfl := Option.some.inj H
    refine Evr.ret1 Try.func182 rfl ?_
    show (.lit (.bool (decide ((l0.length : Int) < (l1.length : Int)))) : PV) = _
    first | rfl | (simp only [go_sem]; rfl)
   rw [if_pos c1] at H
   obtain rfl : x15_1 = true := by simpa using c1
   refine Evr.condT rfl (Evr.skip (Evr.seq (Evr.block (Evr.seq (Evr.regionD rfl (by kernel_rfl) (Opl.one rfl rfl (by simp only [go_sem]; rfl) (Opl.one rfl rfl (by simp only [go_sem]; rfl) ?_)))))))
   obtain ⟨c2, H⟩ := peel H
   obtain ⟨c3, H⟩ := peel H
   obtain ⟨c4, H⟩ := peel H
   refine Opl.idx (M := (cInt .i64)) (xs := l0) (j := x5_1) (0 : Int) (by exact hv0) rfl (by first | omega | (simp only [List.length_set] at *; omega)) (by first | omega | (simp only [List.length_set] at *; omega)) K26 Z3 rfl rfl ?_
   rintro p1 q1 h1
   obtain rfl : p1 = [.lit (.int .i64 (rd l0 x5_1))] := h1
   refine Opl.lda (.lit (.int .i64 (rd l0 x5_1))) rfl T3 rfl rfl rfl rfl (Opl.one rfl rfl (by simp only [go_sem]; rfl) (Opl.one rfl rfl (by simp only [go_sem]; rfl) (Opl.idx (M := (cInt .i64)) (xs := l1) (j := x5_1) (0 : Int) (by exact hv1) rfl (by first | omega | (simp only [List.length_set] at *; omega)) (by first | omega | (simp only [List.length_set] at *; omega)) K26 Z3 rfl rfl ?_)))
   rintro p2 q2 h2
   obtain rfl : p2 = [.lit (.int .i64 (rd l1 x5_1))] := h2
   refine Opl.lda (.lit (.int .i64 (rd l1 x5_1))) rfl T3 rfl rfl rfl rfl (Opl.one rfl rfl (by simp only [go_sem]; rfl) (Opl.nil ?_))
   by_cases c5 : (rd l0 x5_1) = (rd l1 x5_1)
   case pos =>
    rw [if_pos c5] at H
    have e1 : ((rd l0 x5_1) != (rd l1 x5_1)) = false := by simpa using c5
    try rw [e1]
    refine Evr.condF rfl (Evr.skip (Evr.inBlock (Evr.regionN rfl (Opl.one rfl rfl (by simp only [go_sem]; rfl) (Opl.add (k := .i64) (a := x5_1) (b := 1) K3 rfl rfl rfl rfl (Opl.one (v := .lit (.int .i64 (wrap64 (x5_1 + 1)))) rfl rfl rfl (Opl.nil ?_)))))))
    exact ih1 _ (by omega) _ _ ⟨by omega, _, H, ⟨rfl, rfl, rfl, trivial⟩⟩
   rw [if_neg c5] at H
   have e2 : ((rd l0 x5_1) != (rd l1 x5_1)) = true := by simpa using c5
   try rw [e2]
   refine Evr.condT rfl (Evr.seq (Evr.regionD rfl (by kernel_rfl) (Opl.one rfl rfl (by simp only [go_sem]; rfl) (Opl.one rfl rfl (by simp only [go_sem]; rfl) (Opl.idx (M := (cInt .i64)) (xs := l0) (j := x5_1) (0 : Int) (by exact hv0) rfl (by first | omega | (simp only [List.length_set] at *; omega)) (by first | omega | (simp only [List.length_set] at *; omega)) K26 Z3 rfl rfl ?_)))))
   rintro p3 q3 h3
   obtain rfl : p3 = [.lit (.int .i64 (rd l0 x5_1))] := h3
   refine Opl.lda (.lit (.int .i64 (rd l0 x5_1))) rfl T3 rfl rfl rfl rfl (Opl.one rfl rfl (by simp only [go_sem]; rfl) (Opl.one rfl rfl (by simp only [go_sem]; rfl) (Opl.idx (M := (cInt .i64)) (xs := l1) (j := x5_1) (0 : Int) (by exact hv1) rfl (by first | omega | (simp only [List.length_set] at *; omega)) (by first | omega | (simp only [List.length_set] at *; omega)) K26 Z3 rfl rfl ?_)))
   rintro p4 q4 h4
   obtain rfl : p4 = [.lit (.int .i64 (rd l1 x5_1))] := h4
   refine Opl.lda (.lit (.int .i64 (rd l1 x5_1))) rfl T3 rfl rfl rfl rfl (Opl.one rfl rfl (by simp only [go_sem]; rfl) (Opl.one rfl rfl (by simp only [go_sem]; rfl) (Opl.nil ?_)))
   obtain rfl := Option.some.inj H
   refine Evr.ret1 Try.func182 rfl ?_
   show (.lit (.bool (decide ((rd l0 x5_1) < (rd l1 x5_1)))) : PV) = _
   first | rfl | (simp only [go_sem]; rfl)
  ·
   refine Evr.regionN rfl (Opl.one rfl rfl (by simp only [go_sem]; rfl) (Opl.one rfl rfl (by simp only [go_sem]; rfl) (Opl.len (xs := l0) (by exact hv0) K26 rfl rfl rfl rfl (Opl.one rfl rfl (by simp only [go_sem]; rfl) (Opl.one rfl rfl (by simp only [go_sem]; rfl) ?_)))))
   by_cases c6 : x5_1 < (l0.length : Int)
   case neg =>
    rw [if_neg c6] at H
    have e4 : (decide (x5_1 < (l0.length : Int))) = false := by simpa using c6
    try rw [e4]
    refine Opl.skp rfl (Opl.skp rfl (Opl.skp rfl (Opl.skp rfl (Opl.one rfl rfl (by simp only [go_sem]; rfl) (Opl.nil ?_)))))
    exact hk1 _ _ ⟨_, _, H, by omega, ⟨rfl, rfl, rfl, (by first | rfl | (show PV.lit (.bool _) = _; congr 2; simp_all)), trivial⟩⟩
   rw [if_pos c6] at H
   have e3 : (decide (x5_1 < (l0.length : Int))) = true := by simpa using c6
   try rw [e3]
   refine Opl.one rfl rfl (by simp only [go_sem]; rfl) (Opl.one rfl rfl (by simp only [go_sem]; rfl) (Opl.len (xs := l1) (by exact hv1) K26 rfl rfl rfl rfl (Opl.one rfl rfl (by simp only [go_sem]; rfl) (Opl.one rfl rfl (by simp only [go_sem]; rfl) (Opl.nil ?_)))))
   exact hk1 _ _ ⟨_, _, H, by omega, ⟨rfl, rfl, rfl, (by first | rfl | (show PV.lit (.bool _) = _; congr 2; simp_all)), trivial⟩⟩
theorem spec_l2Put.ev {k : Nat} {l0 : List (List Int)} {v0 : PV} (hv0 : Sl (cSl (cInt .i64)) l0 v0) {l1 : List Int} {v1 : PV} (hv1 : Sl (cInt .i64) l1 v1) {r : (List (List Int))} (H : spec_l2Put.f k l0 l1 = some r) : Ret Try.prog 169 [v0, v1] fun v S => Vec (cSl (cInt .i64)) r v S := by
 unfold spec_l2Put.f at H
 refine Ret.intro Try.func169 rfl (Nat.le_of_ble_eq_true rfl) rfl ?_
 rw [tm2]
 refine Evr.seq (Evr.regionN rfl (Opl.one rfl rfl (by simp only [go_sem]; rfl) (Opl.nil (Evr.seq (Evr.regionN rfl (Opl.lits (M := (cSl (cInt .i64))) (ys := []) [] K38 T26 rfl rfl rfl trivial rfl (by decide) rfl rfl rfl ?_))))))
 rintro pv1 S h1 u1 w1
 refine Opl.one rfl rfl (by simp only [go_sem]; rfl) (Opl.nil (Evr.seq (Evr.regionN rfl (Opl.one rfl rfl (by simp only [go_sem]; rfl) (Opl.nil (Evr.seq (Evr.seq (Evr.regionN rfl (Opl.one rfl rfl (by simp only [go_sem]; rfl) (Opl.nil (Evr.block ?_)))))))))))
 refine Evr.loop (Evr.rounds (n := k) (Inv := fun n tm S => n ≤ k ∧ ∃ (x5_1 : List (List Int)) (x6_1 : Bool) (x7_1 : Int) (pv2 : PV), spec_l2Put.l0 n l0 l1 x5_1 x6_1 x7_1 = some r ∧ Has tm [(0, v0), (1, v1), (5, pv2), (6, .lit (.bool x6_1)), (7, .lit (.int .i64 x7_1))] ∧ Vec (cSl (cInt .i64)) x5_1 pv2 S) ?_ ?_ ?_)
 · exact ⟨Nat.le_refl _, _, _, _, _, H, ⟨rfl, rfl, rfl, (by first | rfl | (show PV.lit (.bool _) = _; congr 2; simp_all)), rfl, trivial⟩, h1⟩
 ·
  rintro tm S ⟨_, _, _, _, _, H, -⟩
  simp [spec_l2Put.l0] at H
 ·
  rintro n1 ih1 tm S ⟨hle, x5_1, x6_1, x7_1, pv2, H, hh, h2⟩
  simp only [spec_l2Put.l0] at H
  rw [hh.eq]
  refine Evr.seq (Evr.seq (Evr.regionN rfl (Opl.one rfl rfl (by simp only [go_sem]; rfl) (Opl.one rfl rfl (by simp only [go_sem]; rfl) (Opl.len (xs := l0) (by exact hv0) K38 rfl rfl rfl rfl (Opl.one rfl rfl (by simp only [go_sem]; rfl) (Opl.nil ?_)))))))
  by_cases c1 : x7_1 < (l0.length : Int)
  case neg =>
   rw [if_neg c1] at H
   have e6 : (decide (x7_1 < (l0.length : Int))) = false := by simpa using c1
   try rw [e6]
   refine Evr.condF rfl (Evr.exit rfl (Evr.seq (Evr.seq (Evr.regionN rfl (Opl.one rfl rfl (by simp only [go_sem]; rfl) (Opl.one rfl rfl (by simp only [go_sem]; rfl) (Opl.nil ?_)))))))
   by_cases c15 : x6_1 = true
   case pos =>
    rw [if_pos c15] at H
    have e7 : (!x6_1) = false := by simpa using c15
    try rw [e7]
    refine Evr.condF rfl (Evr.skip (Evr.seq (Evr.regionN rfl (Opl.one rfl rfl (by simp only [go_sem]; rfl) (Opl.one rfl rfl (by simp only [go_sem]; rfl) (Opl.nil ?_))))))
    obtain rfl := Option.some.inj H
    refine Evr.ret1 Try.func169 rfl ?_
    show Vec _ _ pv2 _
    exact h2
   rw [if_neg c15] at H
   have e8 : (!x6_1) = true := by simpa using c15
   try rw [e8]
   refine Evr.condT rfl (Evr.regionN rfl (Opl.one rfl rfl (by simp only [go_sem]; rfl) (Opl.one rfl rfl (by simp only [go_sem]; rfl) (Opl.lits (M := (cSl (cInt .i64))) (ys := [l1]) [.tmp 49] K38 T26 rfl rfl rfl (by exact ⟨⟨_, by first | rfl | exact hv1.cells, hv1⟩, trivial⟩) rfl (by decide) rfl rfl rfl ?_))))
   rintro pv18 S h33 u10 w10
   have ap11 := w10.vec h2
   have h34 := u10.vec h2 ap11
   obtain ⟨c16, H⟩ := peel H
   refine Opl.app (M := (cSl (cInt .i64))) (xs := x5_1) (ys := [l1]) (v := pv2) h34 (.vec h33) (oSl (cInt .i64)) rfl rfl K38 T26 rfl rfl (by (try simp only [List.length_cons, List.length_nil]); omega) (by show (_ + _) * 24 ≤ 140737488355328; (try simp only [List.length_cons, List.length_nil]); omega) rfl rfl rfl rfl rfl ?_
   rintro pv19 S h35 u11 w11
   have ap12 := w11.vec h33
   have h36 := u11.vec h33 ap11.symm
   refine Opl.one rfl rfl (by simp only [go_sem]; rfl) (Opl.nil (Evr.seq (Evr.regionN rfl (Opl.one rfl rfl (by simp only [go_sem]; rfl) (Opl.one rfl rfl (by simp only [go_sem]; rfl) (Opl.nil ?_))))))
   obtain rfl := Option.some.inj H
   refine Evr.ret1 Try.func169 rfl ?_
   show Vec _ _ pv19 _
   exact h35
  rw [if_pos c1] at H
  have e1 : (decide (x7_1 < (l0.length : Int))) = true := by simpa using c1
  try rw [e1]
  refine Evr.condT rfl (Evr.skip (Evr.seq (Evr.block (Evr.seq (Evr.seq ?_)))))
  refine Evr.join (fun tm S => ∃ (kq1 : Nat) (x24_1 : Bool) (pv3 : PV), spec_l2Put.j1 kq1 l0 l1 x5_1 x6_1 x7_1 x24_1 = some r ∧ kq1 ≤ n1 ∧ Has tm [(0, v0), (1, v1), (5, pv3), (6, .lit (.bool x6_1)), (7, .lit (.int .i64 x7_1)), (24, .lit (.bool x24_1))] ∧ Vec (cSl (cInt .i64)) x5_1 pv3 S) ?_ fun hk1 => ?_
  ·
   rintro tm S ⟨kq1, x24_1, pv3, H, hle, hh, h3⟩
   rw [hh.eq]
   refine Evr.join (fun tm S => ∃ (kq2 : Nat) (x6_2 : Bool) (pv4 : PV), spec_l2Put.j2 kq2 l0 l1 x5_1 x6_2 x7_1 = some r ∧ kq2 ≤ kq1 ∧ Has tm [(0, v0), (1, v1), (5, pv4), (6, .lit (.bool x6_2)), (7, .lit (.int .i64 x7_1))] ∧ Vec (cSl (cInt .i64)) x5_1 pv4 S) ?_ fun hk2 => ?_
   ·
    rintro tm S ⟨kq2, x6_2, pv4, H, hle, hh, h4⟩
    rw [hh.eq]
    refine Evr.seq (Evr.seq (Evr.regionN rfl (Opl.one rfl rfl (by simp only [go_sem]; rfl) (Opl.one rfl rfl (by simp only [go_sem]; rfl) (Opl.one rfl rfl (by simp only [go_sem]; rfl) ?_)))))
    obtain _ | k1 := kq2
    · simp [spec_l2Put.j2] at H
    simp only [spec_l2Put.j2] at H
    by_cases c2 : x6_2 = true
    case pos =>
     rw [if_pos c2] at H
     have e2 : (!x6_2) = false := by simpa using c2
     try rw [e2]
     refine Opl.skp rfl (Opl.skp rfl (Opl.skp rfl (Opl.skp rfl (Opl.skp rfl (Opl.skp rfl (Opl.one rfl rfl (by simp only [go_sem]; rfl) (Opl.nil (Evr.condF rfl (Evr.skip (Evr.regionN rfl (Opl.one rfl rfl (by simp only [go_sem]; rfl) (Opl.one rfl rfl (by simp only [go_sem]; rfl) (Opl.one rfl rfl (by simp only [go_sem]; rfl) ?_)))))))))))))
     obtain ⟨c3, H⟩ := peel H
     obtain ⟨c4, H⟩ := peel H
     obtain ⟨c5, H⟩ := peel H
     refine Opl.idx (M := (cSl (cInt .i64))) (xs := l0) (j := x7_1) ([] : List Int) (by exact hv0) rfl (by first | omega | (simp only [List.length_set] at *; omega)) (by first | omega | (simp only [List.length_set] at *; omega)) K38 Z26 rfl rfl ?_
     rintro p1 q1 h5
     obtain ⟨pv5, rfl, h6⟩ := h5
     refine Opl.lda (pv5) rfl T26 rfl rfl rfl rfl (Opl.lits (M := (cSl (cInt .i64))) (ys := [(rd_Lint l0 x7_1)]) [.tmp 43] K38 T26 rfl rfl rfl (by exact ⟨⟨_, by first | rfl | exact h6.cells, h6⟩, trivial⟩) rfl (by decide) rfl rfl rfl ?_)
     rintro pv6 S h7 u2 w2
     have ap1 := w2.vec h4
     have h8 := u2.vec h4 ap1
     refine Opl.app (M := (cSl (cInt .i64))) (xs := x5_1) (ys := [(rd_Lint l0 x7_1)]) (v := pv4) h8 (.vec h7) (oSl (cInt .i64)) rfl rfl K38 T26 rfl rfl (by (try simp only [List.length_cons, List.length_nil]); omega) (by show (_ + _) * 24 ≤ 140737488355328; (try simp only [List.length_cons, List.length_nil]); omega) rfl rfl rfl rfl rfl ?_
     rintro pv7 S h9 u3 w3
     have ap2 := w3.vec h7
     have h10 := u3.vec h7 ap1.symm
     refine Opl.one rfl rfl (by simp only [go_sem]; rfl) (Opl.nil (Evr.inBlock (Evr.regionN rfl (Opl.one rfl rfl (by simp only [go_sem]; rfl) (Opl.add (k := .i64) (a := x7_1) (b := 1) K3 rfl rfl rfl rfl (Opl.one (v := .lit (.int .i64 (wrap64 (x7_1 + 1)))) rfl rfl rfl (Opl.nil ?_)))))))
     exact ih1 _ (by omega) _ _ ⟨by omega, _, _, _, _, H, ⟨rfl, rfl, rfl, (by first | rfl | (show PV.lit (.bool _) = _; congr 2; simp_all)), rfl, trivial⟩, h9⟩
    rw [if_neg c2] at H
    have e3 : (!x6_2) = true := by simpa using c2
    try rw [e3]
    refine Opl.one rfl rfl (by simp only [go_sem]; rfl) (Opl.one rfl rfl (by simp only [go_sem]; rfl) (Opl.one rfl rfl (by simp only [go_sem]; rfl) ?_))
    obtain ⟨c6, H⟩ := peel H
    obtain ⟨c7, H⟩ := peel H
    refine Opl.idx (M := (cSl (cInt .i64))) (xs := l0) (j := x7_1) ([] : List Int) (by exact hv0) rfl (by first | omega | (simp only [List.length_set] at *; omega)) (by first | omega | (simp only [List.length_set] at *; omega)) K38 Z26 rfl rfl ?_
    rintro p2 q2 h11
    obtain ⟨pv8, rfl, h12⟩ := h11
    refine Opl.lda (pv8) rfl T26 rfl rfl rfl rfl ?_
    obtain ⟨t273, h_t273, H⟩ := Option.bind_eq_some_iff.1 H
    refine Opl.callc (spec_l2Less.ev hv1 h12 h_t273) rfl rfl rfl rfl ⟨hv1.plain, h12.plain, trivial⟩ (by decide) (Opl.one rfl rfl (by simp only [go_sem]; rfl) (Opl.nil ?_))
    by_cases c8 : t273 = true
    case neg =>
     rw [if_neg c8] at H
     obtain rfl : t273 = false := by simpa using c8
     refine Evr.condF rfl (Evr.skip (Evr.regionN rfl (Opl.one rfl rfl (by simp only [go_sem]; rfl) (Opl.one rfl rfl (by simp only [go_sem]; rfl) (Opl.one rfl rfl (by simp only [go_sem]; rfl) ?_)))))
     obtain ⟨c11, H⟩ := peel H
     refine Opl.idx (M := (cSl (cInt .i64))) (xs := l0) (j := x7_1) ([] : List Int) (by exact hv0) rfl (by first | omega | (simp only [List.length_set] at *; omega)) (by first | omega | (simp only [List.length_set] at *; omega)) K38 Z26 rfl rfl ?_
     rintro p4 q4 h25
     obtain ⟨pv14, rfl, h26⟩ := h25
     refine Opl.lda (pv14) rfl T26 rfl rfl rfl rfl (Opl.lits (M := (cSl (cInt .i64))) (ys := [(rd_Lint l0 x7_1)]) [.tmp 43] K38 T26 rfl rfl rfl (by exact ⟨⟨_, by first | rfl | exact h26.cells, h26⟩, trivial⟩) rfl (by decide) rfl rfl rfl ?_)
     rintro pv15 S h27 u8 w8
     have ap9 := w8.vec h4
     have h28 := u8.vec h4 ap9
     refine Opl.app (M := (cSl (cInt .i64))) (xs := x5_1) (ys := [(rd_Lint l0 x7_1)]) (v := pv4) h28 (.vec h27) (oSl (cInt .i64)) rfl rfl K38 T26 rfl rfl (by (try simp only [List.length_cons, List.length_nil]); omega) (by show (_ + _) * 24 ≤ 140737488355328; (try simp only [List.length_cons, List.length_nil]); omega) rfl rfl rfl rfl rfl ?_
     rintro pv16 S h29 u9 w9
     have ap10 := w9.vec h27
     have h30 := u9.vec h27 ap9.symm
     refine Opl.one rfl rfl (by simp only [go_sem]; rfl) (Opl.nil (Evr.inBlock (Evr.regionN rfl (Opl.one rfl rfl (by simp only [go_sem]; rfl) (Opl.add (k := .i64) (a := x7_1) (b := 1) K3 rfl rfl rfl rfl (Opl.one (v := .lit (.int .i64 (wrap64 (x7_1 + 1)))) rfl rfl rfl (Opl.nil ?_)))))))
     exact ih1 _ (by omega) _ _ ⟨by omega, _, _, _, _, H, ⟨rfl, rfl, rfl, (by first | rfl | (show PV.lit (.bool _) = _; congr 2; simp_all)), rfl, trivial⟩, h29⟩
    rw [if_pos c8] at H
    obtain rfl : t273 = true := by simpa using c8
    refine Evr.condT rfl (Evr.seq (Evr.regionN rfl (Opl.one rfl rfl (by simp only [go_sem]; rfl) (Opl.one rfl rfl (by simp only [go_sem]; rfl) (Opl.lits (M := (cSl (cInt .i64))) (ys := [l1]) [.tmp 36] K38 T26 rfl rfl rfl (by exact ⟨⟨_, by first | rfl | exact hv1.cells, hv1⟩, trivial⟩) rfl (by decide) rfl rfl rfl ?_)))))
    rintro pv9 S h13 u4 w4
    have ap3 := w4.vec h4
    have h14 := u4.vec h4 ap3
    obtain ⟨c9, H⟩ := peel H
    obtain ⟨y278, hy_, H⟩ := Option.bind_eq_some_iff.1 H
    obtain rfl := Option.some.inj hy_
    obtain ⟨c10, H⟩ := peel H
    refine Opl.app (M := (cSl (cInt .i64))) (xs := x5_1) (ys := [l1]) (v := pv4) h14 (.vec h13) (oSl (cInt .i64)) rfl rfl K38 T26 rfl rfl (by (try simp only [List.length_cons, List.length_nil]); omega) (by show (_ + _) * 24 ≤ 140737488355328; (try simp only [List.length_cons, List.length_nil]); omega) rfl rfl rfl rfl rfl ?_
    rintro pv10 S h15 u5 w5
    have ap4 := w5.vec h13
    have h16 := u5.vec h13 ap3.symm
    refine Opl.one rfl rfl (by simp only [go_sem]; rfl) (Opl.nil (Evr.regionN rfl (Opl.one rfl rfl (by simp only [go_sem]; rfl) (Opl.nil (Evr.regionN rfl (Opl.one rfl rfl (by simp only [go_sem]; rfl) (Opl.one rfl rfl (by simp only [go_sem]; rfl) (Opl.one rfl rfl (by simp only [go_sem]; rfl) (Opl.idx (M := (cSl (cInt .i64))) (xs := l0) (j := x7_1) ([] : List Int) (by exact hv0) rfl (by first | omega | (simp only [List.length_set] at *; omega)) (by first | omega | (simp only [List.length_set] at *; omega)) K38 Z26 rfl rfl ?_)))))))))
    rintro p3 q3 h17
    obtain ⟨pv11, rfl, h18⟩ := h17
    refine Opl.lda (pv11) rfl T26 rfl rfl rfl rfl (Opl.lits (M := (cSl (cInt .i64))) (ys := [(rd_Lint l0 x7_1)]) [.tmp 43] K38 T26 rfl rfl rfl (by exact ⟨⟨_, by first | rfl | exact h18.cells, h18⟩, trivial⟩) rfl (by decide) rfl rfl rfl ?_)
    rintro pv12 S h19 u6 w6
    have ap5 := w6.vec h16
    have h20 := u6.vec h16 ap5
    have ap6 := w6.vec h15
    have h21 := u6.vec h15 ap6
    refine Opl.app (M := (cSl (cInt .i64))) (xs := (x5_1 ++ [l1])) (ys := [(rd_Lint l0 x7_1)]) (v := pv10) h21 (.vec h19) (oSl (cInt .i64)) rfl rfl K38 T26 rfl rfl (by (try simp only [List.length_cons, List.length_nil]); omega) (by show (_ + _) * 24 ≤ 140737488355328; (try simp only [List.length_cons, List.length_nil]); omega) rfl rfl rfl rfl rfl ?_
    rintro pv13 S h22 u7 w7
    have ap7 := w7.vec h20
    have h23 := u7.vec h20 ap4
    have ap8 := w7.vec h19
    have h24 := u7.vec h19 ap6.symm
    refine Opl.one rfl rfl (by simp only [go_sem]; rfl) (Opl.nil (Evr.inBlock (Evr.regionN rfl (Opl.one rfl rfl (by simp only [go_sem]; rfl) (Opl.add (k := .i64) (a := x7_1) (b := 1) K3 rfl rfl rfl rfl (Opl.one (v := .lit (.int .i64 (wrap64 (x7_1 + 1)))) rfl rfl rfl (Opl.nil ?_)))))))
    exact ih1 _ (by omega) _ _ ⟨by omega, _, _, _, _, H, ⟨rfl, rfl, rfl, (by first | rfl | (show PV.lit (.bool _) = _; congr 2; simp_all)), rfl, trivial⟩, h22⟩
   ·
    obtain _ | k2 := kq1
    · simp [spec_l2Put.j1] at H
    simp only [spec_l2Put.j1] at H
    by_cases c12 : x24_1 = true
    case neg =>
     rw [if_neg c12] at H
     obtain rfl : x24_1 = false := by simpa using c12
     refine Evr.condF rfl (Evr.skip ?_)
     exact hk2 _ _ ⟨_, _, _, H, by omega, ⟨rfl, rfl, rfl, (by first | rfl | (show PV.lit (.bool _) = _; congr 2; simp_all)), rfl, trivial⟩, h3⟩
    rw [if_pos c12] at H
    obtain rfl : x24_1 = true := by simpa using c12
    refine Evr.condT rfl (Evr.regionN rfl (Opl.one rfl rfl (by simp only [go_sem]; rfl) (Opl.nil ?_)))
    exact hk2 _ _ ⟨_, _, _, H, by omega, ⟨rfl, rfl, rfl, (by first | rfl | (show PV.lit (.bool _) = _; congr 2; simp_all)), rfl, trivial⟩, h3⟩
  ·
   refine Evr.regionN rfl (Opl.one rfl rfl (by simp only [go_sem]; rfl) (Opl.one rfl rfl (by simp only [go_sem]; rfl) (Opl.one rfl rfl (by simp only [go_sem]; rfl) ?_)))
   by_cases c13 : x6_1 = true
   case pos =>
    rw [if_pos c13] at H
    have e4 : (!x6_1) = false := by simpa using c13
    try rw [e4]
    refine Opl.skp rfl (Opl.skp rfl (Opl.skp rfl (Opl.skp rfl (Opl.skp rfl (Opl.skp rfl (Opl.one rfl rfl (by simp only [go_sem]; rfl) (Opl.nil ?_)))))))
    exact hk1 _ _ ⟨_, _, _, H, by omega, ⟨rfl, rfl, rfl, (by first | rfl | (show PV.lit (.bool _) = _; congr 2; simp_all)), rfl, (by first | rfl | (show PV.lit (.bool _) = _; congr 2; simp_all)), trivial⟩, h2⟩
   rw [if_neg c13] at H
   have e5 : (!x6_1) = true := by simpa using c13
   try rw [e5]
   refine Opl.one rfl rfl (by simp only [go_sem]; rfl) (Opl.one rfl rfl (by simp only [go_sem]; rfl) ?_)
   obtain ⟨c14, H⟩ := peel H
   refine Opl.idx (M := (cSl (cInt .i64))) (xs := l0) (j := x7_1) ([] : List Int) (by exact hv0) rfl (by first | omega | (simp only [List.length_set] at *; omega)) (by first | omega | (simp only [List.length_set] at *; omega)) K38 Z26 rfl rfl ?_
   rintro p5 q5 h31
   obtain ⟨pv17, rfl, h32⟩ := h31
   refine Opl.lda (pv17) rfl T26 rfl rfl rfl rfl (Opl.one rfl rfl (by simp only [go_sem]; rfl) ?_)
   obtain ⟨t271, h_t271, H⟩ := Option.bind_eq_some_iff.1 H
   refine Opl.callc (spec_l2Same.ev h32 hv1 h_t271) rfl rfl rfl rfl ⟨h32.plain, hv1.plain, trivial⟩ (by decide) (Opl.one rfl rfl (by simp only [go_sem]; rfl) (Opl.nil ?_))
   exact hk1 _ _ ⟨_, _, _, H, by omega, ⟨rfl, rfl, rfl, (by first | rfl | (show PV.lit (.bool _) = _; congr 2; simp_all)), rfl, (by first | rfl | (show PV.lit (.bool _) = _; congr 2; simp_all)), trivial⟩, h2⟩
theorem spec_l1Held.ev {a0 : Int} {r : Int} (H : spec_l1Held.f a0 = some r) : Ret Try.prog 186 [.lit (.int .i64 a0)] fun v S => v = .lit (.int .i64 r) := by
 unfold spec_l1Held.f at H
 refine Ret.intro Try.func186 rfl (Nat.le_of_ble_eq_true rfl) rfl ?_
 rw [tm1]
 refine Evr.seq (Evr.regionN rfl (Opl.one rfl rfl (by simp only [go_sem]; rfl) (Opl.nil (Evr.seq (Evr.seq (Evr.regionN rfl (Opl.one rfl rfl (by simp only [go_sem]; rfl) (Opl.one rfl rfl (by simp only [go_sem]; rfl) (Opl.nil ?_)))))))))
 by_cases c1 : a0 > 9999
 case pos =>
  rw [if_pos c1] at H
  have e1 : (decide (a0 > 9999)) = true := by simpa using c1
  try rw [e1]
  refine Evr.condT rfl (Evr.seq (Evr.regionN rfl (Opl.one rfl rfl (by simp only [go_sem]; rfl) (Opl.nil ?_))))
  obtain rfl := Option.some.inj H
  refine Evr.ret1 Try.func186 rfl ?_
  show (.lit (.int .i64 9999) : PV) = _
  first | rfl | (simp only [go_sem]; rfl)
 rw [if_neg c1] at H
 have e2 : (decide (a0 > 9999)) = false := by simpa using c1
 try rw [e2]
 refine Evr.condF rfl (Evr.skip (Evr.seq (Evr.seq (Evr.regionN rfl (Opl.one rfl rfl (by simp only [go_sem]; rfl) (Opl.one rfl rfl (by simp only [go_sem]; rfl) (Opl.nil ?_)))))))
 by_cases c2 : a0 < (-9999)
 case pos =>
  rw [if_pos c2] at H
  have e3 : (decide (a0 < (-9999))) = true := by simpa using c2
  try rw [e3]
  refine Evr.condT rfl (Evr.seq (Evr.regionN rfl (Opl.one rfl rfl (by simp only [go_sem]; rfl) (Opl.nil ?_))))
  obtain rfl := Option.some.inj H
  refine Evr.ret1 Try.func186 rfl ?_
  show (.lit (.int .i64 (-9999)) : PV) = _
  first | rfl | (simp only [go_sem]; rfl)
 rw [if_neg c2] at H
 have e4 : (decide (a0 < (-9999))) = false := by simpa using c2
 try rw [e4]
 refine Evr.condF rfl (Evr.skip (Evr.seq (Evr.regionN rfl (Opl.one rfl rfl (by simp only [go_sem]; rfl) (Opl.one rfl rfl (by simp only [go_sem]; rfl) (Opl.nil ?_))))))
 obtain rfl := Option.some.inj H
 refine Evr.ret1 Try.func186 rfl ?_
 show (.lit (.int .i64 a0) : PV) = _
 first | rfl | (simp only [go_sem]; rfl)
theorem spec_l1Truth.ev {a0 : Bool} {r : Int} (H : spec_l1Truth.f a0 = some r) : Ret Try.prog 187 [.lit (.bool a0)] fun v S => v = .lit (.int .i64 r) := by
 unfold spec_l1Truth.f at H
 refine Ret.intro Try.func187 rfl (Nat.le_of_ble_eq_true rfl) rfl ?_
 rw [tm1]
 refine Evr.seq (Evr.regionN rfl (Opl.one rfl rfl (by simp only [go_sem]; rfl) (Opl.nil (Evr.seq (Evr.seq (Evr.regionN rfl (Opl.one rfl rfl (by simp only [go_sem]; rfl) (Opl.nil ?_))))))))
 by_cases c1 : a0 = true
 case pos =>
  rw [if_pos c1] at H
  obtain rfl : a0 = true := by simpa using c1
  refine Evr.condT rfl (Evr.seq (Evr.regionN rfl (Opl.one rfl rfl (by simp only [go_sem]; rfl) (Opl.nil ?_))))
  obtain rfl := Option.some.inj H
  refine Evr.ret1 Try.func187 rfl ?_
  show (.lit (.int .i64 1) : PV) = _
  first | rfl | (simp only [go_sem]; rfl)
 rw [if_neg c1] at H
 obtain rfl : a0 = false := by simpa using c1
 refine Evr.condF rfl (Evr.skip (Evr.seq (Evr.regionN rfl (Opl.one rfl rfl (by simp only [go_sem]; rfl) (Opl.nil ?_)))))
 obtain rfl := Option.some.inj H
 refine Evr.ret1 Try.func187 rfl ?_
 show (.lit (.int .i64 0) : PV) = _
 first | rfl | (simp only [go_sem]; rfl)
theorem spec_l1Do.ev {a0 : Int} {a1 : Int} {a2 : Int} {r : Int} (H : spec_l1Do.f a0 a1 a2 = some r) : Ret Try.prog 176 [.lit (.int .i64 a0), .lit (.int .i64 a1), .lit (.int .i64 a2)] fun v S => v = .lit (.int .i64 r) := by
 unfold spec_l1Do.f at H
 refine Ret.intro Try.func176 rfl (Nat.le_of_ble_eq_true rfl) rfl ?_
 rw [tm3]
 refine Evr.seq (Evr.regionN rfl (Opl.one rfl rfl (by simp only [go_sem]; rfl) (Opl.nil (Evr.seq (Evr.seq (Evr.regionN rfl (Opl.one rfl rfl (by simp only [go_sem]; rfl) (Opl.one rfl rfl (by simp only [go_sem]; rfl) (Opl.nil ?_)))))))))
 by_cases c1 : a0 = 2
 case pos =>
  rw [if_pos c1] at H
  have e1 : (a0 == 2) = true := by simpa using c1
  try rw [e1]
  refine Evr.condT rfl (Evr.seq (Evr.regionN rfl (Opl.one rfl rfl (by simp only [go_sem]; rfl) (Opl.one rfl rfl (by simp only [go_sem]; rfl) (Opl.add (k := .i64) (a := a1) (b := a2) K3 rfl rfl rfl rfl ?_)))))
  obtain ⟨t219, h_t219, H⟩ := Option.bind_eq_some_iff.1 H
  refine Opl.callc (spec_l1Held.ev h_t219) rfl rfl rfl rfl ⟨(.lit _), trivial⟩ (by decide) (Opl.one (v := .lit (.int .i64 t219)) rfl rfl rfl (Opl.nil ?_))
  obtain rfl := Option.some.inj H
  refine Evr.ret1 Try.func176 rfl ?_
  show (.lit (.int .i64 t219) : PV) = _
  first | rfl | (simp only [go_sem]; rfl)
 rw [if_neg c1] at H
 have e2 : (a0 == 2) = false := by simpa using c1
 try rw [e2]
 refine Evr.condF rfl (Evr.skip (Evr.seq (Evr.seq (Evr.regionN rfl (Opl.one rfl rfl (by simp only [go_sem]; rfl) (Opl.one rfl rfl (by simp only [go_sem]; rfl) (Opl.nil ?_)))))))
 by_cases c2 : a0 = 3
 case pos =>
  rw [if_pos c2] at H
  have e3 : (a0 == 3) = true := by simpa using c2
  try rw [e3]
  refine Evr.condT rfl (Evr.seq (Evr.regionN rfl (Opl.one rfl rfl (by simp only [go_sem]; rfl) (Opl.one rfl rfl (by simp only [go_sem]; rfl) (Opl.subi (k := .i64) (a := a1) (b := a2) K3 rfl rfl rfl rfl ?_)))))
  obtain ⟨t220, h_t220, H⟩ := Option.bind_eq_some_iff.1 H
  refine Opl.callc (spec_l1Held.ev h_t220) rfl rfl rfl rfl ⟨(.lit _), trivial⟩ (by decide) (Opl.one (v := .lit (.int .i64 t220)) rfl rfl rfl (Opl.nil ?_))
  obtain rfl := Option.some.inj H
  refine Evr.ret1 Try.func176 rfl ?_
  show (.lit (.int .i64 t220) : PV) = _
  first | rfl | (simp only [go_sem]; rfl)
 rw [if_neg c2] at H
 have e4 : (a0 == 3) = false := by simpa using c2
 try rw [e4]
 refine Evr.condF rfl (Evr.skip (Evr.seq (Evr.seq (Evr.regionN rfl (Opl.one rfl rfl (by simp only [go_sem]; rfl) (Opl.one rfl rfl (by simp only [go_sem]; rfl) (Opl.nil ?_)))))))
 by_cases c3 : a0 = 4
 case pos =>
  rw [if_pos c3] at H
  have e5 : (a0 == 4) = true := by simpa using c3
  try rw [e5]
  refine Evr.condT rfl (Evr.seq (Evr.regionN rfl (Opl.one rfl rfl (by simp only [go_sem]; rfl) (Opl.one rfl rfl (by simp only [go_sem]; rfl) (Opl.mul (k := .i64) (a := a1) (b := a2) K3 rfl rfl rfl rfl ?_)))))
  obtain ⟨t221, h_t221, H⟩ := Option.bind_eq_some_iff.1 H
  refine Opl.callc (spec_l1Held.ev h_t221) rfl rfl rfl rfl ⟨(.lit _), trivial⟩ (by decide) (Opl.one (v := .lit (.int .i64 t221)) rfl rfl rfl (Opl.nil ?_))
  obtain rfl := Option.some.inj H
  refine Evr.ret1 Try.func176 rfl ?_
  show (.lit (.int .i64 t221) : PV) = _
  first | rfl | (simp only [go_sem]; rfl)
 rw [if_neg c3] at H
 have e6 : (a0 == 4) = false := by simpa using c3
 try rw [e6]
 refine Evr.condF rfl (Evr.skip (Evr.seq (Evr.seq (Evr.regionN rfl (Opl.one rfl rfl (by simp only [go_sem]; rfl) (Opl.one rfl rfl (by simp only [go_sem]; rfl) (Opl.nil ?_)))))))
 by_cases c4 : a0 = 5
 case pos =>
  rw [if_pos c4] at H
  have e7 : (a0 == 5) = true := by simpa using c4
  try rw [e7]
  refine Evr.condT rfl (Evr.seq (Evr.regionN rfl (Opl.one rfl rfl (by simp only [go_sem]; rfl) (Opl.one rfl rfl (by simp only [go_sem]; rfl) (Opl.one rfl rfl (by simp only [go_sem]; rfl) ?_)))))
  obtain ⟨t222, h_t222, H⟩ := Option.bind_eq_some_iff.1 H
  refine Opl.callc (spec_l1Truth.ev h_t222) rfl rfl rfl rfl ⟨(.lit _), trivial⟩ (by decide) (Opl.one rfl rfl (by simp only [go_sem]; rfl) (Opl.nil ?_))
  obtain rfl := Option.some.inj H
  refine Evr.ret1 Try.func176 rfl ?_
  show (.lit (.int .i64 t222) : PV) = _
  first | rfl | (simp only [go_sem]; rfl)
 rw [if_neg c4] at H
 have e8 : (a0 == 5) = false := by simpa using c4
 try rw [e8]
 refine Evr.condF rfl (Evr.skip (Evr.seq (Evr.seq (Evr.regionN rfl (Opl.one rfl rfl (by simp only [go_sem]; rfl) (Opl.one rfl rfl (by simp only [go_sem]; rfl) (Opl.nil ?_)))))))
 by_cases c5 : a0 = 6
 case pos =>
  rw [if_pos c5] at H
  have e9 : (a0 == 6) = true := by simpa using c5
  try rw [e9]
  refine Evr.condT rfl (Evr.seq (Evr.regionN rfl (Opl.one rfl rfl (by simp only [go_sem]; rfl) (Opl.one rfl rfl (by simp only [go_sem]; rfl) (Opl.one rfl rfl (by simp only [go_sem]; rfl) ?_)))))
  obtain ⟨t223, h_t223, H⟩ := Option.bind_eq_some_iff.1 H
  refine Opl.callc (spec_l1Truth.ev h_t223) rfl rfl rfl rfl ⟨(.lit _), trivial⟩ (by decide) (Opl.one rfl rfl (by simp only [go_sem]; rfl) (Opl.nil ?_))
  obtain rfl := Option.some.inj H
  refine Evr.ret1 Try.func176 rfl ?_
  show (.lit (.int .i64 t223) : PV) = _
  first | rfl | (simp only [go_sem]; rfl)
 rw [if_neg c5] at H
 have e10 : (a0 == 6) = false := by simpa using c5
 try rw [e10]
 refine Evr.condF rfl (Evr.skip (Evr.seq (Evr.seq (Evr.regionN rfl (Opl.one rfl rfl (by simp only [go_sem]; rfl) (Opl.one rfl rfl (by simp only [go_sem]; rfl) (Opl.nil ?_)))))))
 by_cases c6 : a0 = 7
 case pos =>
  rw [if_pos c6] at H
  have e11 : (a0 == 7) = true := by simpa using c6
  try rw [e11]
  refine Evr.condT rfl (Evr.seq (Evr.regionN rfl (Opl.one rfl rfl (by simp only [go_sem]; rfl) (Opl.subi (k := .i64) (a := 1) (b := a1) K3 rfl rfl rfl rfl (Opl.one (v := .lit (.int .i64 (wrap64 (1 - a1)))) rfl rfl rfl (Opl.nil ?_))))))
  obtain rfl := Option.some.inj H
  refine Evr.ret1 Try.func176 rfl ?_
  show (.lit (.int .i64 (wrap64 (1 - a1))) : PV) = _
  first | rfl | (simp only [go_sem]; rfl)
 rw [if_neg c6] at H
 have e12 : (a0 == 7) = false := by simpa using c6
 try rw [e12]
 refine Evr.condF rfl (Evr.skip (Evr.seq (Evr.seq (Evr.regionN rfl (Opl.one rfl rfl (by simp only [go_sem]; rfl) (Opl.one rfl rfl (by simp only [go_sem]; rfl) (Opl.nil ?_)))))))
 by_cases c7 : a0 = 8
 case pos =>
  rw [if_pos c7] at H
  have e13 : (a0 == 8) = true := by simpa using c7
  try rw [e13]
  refine Evr.condT rfl (Evr.seq (Evr.regionN rfl (Opl.one rfl rfl (by simp only [go_sem]; rfl) (Opl.one rfl rfl (by simp only [go_sem]; rfl) (Opl.mul (k := .i64) (a := a1) (b := a2) K3 rfl rfl rfl rfl (Opl.one (v := .lit (.int .i64 (wrap64 (a1 * a2)))) rfl rfl rfl (Opl.nil ?_)))))))
  obtain rfl := Option.some.inj H
  refine Evr.ret1 Try.func176 rfl ?_
  show (.lit (.int .i64 (wrap64 (a1 * a2))) : PV) = _
  first | rfl | (simp only [go_sem]; rfl)
 rw [if_neg c7] at H
 have e14 : (a0 == 8) = false := by simpa using c7
 try rw [e14]
 refine Evr.condF rfl (Evr.skip (Evr.seq (Evr.regionN rfl (Opl.one rfl rfl (by simp only [go_sem]; rfl) (Opl.one rfl rfl (by simp only [go_sem]; rfl) (Opl.add (k := .i64) (a := a1) (b := a2) K3 rfl rfl rfl rfl (Opl.gtr (a := (wrap64 (a1 + a2))) (b := 0) K3 rfl rfl rfl rfl ?_)))))))
 obtain ⟨t224, h_t224, H⟩ := Option.bind_eq_some_iff.1 H
 refine Opl.callc (spec_l1Truth.ev h_t224) rfl rfl rfl rfl ⟨(.lit _), trivial⟩ (by decide) (Opl.one (v := .lit (.int .i64 t224)) rfl rfl rfl (Opl.nil ?_))
 obtain rfl := Option.some.inj H
 refine Evr.ret1 Try.func176 rfl ?_
 show (.lit (.int .i64 t224) : PV) = _
 first | rfl | (simp only [go_sem]; rfl)
theorem spec_l1Values.ev {k : Nat} {l0 : List ITerm} {v0 : PV} (hv0 : Sl cITerm l0 v0) {l1 : List Int} {v1 : PV} (hv1 : Sl (cInt .i64) l1 v1) {r : (List Int)} (H : spec_l1Values.f k l0 l1 = some r) : Ret Try.prog 155 [v0, v1] fun v S => Vec (cInt .i64) r v S := by
 unfold spec_l1Values.f at H
 refine Ret.intro Try.func155 rfl (Nat.le_of_ble_eq_true rfl) rfl ?_
 rw [tm2]
 refine Evr.seq (Evr.regionN rfl (Opl.one rfl rfl (by simp only [go_sem]; rfl) (Opl.nil (Evr.seq (Evr.regionN rfl (Opl.lits (M := (cInt .i64)) (ys := []) [] K26 T3 rfl rfl rfl trivial rfl (by decide) rfl rfl rfl ?_))))))
 rintro pv1 S h1 u1 w1
 refine Opl.one rfl rfl (by simp only [go_sem]; rfl) (Opl.nil (Evr.seq (Evr.seq (Evr.regionN rfl (Opl.one rfl rfl (by simp only [go_sem]; rfl) (Opl.nil (Evr.block ?_)))))))
 refine Evr.loop (Evr.rounds (n := k) (Inv := fun n tm S => n ≤ k ∧ ∃ (x5_1 : List Int) (x6_1 : Int) (pv2 : PV), spec_l1Values.l0 n l0 l1 x5_1 x6_1 = some r ∧ Has tm [(0, v0), (1, v1), (5, pv2), (6, .lit (.int .i64 x6_1))] ∧ Vec (cInt .i64) x5_1 pv2 S) ?_ ?_ ?_)
 · exact ⟨Nat.le_refl _, _, _, _, H, ⟨rfl, rfl, rfl, rfl, trivial⟩, h1⟩
 ·
  rintro tm S ⟨_, _, _, _, H, -⟩
  simp [spec_l1Values.l0] at H
 ·
  rintro n1 ih1 tm S ⟨hle, x5_1, x6_1, pv2, H, hh, h2⟩
  simp only [spec_l1Values.l0] at H
  rw [hh.eq]
  refine Evr.seq (Evr.seq (Evr.regionN rfl (Opl.one rfl rfl (by simp only [go_sem]; rfl) (Opl.one rfl rfl (by simp only [go_sem]; rfl) (Opl.len (xs := l0) (by exact hv0) K60 rfl rfl rfl rfl (Opl.one rfl rfl (by simp only [go_sem]; rfl) (Opl.nil ?_)))))))
  by_cases c1 : x6_1 < (l0.length : Int)
  case neg =>
   rw [if_neg c1] at H
   have e6 : (decide (x6_1 < (l0.length : Int))) = false := by simpa using c1
   try rw [e6]
   refine Evr.condF rfl (Evr.exit rfl (Evr.seq (Evr.regionN rfl (Opl.one rfl rfl (by simp only [go_sem]; rfl) (Opl.one rfl rfl (by simp only [go_sem]; rfl) (Opl.nil ?_))))))
   obtain rfl := Option.some.inj H
   refine Evr.ret1 Try.func155 rfl ?_
   show Vec _ _ pv2 _
   exact h2
  rw [if_pos c1] at H
  have e1 : (decide (x6_1 < (l0.length : Int))) = true := by simpa using c1
  try rw [e1]
  refine Evr.condT rfl (Evr.skip (Evr.seq (Evr.block (Evr.seq (Evr.regionN rfl (Opl.one rfl rfl (by simp only [go_sem]; rfl) (Opl.one rfl rfl (by simp only [go_sem]; rfl) ?_)))))))
  obtain ⟨c2, H⟩ := peel H
  refine Opl.idx (M := cITerm) (xs := l0) (j := x6_1) zITerm (by exact hv0) rfl (by first | omega | (simp only [List.length_set] at *; omega)) (by first | omega | (simp only [List.length_set] at *; omega)) K60 Z106 rfl rfl ?_
  rintro p1 q1 h3
  obtain rfl := cITerm_R (x := (rd_ITerm l0 x6_1)) h3
  refine Opl.lda (.agg [.lit (.int .i64 ((rd_ITerm l0 x6_1).f0)), .lit (.int .i64 ((rd_ITerm l0 x6_1).f1)), .lit (.int .i64 ((rd_ITerm l0 x6_1).f2)), .lit (.int .i64 ((rd_ITerm l0 x6_1).f3))]) rfl T106 rfl rfl rfl rfl (Opl.alloc T106 rfl rfl rfl ?_)
  rintro i1 S h4 u2 w2
  have ap1 := w2.vec h2
  have h5 := u2.vec h2 ap1
  refine Opl.stb (vs := [.lit (.int .i64 ((rd_ITerm l0 x6_1).f0)), .lit (.int .i64 ((rd_ITerm l0 x6_1).f1)), .lit (.int .i64 ((rd_ITerm l0 x6_1).f2)), .lit (.int .i64 ((rd_ITerm l0 x6_1).f3))]) h4 rfl rfl Z106 rfl (Nat.le_of_ble_eq_true rfl) rfl rfl rfl rfl ?_
  rintro S (h6 : Box (.ptr i1 0) [.lit (.int .i64 ((rd_ITerm l0 x6_1).f0)), .lit (.int .i64 ((rd_ITerm l0 x6_1).f1)), .lit (.int .i64 ((rd_ITerm l0 x6_1).f2)), .lit (.int .i64 ((rd_ITerm l0 x6_1).f3))] _) u3
  have h7 := u3.vec h5 ap1
  refine Opl.nil (Evr.seq (Evr.regionN rfl (Opl.one (v := .ptr i1 0) rfl rfl (by simp only [go_sem]; rfl) (Opl.ldb (v := .lit (.int .i64 ((rd_ITerm l0 x6_1).f0))) h6 rfl T3 rfl rfl rfl rfl (Opl.one rfl rfl (by simp only [go_sem]; rfl) (Opl.nil ?_))))))
  refine Evr.join (fun tm S => ∃ (kq1 : Nat) (x5_2 : List Int) (pv3 : PV), spec_l1Values.l0 kq1 l0 l1 x5_2 (wrap64 (x6_1 + 1)) = some r ∧ kq1 ≤ n1 ∧ Has tm [(0, v0), (1, v1), (5, pv3), (6, .lit (.int .i64 x6_1))] ∧ Vec (cInt .i64) x5_2 pv3 S) ?_ fun hk1 => ?_
  ·
   rintro tm S ⟨kq1, x5_2, pv3, H, hle, hh, h8⟩
   rw [hh.eq]
   refine Evr.inBlock (Evr.regionN rfl (Opl.one rfl rfl (by simp only [go_sem]; rfl) (Opl.add (k := .i64) (a := x6_1) (b := 1) K3 rfl rfl rfl rfl (Opl.one (v := .lit (.int .i64 (wrap64 (x6_1 + 1)))) rfl rfl rfl (Opl.nil ?_)))))
   exact ih1 _ (by omega) _ _ ⟨by omega, _, _, _, H, ⟨rfl, rfl, rfl, rfl, trivial⟩, h8⟩
  ·
   by_cases c3 : ((rd_ITerm l0 x6_1).f0) = 0
   case pos =>
    rw [if_pos c3] at H
    have e2 : (((rd_ITerm l0 x6_1).f0) == 0) = true := by simpa using c3
    try rw [e2]
    refine Evr.condT rfl (Evr.regionN rfl (Opl.one rfl rfl (by simp only [go_sem]; rfl) (Opl.one (v := .ptr i1 1) rfl rfl (by simp only [go_sem]; rfl) (Opl.ldb (v := .lit (.int .i64 ((rd_ITerm l0 x6_1).f1))) h6 rfl T3 rfl rfl rfl rfl (Opl.lits (M := (cInt .i64)) (ys := [((rd_ITerm l0 x6_1).f1)]) [.tmp 24] K26 T3 rfl rfl rfl (by exact ⟨rfl, trivial⟩) rfl (by decide) rfl rfl rfl ?_)))))
    rintro pv4 S h9 u4 w4
    have ap2 := w4.vec h7
    have h10 := u4.vec h7 ap2
    have ap3 := w4.box h6
    have h11 := u4.box h6 ap3
    obtain ⟨c4, H⟩ := peel H
    refine Opl.app (M := (cInt .i64)) (xs := x5_1) (ys := [((rd_ITerm l0 x6_1).f1)]) (v := pv2) h10 (.vec h9) (oInt .i64) rfl rfl K26 T3 rfl rfl (by (try simp only [List.length_cons, List.length_nil]); omega) (by show (_ + _) * 8 ≤ 140737488355328; (try simp only [List.length_cons, List.length_nil]); omega) rfl rfl rfl rfl rfl ?_
    rintro pv5 S h12 u5 w5
    have ap4 := w5.box h11
    have h13 := u5.box h11 ap1.symm
    have ap5 := w5.vec h9
    have h14 := u5.vec h9 ap2.symm
    refine Opl.one rfl rfl (by simp only [go_sem]; rfl) (Opl.nil ?_)
    exact hk1 _ _ ⟨_, _, _, H, by omega, ⟨rfl, rfl, rfl, rfl, trivial⟩, h12⟩
   rw [if_neg c3] at H
   have e3 : (((rd_ITerm l0 x6_1).f0) == 0) = false := by simpa using c3
   try rw [e3]
   refine Evr.condF rfl (Evr.seq (Evr.regionN rfl (Opl.one (v := .ptr i1 0) rfl rfl (by simp only [go_sem]; rfl) (Opl.ldb (v := .lit (.int .i64 ((rd_ITerm l0 x6_1).f0))) h6 rfl T3 rfl rfl rfl rfl (Opl.one rfl rfl (by simp only [go_sem]; rfl) (Opl.nil ?_))))))
   refine Evr.join (fun tm S => ∃ (kq2 : Nat) (x5_3 : List Int) (pv6 : PV), spec_l1Values.l0 kq2 l0 l1 x5_3 (wrap64 (x6_1 + 1)) = some r ∧ kq2 ≤ n1 ∧ Has tm [(0, v0), (1, v1), (5, pv6), (6, .lit (.int .i64 x6_1))] ∧ Vec (cInt .i64) x5_3 pv6 S) ?_ fun hk2 => ?_
   ·
    rintro tm S ⟨kq2, x5_3, pv6, H, hle, hh, h15⟩
    rw [hh.eq]
    exact hk1 _ _ ⟨_, _, _, H, by omega, ⟨rfl, rfl, rfl, rfl, trivial⟩, h15⟩
   ·
    by_cases c5 : ((rd_ITerm l0 x6_1).f0) = 1
    case pos =>
     rw [if_pos c5] at H
     have e4 : (((rd_ITerm l0 x6_1).f0) == 1) = true := by simpa using c5
     try rw [e4]
     refine Evr.condT rfl (Evr.regionN rfl (Opl.one rfl rfl (by simp only [go_sem]; rfl) (Opl.one rfl rfl (by simp only [go_sem]; rfl) (Opl.one (v := .ptr i1 1) rfl rfl (by simp only [go_sem]; rfl) (Opl.ldb (v := .lit (.int .i64 ((rd_ITerm l0 x6_1).f1))) h6 rfl T3 rfl rfl rfl rfl ?_)))))
     obtain ⟨c6, H⟩ := peel H
     obtain ⟨c7, H⟩ := peel H
     obtain ⟨c8, H⟩ := peel H
     refine Opl.idx (M := (cInt .i64)) (xs := l1) (j := ((rd_ITerm l0 x6_1).f1)) (0 : Int) (by exact hv1) rfl (by first | omega | (simp only [List.length_set] at *; omega)) (by first | omega | (simp only [List.length_set] at *; omega)) K26 Z3 rfl rfl ?_
     rintro p2 q2 h16
     obtain rfl : p2 = [.lit (.int .i64 (rd l1 ((rd_ITerm l0 x6_1).f1)))] := h16
     refine Opl.lda (.lit (.int .i64 (rd l1 ((rd_ITerm l0 x6_1).f1)))) rfl T3 rfl rfl rfl rfl (Opl.lits (M := (cInt .i64)) (ys := [(rd l1 ((rd_ITerm l0 x6_1).f1))]) [.tmp 35] K26 T3 rfl rfl rfl (by exact ⟨rfl, trivial⟩) rfl (by decide) rfl rfl rfl ?_)
     rintro pv7 S h17 u6 w6
     have ap6 := w6.vec h7
     have h18 := u6.vec h7 ap6
     have ap7 := w6.box h6
     have h19 := u6.box h6 ap7
     refine Opl.app (M := (cInt .i64)) (xs := x5_1) (ys := [(rd l1 ((rd_ITerm l0 x6_1).f1))]) (v := pv2) h18 (.vec h17) (oInt .i64) rfl rfl K26 T3 rfl rfl (by (try simp only [List.length_cons, List.length_nil]); omega) (by show (_ + _) * 8 ≤ 140737488355328; (try simp only [List.length_cons, List.length_nil]); omega) rfl rfl rfl rfl rfl ?_
     rintro pv8 S h20 u7 w7
     have ap8 := w7.box h19
     have h21 := u7.box h19 ap1.symm
     have ap9 := w7.vec h17
     have h22 := u7.vec h17 ap6.symm
     refine Opl.one rfl rfl (by simp only [go_sem]; rfl) (Opl.nil ?_)
     exact hk2 _ _ ⟨_, _, _, H, by omega, ⟨rfl, rfl, rfl, rfl, trivial⟩, h20⟩
    rw [if_neg c5] at H
    have e5 : (((rd_ITerm l0 x6_1).f0) == 1) = false := by simpa using c5
    try rw [e5]
    refine Evr.condF rfl (Evr.regionD rfl (by kernel_rfl) (Opl.one rfl rfl (by simp only [go_sem]; rfl) (Opl.one (v := .ptr i1 0) rfl rfl (by simp only [go_sem]; rfl) (Opl.ldb (v := .lit (.int .i64 ((rd_ITerm l0 x6_1).f0))) h6 rfl T3 rfl rfl rfl rfl (Opl.one rfl rfl (by simp only [go_sem]; rfl) (Opl.one (v := .ptr i1 2) rfl rfl (by simp only [go_sem]; rfl) (Opl.ldb (v := .lit (.int .i64 ((rd_ITerm l0 x6_1).f2))) h6 rfl T3 rfl rfl rfl rfl ?_)))))))
    obtain ⟨c9, H⟩ := peel H
    obtain ⟨c10, H⟩ := peel H
    obtain ⟨c11, H⟩ := peel H
    obtain ⟨c12, H⟩ := peel H
    refine Opl.idv (M := (cInt .i64)) (xs := x5_1) (j := ((rd_ITerm l0 x6_1).f2)) (v := pv2) h7 rfl rfl (by first | omega | (simp only [List.length_set] at *; omega)) (by first | omega | (simp only [List.length_set] at *; omega)) K26 Z3 rfl rfl ?_
    rintro d1 z1 q3 h23 h24
    refine Opl.ldv (M := (cInt .i64)) (xs := x5_1) (j := ((rd_ITerm l0 x6_1).f2)) (0 : Int) h23 h24 (by first | omega | (simp only [List.length_set] at *; omega)) (by first | omega | (simp only [List.length_set] at *; omega)) rfl T3 rfl rfl rfl ?_
    rintro p3 q4 h25
    obtain rfl : p3 = [.lit (.int .i64 (rd x5_1 ((rd_ITerm l0 x6_1).f2)))] := h25
    refine ⟨.lit (.int .i64 (rd x5_1 ((rd_ITerm l0 x6_1).f2))), rfl, ?_⟩
    refine Opl.one rfl rfl (by simp only [go_sem]; rfl) (Opl.one (v := .ptr i1 3) rfl rfl (by simp only [go_sem]; rfl) (Opl.ldb (v := .lit (.int .i64 ((rd_ITerm l0 x6_1).f3))) h6 rfl T3 rfl rfl rfl rfl (Opl.idv (M := (cInt .i64)) (xs := x5_1) (j := ((rd_ITerm l0 x6_1).f3)) (v := pv2) h7 rfl rfl (by first | omega | (simp only [List.length_set] at *; omega)) (by first | omega | (simp only [List.length_set] at *; omega)) K26 Z3 rfl rfl ?_)))
    rintro d2 z2 q5 h26 h27
    refine Opl.ldv (M := (cInt .i64)) (xs := x5_1) (j := ((rd_ITerm l0 x6_1).f3)) (0 : Int) h26 h27 (by first | omega | (simp only [List.length_set] at *; omega)) (by first | omega | (simp only [List.length_set] at *; omega)) rfl T3 rfl rfl rfl ?_
    rintro p4 q6 h28
    obtain rfl : p4 = [.lit (.int .i64 (rd x5_1 ((rd_ITerm l0 x6_1).f3)))] := h28
    refine ⟨.lit (.int .i64 (rd x5_1 ((rd_ITerm l0 x6_1).f3))), rfl, ?_⟩
    obtain ⟨t239, h_t239, H⟩ := Option.bind_eq_some_iff.1 H
    refine Opl.callc (spec_l1Do.ev h_t239) rfl rfl rfl rfl ⟨(.lit _), (.lit _), (.lit _), trivial⟩ (by decide) (Opl.lits (M := (cInt .i64)) (ys := [t239]) [.tmp 51] K26 T3 rfl rfl rfl (by exact ⟨rfl, trivial⟩) rfl (by decide) rfl rfl rfl ?_)
    rintro pv9 S h29 u8 w8
    have ap10 := w8.vec h7
    have h30 := u8.vec h7 ap10
    have ap11 := w8.box h6
    have h31 := u8.box h6 ap11
    obtain ⟨c13, H⟩ := peel H
    refine Opl.app (M := (cInt .i64)) (xs := x5_1) (ys := [t239]) (v := pv2) h30 (.vec h29) (oInt .i64) rfl rfl K26 T3 rfl rfl (by (try simp only [List.length_cons, List.length_nil]); omega) (by show (_ + _) * 8 ≤ 140737488355328; (try simp only [List.length_cons, List.length_nil]); omega) rfl rfl rfl rfl rfl ?_
    rintro pv10 S h32 u9 w9
    have ap12 := w9.box h31
    have h33 := u9.box h31 ap1.symm
    have ap13 := w9.vec h29
    have h34 := u9.vec h29 ap10.symm
    refine Opl.one rfl rfl (by simp only [go_sem]; rfl) (Opl.nil ?_)
    exact hk2 _ _ ⟨_, _, _, H, by omega, ⟨rfl, rfl, rfl, rfl, trivial⟩, h32⟩
theorem spec_l2Last.ev {k : Nat} {l0 : List ITerm} {v0 : PV} (hv0 : Sl cITerm l0 v0) {l1 : List Int} {v1 : PV} (hv1 : Sl (cInt .i64) l1 v1) {r : Int} (H : spec_l2Last.f k l0 l1 = some r) : Ret Try.prog 102 [v0, v1] fun v S => v = .lit (.int .i64 r) := by
 unfold spec_l2Last.f at H
 refine Ret.intro Try.func102 rfl (Nat.le_of_ble_eq_true rfl) rfl ?_
 rw [tm2]
 refine Evr.seq (Evr.regionN rfl (Opl.one rfl rfl (by simp only [go_sem]; rfl) (Opl.nil (Evr.seq (Evr.regionN rfl (Opl.one rfl rfl (by simp only [go_sem]; rfl) (Opl.one rfl rfl (by simp only [go_sem]; rfl) ?_)))))))
 obtain ⟨t243, h_t243, H⟩ := Option.bind_eq_some_iff.1 H
 refine Opl.call ((spec_l1Values.ev hv0 hv1 h_t243).mono fun _ _ h => Out.vec h) rfl rfl rfl rfl ⟨hv0.plain, hv1.plain, trivial⟩ (by decide) ?_
 rintro pv1 h1
 refine Opl.one rfl rfl (by simp only [go_sem]; rfl) (Opl.len (xs := l0) (by exact hv0) K60 rfl rfl rfl rfl (Opl.subi (k := .i64) (a := (l0.length : Int)) (b := 1) K3 rfl rfl rfl rfl ?_))
 obtain ⟨c1, H⟩ := peel H
 obtain ⟨c2, H⟩ := peel H
 refine Opl.idx (M := (cInt .i64)) (xs := t243) (j := (wrap64 ((l0.length : Int) - 1))) (0 : Int) (by exact h1) rfl (by first | omega | (simp only [List.length_set] at *; omega)) (by first | omega | (simp only [List.length_set] at *; omega)) K26 Z3 rfl rfl ?_
 rintro p1 q1 h2
 obtain rfl : p1 = [.lit (.int .i64 (rd t243 (wrap64 ((l0.length : Int) - 1))))] := h2
 refine Opl.lda (.lit (.int .i64 (rd t243 (wrap64 ((l0.length : Int) - 1))))) rfl T3 rfl rfl rfl rfl (Opl.one (v := .lit (.int .i64 (rd t243 (wrap64 ((l0.length : Int) - 1))))) rfl rfl rfl (Opl.nil ?_))
 obtain rfl := Option.some.inj H
 refine Evr.ret1 Try.func102 rfl ?_
 show (.lit (.int .i64 (rd t243 (wrap64 ((l0.length : Int) - 1)))) : PV) = _
 first | rfl | (simp only [go_sem]; rfl)
theorem spec_l2Use.ev {k : Nat} {l0_0 : List IVar} {v0_0 : PV} (hv0_0 : Sl cIVar l0_0 v0_0) {l0_1 : List IRule} {v0_1 : PV} (hv0_1 : Sl cIRule l0_1 v0_1) {l1 : List Int} {v1 : PV} (hv1 : Sl (cInt .i64) l1 v1) {a2 : Int} {r : (List Int)} (H : spec_l2Use.f k l0_0 l0_1 l1 a2 = some r) : Ret Try.prog 79 [.agg [v0_0, v0_1], v1, .lit (.int .i64 a2)] fun v S => Vec (cInt .i64) r v S := by
 unfold spec_l2Use.f at H
 refine Ret.intro Try.func79 rfl (Nat.le_of_ble_eq_true rfl) rfl ?_
 rw [tm3]
 refine Evr.seq (Evr.regionN rfl (Opl.box (cs := [v0_0, v0_1]) rfl rfl rfl rfl ?_))
 rintro i1 S h1 u1 w1
 refine Opl.one rfl rfl (by simp only [go_sem]; rfl) (Opl.nil (Evr.seq (Evr.regionN rfl (Opl.one (v := .ptr i1 1) rfl rfl (by simp only [go_sem]; rfl) (Opl.ldb (v := v0_1) h1 rfl T30 rfl rfl rfl rfl (Opl.one rfl rfl (by simp only [go_sem]; rfl) ?_))))))
 obtain ⟨c1, H⟩ := peel H
 obtain ⟨c2, H⟩ := peel H
 refine Opl.idx (M := cIRule) (xs := l0_1) (j := a2) zIRule (by exact hv0_1) rfl (by first | omega | (simp only [List.length_set] at *; omega)) (by first | omega | (simp only [List.length_set] at *; omega)) K30 Z125 rfl rfl ?_
 rintro p1 q1 h2
 obtain ⟨pv1, pv2, pv3, rfl, h3, h4, h5⟩ := cIRule_R (x := (rd_IRule l0_1 a2)) h2
 refine Opl.lda (.agg [pv1, pv2, pv3]) rfl T125 rfl rfl rfl rfl (Opl.alloc T125 rfl rfl rfl ?_)
 rintro i2 S h6 u2 w2
 have ap1 := w2.box h1
 have h7 := u2.box h1 ap1
 refine Opl.stb (vs := [pv1, pv2, pv3]) h6 rfl rfl Z125 rfl (Nat.le_of_ble_eq_true rfl) (by simp only [List.all_cons, List.all_nil, h3.one, h4.one, h5.one, Bool.and_true, Bool.true_and] <;> rfl) rfl rfl rfl ?_
 rintro S (h8 : Box (.ptr i2 0) [pv1, pv2, pv3] _) u3
 have h9 := u3.box h7 ap1
 refine Opl.nil (Evr.seq (Evr.seq (Evr.regionN rfl (Opl.one (v := .ptr i2 0) rfl rfl (by simp only [go_sem]; rfl) (Opl.ldb (v := pv1) h8 rfl T60 rfl rfl rfl rfl (Opl.one rfl rfl (by simp only [go_sem]; rfl) ?_))))))
 obtain ⟨t250, h_t250, H⟩ := Option.bind_eq_some_iff.1 H
 refine Opl.callc (spec_l2Last.ev h3 hv1 h_t250) rfl rfl rfl rfl ⟨h3.plain, hv1.plain, trivial⟩ (by decide) (Opl.one rfl rfl (by simp only [go_sem]; rfl) (Opl.nil ?_))
 by_cases c3 : t250 = 0
 case pos =>
  rw [if_pos c3] at H
  have e1 : (t250 == 0) = true := by simpa using c3
  try rw [e1]
  refine Evr.condT rfl (Evr.seq (Evr.regionN rfl (Opl.one rfl rfl (by simp only [go_sem]; rfl) (Opl.nil ?_))))
  obtain rfl := Option.some.inj H
  refine Evr.ret1 Try.func79 rfl ?_
  show Vec _ _ (.lit (.slice none 0 0)) _
  exact .nil
 rw [if_neg c3] at H
 have e2 : (t250 == 0) = false := by simpa using c3
 try rw [e2]
 refine Evr.condF rfl (Evr.skip (Evr.seq (Evr.regionN rfl (Opl.lits (M := (cInt .i64)) (ys := []) [] K26 T3 rfl rfl rfl trivial rfl (by decide) rfl rfl rfl ?_))))
 rintro pv4 S h10 u4 w4
 have ap2 := w4.box h9
 have h11 := u4.box h9 ap2
 have ap3 := w4.box h8
 have h12 := u4.box h8 ap3
 refine Opl.one rfl rfl (by simp only [go_sem]; rfl) (Opl.nil (Evr.seq (Evr.seq (Evr.regionN rfl (Opl.one rfl rfl (by simp only [go_sem]; rfl) (Opl.nil (Evr.block ?_)))))))
 refine Evr.loop (Evr.rounds (n := k) (Inv := fun n tm S => n ≤ k ∧ ∃ (x8_1 : List Int) (x9_1 : Int) (i3 : Abs.Id) (i4 : Abs.Id) (pv5 : PV), spec_l2Use.l0 n l1 x8_1 x9_1 l0_0 l0_1 ((rd_IRule l0_1 a2).f0) ((rd_IRule l0_1 a2).f1) ((rd_IRule l0_1 a2).f2) = some r ∧ Has tm [(1, v1), (3, .ptr i3 0), (7, .ptr i4 0), (8, pv5), (9, .lit (.int .i64 x9_1))] ∧ Box (.ptr i3 0) [v0_0, v0_1] S ∧ Box (.ptr i4 0) [pv1, pv2, pv3] S ∧ Vec (cInt .i64) x8_1 pv5 S ∧ Ap (.ptr i3 0) (.ptr i4 0) ∧ Ap (.ptr i3 0) pv5 ∧ Ap (.ptr i4 0) pv5) ?_ ?_ ?_)
 · exact ⟨Nat.le_refl _, _, _, _, _, _, H, ⟨rfl, rfl, rfl, rfl, rfl, trivial⟩, h11, h12, h10, ap1, ap2, ap3⟩
 ·
  rintro tm S ⟨_, _, _, _, _, _, H, -⟩
  simp [spec_l2Use.l0] at H
 ·
  rintro n1 ih1 tm S ⟨hle, x8_1, x9_1, i3, i4, pv5, H, hh, h13, h14, h15, ap4, ap5, ap6⟩
  simp only [spec_l2Use.l0] at H
  rw [hh.eq]
  refine Evr.seq (Evr.seq (Evr.regionN rfl (Opl.one rfl rfl (by simp only [go_sem]; rfl) (Opl.one rfl rfl (by simp only [go_sem]; rfl) (Opl.len (xs := l1) (by exact hv1) K26 rfl rfl rfl rfl (Opl.one rfl rfl (by simp only [go_sem]; rfl) (Opl.nil ?_)))))))
  by_cases c4 : x9_1 < (l1.length : Int)
  case pos =>
   rw [if_pos c4] at H
   have e3 : (decide (x9_1 < (l1.length : Int))) = true := by simpa using c4
   try rw [e3]
   refine Evr.condT rfl (Evr.skip (Evr.seq (Evr.block (Evr.regionN rfl (Opl.one rfl rfl (by simp only [go_sem]; rfl) (Opl.one rfl rfl (by simp only [go_sem]; rfl) (Opl.one rfl rfl (by simp only [go_sem]; rfl) ?_)))))))
   obtain ⟨c5, H⟩ := peel H
   obtain ⟨c6, H⟩ := peel H
   refine Opl.idx (M := (cInt .i64)) (xs := l1) (j := x9_1) (0 : Int) (by exact hv1) rfl (by first | omega | (simp only [List.length_set] at *; omega)) (by first | omega | (simp only [List.length_set] at *; omega)) K26 Z3 rfl rfl ?_
   rintro p2 q2 h16
   obtain rfl : p2 = [.lit (.int .i64 (rd l1 x9_1))] := h16
   refine Opl.lda (.lit (.int .i64 (rd l1 x9_1))) rfl T3 rfl rfl rfl rfl (Opl.lits (M := (cInt .i64)) (ys := [(rd l1 x9_1)]) [.tmp 32] K26 T3 rfl rfl rfl (by exact ⟨rfl, trivial⟩) rfl (by decide) rfl rfl rfl ?_)
   rintro pv6 S h17 u5 w5
   have ap7 := w5.box h13
   have h18 := u5.box h13 ap7
   have ap8 := w5.box h14
   have h19 := u5.box h14 ap8
   have ap9 := w5.vec h15
   have h20 := u5.vec h15 ap9
   refine Opl.app (M := (cInt .i64)) (xs := x8_1) (ys := [(rd l1 x9_1)]) (v := pv5) h20 (.vec h17) (oInt .i64) rfl rfl K26 T3 rfl rfl (by (try simp only [List.length_cons, List.length_nil]); omega) (by show (_ + _) * 8 ≤ 140737488355328; (try simp only [List.length_cons, List.length_nil]); omega) rfl rfl rfl rfl rfl ?_
   rintro pv7 S h21 u6 w6
   have ap10 := w6.box h18
   have h22 := u6.box h18 ap5
   have ap11 := w6.box h19
   have h23 := u6.box h19 ap6
   have ap12 := w6.vec h17
   have h24 := u6.vec h17 ap9.symm
   refine Opl.one rfl rfl (by simp only [go_sem]; rfl) (Opl.nil (Evr.inBlock (Evr.regionN rfl (Opl.one rfl rfl (by simp only [go_sem]; rfl) (Opl.add (k := .i64) (a := x9_1) (b := 1) K3 rfl rfl rfl rfl (Opl.one (v := .lit (.int .i64 (wrap64 (x9_1 + 1)))) rfl rfl rfl (Opl.nil ?_)))))))
   exact ih1 _ (by omega) _ _ ⟨by omega, _, _, _, _, _, H, ⟨rfl, rfl, rfl, rfl, rfl, trivial⟩, h22, h23, h21, ap4, ap10, ap11⟩
  rw [if_neg c4] at H
  have e4 : (decide (x9_1 < (l1.length : Int))) = false := by simpa using c4
  try rw [e4]
  refine Evr.condF rfl (Evr.exit rfl (Evr.seq (Evr.seq (Evr.regionN rfl (Opl.one rfl rfl (by simp only [go_sem]; rfl) (Opl.nil (Evr.block ?_)))))))
  refine Evr.loop (Evr.rounds (n := n1) (Inv := fun n tm S => n ≤ n1 ∧ ∃ (x8_2 : List Int) (x10_1 : Int) (i5 : Abs.Id) (i6 : Abs.Id) (pv8 : PV), spec_l2Use.l1 n l1 x8_2 x10_1 l0_0 l0_1 ((rd_IRule l0_1 a2).f0) ((rd_IRule l0_1 a2).f1) ((rd_IRule l0_1 a2).f2) = some r ∧ Has tm [(1, v1), (3, .ptr i5 0), (7, .ptr i6 0), (8, pv8), (10, .lit (.int .i64 x10_1))] ∧ Box (.ptr i5 0) [v0_0, v0_1] S ∧ Box (.ptr i6 0) [pv1, pv2, pv3] S ∧ Vec (cInt .i64) x8_2 pv8 S ∧ Ap (.ptr i5 0) (.ptr i6 0) ∧ Ap (.ptr i5 0) pv8 ∧ Ap (.ptr i6 0) pv8) ?_ ?_ ?_)
  · exact ⟨Nat.le_refl _, _, _, _, _, _, H, ⟨rfl, rfl, rfl, rfl, rfl, trivial⟩, h13, h14, h15, ap4, ap5, ap6⟩
  ·
   rintro tm S ⟨_, _, _, _, _, _, H, -⟩
   simp [spec_l2Use.l1] at H
  ·
   rintro n2 ih2 tm S ⟨hle, x8_2, x10_1, i5, i6, pv8, H, hh, h25, h26, h27, ap13, ap14, ap15⟩
   simp only [spec_l2Use.l1] at H
   rw [hh.eq]
   refine Evr.seq (Evr.seq (Evr.regionN rfl (Opl.one rfl rfl (by simp only [go_sem]; rfl) (Opl.one (v := .ptr i6 1) rfl rfl (by simp only [go_sem]; rfl) (Opl.ldb (v := pv2) h26 rfl T26 rfl rfl rfl rfl (Opl.len (xs := ((rd_IRule l0_1 a2).f1)) (by exact h4) K26 rfl rfl rfl rfl (Opl.one rfl rfl (by simp only [go_sem]; rfl) (Opl.nil ?_))))))))
   by_cases c7 : x10_1 < (((rd_IRule l0_1 a2).f1).length : Int)
   case neg =>
    rw [if_neg c7] at H
    have e6 : (decide (x10_1 < (((rd_IRule l0_1 a2).f1).length : Int))) = false := by simpa using c7
    try rw [e6]
    refine Evr.condF rfl (Evr.exit rfl (Evr.seq (Evr.seq (Evr.regionN rfl (Opl.ldb (v := .agg [v0_0, v0_1]) h25 rfl T32 rfl rfl rfl rfl (Opl.one rfl rfl (by simp only [go_sem]; rfl) ?_))))))
    obtain ⟨t262, h_t262, H⟩ := Option.bind_eq_some_iff.1 H
    obtain ⟨pv10, h36, -, h37⟩ := Out.vec h27
    refine Opl.callw (spec_l2In.ev hv0_0 hv0_1 h37 h_t262) rfl rfl rfl (.cons (.refl _) (.cons h36 .nil)) ⟨(.aggL ⟨hv0_0.plain, hv0_1.plain, trivial⟩), h37.plain, trivial⟩ (by decide) (Opl.one rfl rfl (by simp only [go_sem]; rfl) (Opl.nil ?_))
    by_cases c12 : t262 = true
    case neg =>
     rw [if_neg c12] at H
     have e8 : (!t262) = true := by simpa using c12
     try rw [e8]
     refine Evr.condT rfl (Evr.seq (Evr.regionN rfl (Opl.one rfl rfl (by simp only [go_sem]; rfl) (Opl.nil ?_))))
     obtain rfl := Option.some.inj H
     refine Evr.ret1 Try.func79 rfl ?_
     show Vec _ _ (.lit (.slice none 0 0)) _
     exact .nil
    rw [if_pos c12] at H
    have e7 : (!t262) = false := by simpa using c12
    try rw [e7]
    refine Evr.condF rfl (Evr.skip (Evr.seq (Evr.regionN rfl (Opl.one rfl rfl (by simp only [go_sem]; rfl) (Opl.one rfl rfl (by simp only [go_sem]; rfl) (Opl.nil ?_))))))
    obtain rfl := Option.some.inj H
    refine Evr.ret1 Try.func79 rfl ?_
    show Vec _ _ pv8 _
    exact h27
   rw [if_pos c7] at H
   have e5 : (decide (x10_1 < (((rd_IRule l0_1 a2).f1).length : Int))) = true := by simpa using c7
   try rw [e5]
   refine Evr.condT rfl (Evr.skip (Evr.seq (Evr.block (Evr.regionD rfl (by kernel_rfl) (Opl.one rfl rfl (by simp only [go_sem]; rfl) (Opl.one (v := .ptr i6 1) rfl rfl (by simp only [go_sem]; rfl) (Opl.ldb (v := pv2) h26 rfl T26 rfl rfl rfl rfl (Opl.one rfl rfl (by simp only [go_sem]; rfl) ?_))))))))
   obtain ⟨c8, H⟩ := peel H
   obtain ⟨c9, H⟩ := peel H
   refine Opl.idx (M := (cInt .i64)) (xs := ((rd_IRule l0_1 a2).f1)) (j := x10_1) (0 : Int) (by exact h4) rfl (by first | omega | (simp only [List.length_set] at *; omega)) (by first | omega | (simp only [List.length_set] at *; omega)) K26 Z3 rfl rfl ?_
   rintro p3 q3 h28
   obtain rfl : p3 = [.lit (.int .i64 (rd ((rd_IRule l0_1 a2).f1) x10_1))] := h28
   refine Opl.lda (.lit (.int .i64 (rd ((rd_IRule l0_1 a2).f1) x10_1))) rfl T3 rfl rfl rfl rfl (Opl.one (v := .ptr i6 2) rfl rfl (by simp only [go_sem]; rfl) (Opl.ldb (v := pv3) h26 rfl T74 rfl rfl rfl rfl (Opl.one rfl rfl (by simp only [go_sem]; rfl) (Opl.idx (M := (cSl cITerm)) (xs := ((rd_IRule l0_1 a2).f2)) (j := x10_1) ([] : List ITerm) (by exact h5) rfl (by first | omega | (simp only [List.length_set] at *; omega)) (by first | omega | (simp only [List.length_set] at *; omega)) K74 Z60 rfl rfl ?_))))
   rintro p4 q4 h29
   obtain ⟨pv9, rfl, h30⟩ := h29
   refine Opl.lda (pv9) rfl T60 rfl rfl rfl rfl (Opl.one rfl rfl (by simp only [go_sem]; rfl) ?_)
   obtain ⟨t260, h_t260, H⟩ := Option.bind_eq_some_iff.1 H
   refine Opl.callc (spec_l2Last.ev h30 hv1 h_t260) rfl rfl rfl rfl ⟨h30.plain, hv1.plain, trivial⟩ (by decide) ?_
   obtain ⟨c10, H⟩ := peel H
   obtain ⟨c11, H⟩ := peel H
   refine Opl.idv (M := (cInt .i64)) (xs := x8_2) (j := (rd ((rd_IRule l0_1 a2).f1) x10_1)) (v := pv8) h27 rfl rfl (by first | omega | (simp only [List.length_set] at *; omega)) (by first | omega | (simp only [List.length_set] at *; omega)) K26 Z3 rfl rfl ?_
   rintro d1 z1 q5 h31 h32
   refine Opl.stv (M := (cInt .i64)) (xs := x8_2) (j := (rd ((rd_IRule l0_1 a2).f1) x10_1)) (y := t260) (vs := [.lit (.int .i64 t260)]) h31 h32 (by first | omega | (simp only [List.length_set] at *; omega)) (by first | omega | (simp only [List.length_set] at *; omega)) rfl rfl (by exact rfl) Z3 rfl rfl rfl rfl ?_
   rw [← q5]
   rintro S h33 u7
   have h34 := u7.box h25 ap14
   have h35 := u7.box h26 ap15
   refine Opl.nil (Evr.inBlock (Evr.regionN rfl (Opl.one rfl rfl (by simp only [go_sem]; rfl) (Opl.add (k := .i64) (a := x10_1) (b := 1) K3 rfl rfl rfl rfl (Opl.one (v := .lit (.int .i64 (wrap64 (x10_1 + 1)))) rfl rfl rfl (Opl.nil ?_))))))
   exact ih2 _ (by omega) _ _ ⟨by omega, _, _, _, _, _, H, ⟨rfl, rfl, rfl, rfl, rfl, trivial⟩, h34, h35, h33, ap13, ap14, ap15⟩
theorem spec_l2Next.ev {k : Nat} {l0_0 : List IVar} {v0_0 : PV} (hv0_0 : Sl cIVar l0_0 v0_0) {l0_1 : List IRule} {v0_1 : PV} (hv0_1 : Sl cIRule l0_1 v0_1) {l1 : List Int} {v1 : PV} (hv1 : Sl (cInt .i64) l1 v1) {r : (List (List Int))} (H : spec_l2Next.f k l0_0 l0_1 l1 = some r) : Ret Try.prog 128 [.agg [v0_0, v0_1], v1] fun v S => Vec (cSl (cInt .i64)) r v S := by
 unfold spec_l2Next.f at H
 refine Ret.intro Try.func128 rfl (Nat.le_of_ble_eq_true rfl) rfl ?_
 rw [tm2]
 refine Evr.seq (Evr.regionN rfl (Opl.box (cs := [v0_0, v0_1]) rfl rfl rfl rfl ?_))
 rintro i1 S h1 u1 w1
 refine Opl.one rfl rfl (by simp only [go_sem]; rfl) (Opl.nil (Evr.seq (Evr.regionN rfl (Opl.lits (M := (cSl (cInt .i64))) (ys := []) [] K38 T26 rfl rfl rfl trivial rfl (by decide) rfl rfl rfl ?_))))
 rintro pv1 S h2 u2 w2
 have ap1 := w2.box h1
 have h3 := u2.box h1 ap1
 refine Opl.one rfl rfl (by simp only [go_sem]; rfl) (Opl.nil (Evr.seq (Evr.seq (Evr.regionN rfl (Opl.one rfl rfl (by simp only [go_sem]; rfl) (Opl.nil (Evr.block ?_)))))))
 refine Evr.loop (Evr.rounds (n := k) (Inv := fun n tm S => n ≤ k ∧ ∃ (x5_1 : List (List Int)) (x6_1 : Int) (i2 : Abs.Id) (pv2 : PV), spec_l2Next.l0 n l1 x5_1 x6_1 l0_0 l0_1 = some r ∧ Has tm [(1, v1), (2, .ptr i2 0), (5, pv2), (6, .lit (.int .i64 x6_1))] ∧ Box (.ptr i2 0) [v0_0, v0_1] S ∧ Vec (cSl (cInt .i64)) x5_1 pv2 S ∧ Ap (.ptr i2 0) pv2) ?_ ?_ ?_)
 · exact ⟨Nat.le_refl _, _, _, _, _, H, ⟨rfl, rfl, rfl, rfl, trivial⟩, h3, h2, ap1⟩
 ·
  rintro tm S ⟨_, _, _, _, _, H, -⟩
  simp [spec_l2Next.l0] at H
 ·
  rintro n1 ih1 tm S ⟨hle, x5_1, x6_1, i2, pv2, H, hh, h4, h5, ap2⟩
  simp only [spec_l2Next.l0] at H
  rw [hh.eq]
  refine Evr.seq (Evr.seq (Evr.regionN rfl (Opl.one rfl rfl (by simp only [go_sem]; rfl) (Opl.one (v := .ptr i2 1) rfl rfl (by simp only [go_sem]; rfl) (Opl.ldb (v := v0_1) h4 rfl T30 rfl rfl rfl rfl (Opl.len (xs := l0_1) (by exact hv0_1) K30 rfl rfl rfl rfl (Opl.one rfl rfl (by simp only [go_sem]; rfl) (Opl.nil ?_))))))))
  by_cases c1 : x6_1 < (l0_1.length : Int)
  case neg =>
   rw [if_neg c1] at H
   have e4 : (decide (x6_1 < (l0_1.length : Int))) = false := by simpa using c1
   try rw [e4]
   refine Evr.condF rfl (Evr.exit rfl (Evr.seq (Evr.regionN rfl (Opl.one rfl rfl (by simp only [go_sem]; rfl) (Opl.one rfl rfl (by simp only [go_sem]; rfl) (Opl.nil ?_))))))
   obtain rfl := Option.some.inj H
   refine Evr.ret1 Try.func128 rfl ?_
   show Vec _ _ pv2 _
   exact h5
  rw [if_pos c1] at H
  have e1 : (decide (x6_1 < (l0_1.length : Int))) = true := by simpa using c1
  try rw [e1]
  refine Evr.condT rfl (Evr.skip (Evr.seq (Evr.block (Evr.seq (Evr.regionN rfl (Opl.ldb (v := .agg [v0_0, v0_1]) h4 rfl T32 rfl rfl rfl rfl (Opl.one rfl rfl (by simp only [go_sem]; rfl) (Opl.one rfl rfl (by simp only [go_sem]; rfl) ?_))))))))
  obtain ⟨t296, h_t296, H⟩ := Option.bind_eq_some_iff.1 H
  refine Opl.call ((spec_l2Use.ev hv0_0 hv0_1 hv1 h_t296).mono fun _ _ h => Out.vec h) rfl rfl rfl rfl ⟨(.aggL ⟨hv0_0.plain, hv0_1.plain, trivial⟩), hv1.plain, (.lit _), trivial⟩ (by decide) ?_
  rintro pv3 h6
  refine Opl.one rfl rfl (by simp only [go_sem]; rfl) (Opl.nil (Evr.seq (Evr.regionN rfl (Opl.one rfl rfl (by simp only [go_sem]; rfl) (Opl.len (xs := t296) (by exact h6) K26 rfl rfl rfl rfl (Opl.one rfl rfl (by simp only [go_sem]; rfl) (Opl.nil ?_)))))))
  refine Evr.join (fun tm S => ∃ (kq1 : Nat) (x5_2 : List (List Int)) (i3 : Abs.Id) (pv4 : PV), spec_l2Next.l0 kq1 l1 x5_2 (wrap64 (x6_1 + 1)) l0_0 l0_1 = some r ∧ kq1 ≤ n1 ∧ Has tm [(1, v1), (2, .ptr i3 0), (5, pv4), (6, .lit (.int .i64 x6_1))] ∧ Box (.ptr i3 0) [v0_0, v0_1] S ∧ Vec (cSl (cInt .i64)) x5_2 pv4 S ∧ Ap (.ptr i3 0) pv4) ?_ fun hk1 => ?_
  ·
   rintro tm S ⟨kq1, x5_2, i3, pv4, H, hle, hh, h7, h8, ap3⟩
   rw [hh.eq]
   refine Evr.inBlock (Evr.regionN rfl (Opl.one rfl rfl (by simp only [go_sem]; rfl) (Opl.add (k := .i64) (a := x6_1) (b := 1) K3 rfl rfl rfl rfl (Opl.one (v := .lit (.int .i64 (wrap64 (x6_1 + 1)))) rfl rfl rfl (Opl.nil ?_)))))
   exact ih1 _ (by omega) _ _ ⟨by omega, _, _, _, _, H, ⟨rfl, rfl, rfl, rfl, trivial⟩, h7, h8, ap3⟩
  ·
   by_cases c2 : (t296.length : Int) > 0
   case neg =>
    rw [if_neg c2] at H
    have e3 : (decide ((t296.length : Int) > 0)) = false := by simpa using c2
    try rw [e3]
    refine Evr.condF rfl (Evr.skip ?_)
    exact hk1 _ _ ⟨_, _, _, _, H, by omega, ⟨rfl, rfl, rfl, rfl, trivial⟩, h4, h5, ap2⟩
   rw [if_pos c2] at H
   have e2 : (decide ((t296.length : Int) > 0)) = true := by simpa using c2
   try rw [e2]
   refine Evr.condT rfl (Evr.frz 5 h5 rfl ?_)
   rintro pv5 S h9 u3
   have h10 := u3.box h4 ap2
   refine Evr.regionN rfl (Opl.one rfl rfl (by simp only [go_sem]; rfl) (Opl.one rfl rfl (by simp only [go_sem]; rfl) ?_))
   obtain ⟨t299, h_t299, H⟩ := Option.bind_eq_some_iff.1 H
   refine Opl.calla (spec_l2Put.ev h9 h6 h_t299) rfl rfl rfl rfl ⟨h9.plain, h6.plain, trivial⟩ rfl ?_
   rintro pv6 S h11 u4 w3
   have ap4 := w3.box h10
   have h12 := u4.box h10 ap4
   refine Opl.one rfl rfl (by simp only [go_sem]; rfl) (Opl.nil ?_)
   exact hk1 _ _ ⟨_, _, _, _, H, by omega, ⟨rfl, rfl, rfl, rfl, trivial⟩, h12, h11, ap4⟩
theorem spec_l3Follows.ev {k : Nat} {l0_0 : List IVar} {v0_0 : PV} (hv0_0 : Sl cIVar l0_0 v0_0) {l0_1 : List IRule} {v0_1 : PV} (hv0_1 : Sl cIRule l0_1 v0_1) {l1 : List Int} {v1 : PV} (hv1 : Sl (cInt .i64) l1 v1) {l2 : List Int} {v2 : PV} (hv2 : Sl (cInt .i64) l2 v2) {r : Bool} (H : spec_l3Follows.f k l0_0 l0_1 l1 l2 = some r) : Ret Try.prog 66 [.agg [v0_0, v0_1], v1, v2] fun v S => v = .lit (.bool r) := by
 unfold spec_l3Follows.f at H
 refine Ret.intro Try.func66 rfl (Nat.le_of_ble_eq_true rfl) rfl ?_
 rw [tm3]
 refine Evr.seq (Evr.regionN rfl (Opl.box (cs := [v0_0, v0_1]) rfl rfl rfl rfl ?_))
 rintro i1 S h1 u1 w1
 refine Opl.one rfl rfl (by simp only [go_sem]; rfl) (Opl.nil (Evr.seq (Evr.regionN rfl (Opl.ldb (v := .agg [v0_0, v0_1]) h1 rfl T32 rfl rfl rfl rfl (Opl.one rfl rfl (by simp only [go_sem]; rfl) ?_)))))
 obtain ⟨t303, h_t303, H⟩ := Option.bind_eq_some_iff.1 H
 refine Opl.call ((spec_l2Next.ev hv0_0 hv0_1 hv1 h_t303).mono fun _ _ h => Out.vec h) rfl rfl rfl rfl ⟨(.aggL ⟨hv0_0.plain, hv0_1.plain, trivial⟩), hv1.plain, trivial⟩ (by decide) ?_
 rintro pv1 h2
 refine Opl.one rfl rfl (by simp only [go_sem]; rfl) (Opl.nil (Evr.seq (Evr.seq (Evr.regionN rfl (Opl.one rfl rfl (by simp only [go_sem]; rfl) (Opl.len (xs := t303) (by exact h2) K38 rfl rfl rfl rfl (Opl.one rfl rfl (by simp only [go_sem]; rfl) (Opl.nil ?_))))))))
 by_cases c1 : (t303.length : Int) = 0
 case pos =>
  rw [if_pos c1] at H
  have e1 : ((t303.length : Int) == 0) = true := by simpa using c1
  try rw [e1]
  refine Evr.condT rfl (Evr.seq (Evr.regionN rfl (Opl.one rfl rfl (by simp only [go_sem]; rfl) (Opl.one rfl rfl (by simp only [go_sem]; rfl) ?_))))
  obtain ⟨t306, h_t306, H⟩ := Option.bind_eq_some_iff.1 H
  refine Opl.callc (spec_l2Same.ev hv1 hv2 h_t306) rfl rfl rfl rfl ⟨hv1.plain, hv2.plain, trivial⟩ (by decide) (Opl.one rfl rfl (by simp only [go_sem]; rfl) (Opl.nil ?_))
  obtain rfl := Option.some.inj H
  refine Evr.ret1 Try.func66 rfl ?_
  show (.lit (.bool t306) : PV) = _
  first | rfl | (simp only [go_sem]; rfl)
 rw [if_neg c1] at H
 have e2 : ((t303.length : Int) == 0) = false := by simpa using c1
 try rw [e2]
 refine Evr.condF rfl (Evr.skip (Evr.seq (Evr.seq (Evr.regionN rfl (Opl.one rfl rfl (by simp only [go_sem]; rfl) (Opl.nil (Evr.block ?_)))))))
 refine Evr.loop (Evr.rounds (n := k) (Inv := fun n tm S => n ≤ k ∧ ∃ (x8_1 : Int), spec_l3Follows.l0 n l2 t303 x8_1 = some r ∧ Has tm [(2, v2), (7, pv1), (8, .lit (.int .i64 x8_1))]) ?_ ?_ ?_)
 · exact ⟨Nat.le_refl _, _, H, ⟨rfl, rfl, rfl, trivial⟩⟩
 ·
  rintro tm S ⟨_, _, H, -⟩
  simp [spec_l3Follows.l0] at H
 ·
  rintro n1 ih1 tm S ⟨hle, x8_1, H, hh⟩
  simp only [spec_l3Follows.l0] at H
  rw [hh.eq]
  refine Evr.seq (Evr.seq (Evr.regionN rfl (Opl.one rfl rfl (by simp only [go_sem]; rfl) (Opl.one rfl rfl (by simp only [go_sem]; rfl) (Opl.len (xs := t303) (by exact h2) K38 rfl rfl rfl rfl (Opl.one rfl rfl (by simp only [go_sem]; rfl) (Opl.nil ?_)))))))
  by_cases c2 : x8_1 < (t303.length : Int)
  case neg =>
   rw [if_neg c2] at H
   have e4 : (decide (x8_1 < (t303.length : Int))) = false := by simpa using c2
   try rw [e4]
   refine Evr.condF rfl (Evr.exit rfl (Evr.seq (Evr.regionN rfl (Opl.one rfl rfl (by simp only [go_sem]; rfl) (Opl.nil ?_)))))
   obtain rfl := Option.some.inj H
   refine Evr.ret1 Try.func66 rfl ?_
   show (.lit (.bool false) : PV) = _
   first | rfl | (simp only [go_sem]; rfl)
  rw [if_pos c2] at H
  have e3 : (decide (x8_1 < (t303.length : Int))) = true := by simpa using c2
  try rw [e3]
  refine Evr.condT rfl (Evr.skip (Evr.seq (Evr.block (Evr.seq (Evr.regionN rfl (Opl.one rfl rfl (by simp only [go_sem]; rfl) (Opl.one rfl rfl (by simp only [go_sem]; rfl) ?_)))))))
  obtain ⟨c3, H⟩ := peel H
  refine Opl.idx (M := (cSl (cInt .i64))) (xs := t303) (j := x8_1) ([] : List Int) (by exact h2) rfl (by first | omega | (simp only [List.length_set] at *; omega)) (by first | omega | (simp only [List.length_set] at *; omega)) K38 Z26 rfl rfl ?_
  rintro p1 q1 h3
  obtain ⟨pv2, rfl, h4⟩ := h3
  refine Opl.lda (pv2) rfl T26 rfl rfl rfl rfl (Opl.one rfl rfl (by simp only [go_sem]; rfl) ?_)
  obtain ⟨t308, h_t308, H⟩ := Option.bind_eq_some_iff.1 H
  refine Opl.callc (spec_l2Same.ev h4 hv2 h_t308) rfl rfl rfl rfl ⟨h4.plain, hv2.plain, trivial⟩ (by decide) (Opl.nil ?_)
  by_cases c4 : t308 = true
  case pos =>
   rw [if_pos c4] at H
   obtain rfl : t308 = true := by simpa using c4
   refine Evr.condT rfl (Evr.seq (Evr.regionN rfl (Opl.one rfl rfl (by simp only [go_sem]; rfl) (Opl.nil ?_))))
   obtain rfl := Option.some.inj H
   refine Evr.ret1 Try.func66 rfl ?_
   show (.lit (.bool true) : PV) = _
   first | rfl | (simp only [go_sem]; rfl)
  rw [if_neg c4] at H
  obtain rfl : t308 = false := by simpa using c4
  refine Evr.condF rfl (Evr.skip (Evr.inBlock (Evr.regionN rfl (Opl.one rfl rfl (by simp only [go_sem]; rfl) (Opl.add (k := .i64) (a := x8_1) (b := 1) K3 rfl rfl rfl rfl (Opl.one (v := .lit (.int .i64 (wrap64 (x8_1 + 1)))) rfl rfl rfl (Opl.nil ?_)))))))
  exact ih1 _ (by omega) _ _ ⟨by omega, _, H, ⟨rfl, rfl, rfl, trivial⟩⟩
theorem spec_LassoValid.ev {k : Nat} {l0_0 : List IVar} {v0_0 : PV} (hv0_0 : Sl cIVar l0_0 v0_0) {l0_1 : List IRule} {v0_1 : PV} (hv0_1 : Sl cIRule l0_1 v0_1) {l1 : List (List Int)} {v1 : PV} (hv1 : Sl (cSl (cInt .i64)) l1 v1) {l2 : List (List Int)} {v2 : PV} (hv2 : Sl (cSl (cInt .i64)) l2 v2) {r : Bool} (H : spec_LassoValid.f k l0_0 l0_1 l1 l2 = some r) : Ret Try.prog 27 [.agg [v0_0, v0_1], v1, v2] fun v S => v = .lit (.bool r) := by
 unfold spec_LassoValid.f at H
 refine Ret.intro Try.func27 rfl (Nat.le_of_ble_eq_true rfl) rfl ?_
 rw [tm3]
 refine Evr.seq (Evr.regionN rfl (Opl.box (cs := [v0_0, v0_1]) rfl rfl rfl rfl ?_))
 rintro i1 S h1 u1 w1
 refine Opl.one rfl rfl (by simp only [go_sem]; rfl) (Opl.nil (Evr.seq (Evr.regionN rfl (Opl.one rfl rfl (by simp only [go_sem]; rfl) (Opl.len (xs := l1) (by exact hv1) K38 rfl rfl rfl rfl (Opl.one rfl rfl (by simp only [go_sem]; rfl) (Opl.len (xs := l2) (by exact hv2) K38 rfl rfl rfl rfl (Opl.add (k := .i64) (a := (l1.length : Int)) (b := (l2.length : Int)) K3 rfl rfl rfl rfl (Opl.one (v := .lit (.int .i64 (wrap64 ((l1.length : Int) + (l2.length : Int))))) rfl rfl rfl (Opl.nil (Evr.seq (Evr.seq ?_))))))))))))
 refine Evr.join (fun tm S => ∃ (kq1 : Nat) (x34_1 : Bool) (i2 : Abs.Id), spec_LassoValid.j0 kq1 l1 l2 (wrap64 ((l1.length : Int) + (l2.length : Int))) x34_1 l0_0 l0_1 = some r ∧ Has tm [(1, v1), (2, v2), (3, .ptr i2 0), (7, .lit (.int .i64 (wrap64 ((l1.length : Int) + (l2.length : Int))))), (34, .lit (.bool x34_1))] ∧ Box (.ptr i2 0) [v0_0, v0_1] S) ?_ fun hk1 => ?_
 ·
  rintro tm S ⟨kq1, x34_1, i2, H, hh, h2⟩
  rw [hh.eq]
  obtain _ | k1 := kq1
  · simp [spec_LassoValid.j0] at H
  simp only [spec_LassoValid.j0] at H
  by_cases c1 : x34_1 = true
  case pos =>
   rw [if_pos c1] at H
   obtain rfl : x34_1 = true := by simpa using c1
   refine Evr.condT rfl (Evr.seq (Evr.regionN rfl (Opl.one (v := .lit (.bool false)) rfl rfl rfl (Opl.nil ?_))))
   obtain rfl := Option.some.inj H
   refine Evr.ret1 Try.func27 rfl ?_
   show (.lit (.bool false) : PV) = _
   first | rfl | (simp only [go_sem]; rfl)
  rw [if_neg c1] at H
  obtain rfl : x34_1 = false := by simpa using c1
  refine Evr.condF rfl (Evr.skip (Evr.seq (Evr.seq (Evr.regionN rfl (Opl.one (v := .lit (.int .i64 0)) rfl rfl rfl (Opl.nil (Evr.block ?_)))))))
  refine Evr.loop (Evr.rounds (n := k1) (Inv := fun n tm S => n ≤ k1 ∧ ∃ (x8_1 : Int) (i3 : Abs.Id), spec_LassoValid.l0 n l1 l2 (wrap64 ((l1.length : Int) + (l2.length : Int))) x8_1 l0_0 l0_1 = some r ∧ Has tm [(1, v1), (2, v2), (3, .ptr i3 0), (7, .lit (.int .i64 (wrap64 ((l1.length : Int) + (l2.length : Int))))), (8, .lit (.int .i64 x8_1))] ∧ Box (.ptr i3 0) [v0_0, v0_1] S) ?_ ?_ ?_)
  · exact ⟨Nat.le_refl _, _, _, H, ⟨rfl, rfl, rfl, rfl, rfl, trivial⟩, h2⟩
  ·
   rintro tm S ⟨_, _, _, H, -⟩
   simp [spec_LassoValid.l0] at H
  ·
   rintro n1 ih1 tm S ⟨hle, x8_1, i3, H, hh, h3⟩
   simp only [spec_LassoValid.l0] at H
   rw [hh.eq]
   refine Evr.seq (Evr.seq (Evr.regionN rfl (Opl.one (v := .lit (.int .i64 x8_1)) rfl rfl rfl (Opl.one (v := .lit (.int .i64 (wrap64 ((l1.length : Int) + (l2.length : Int))))) rfl rfl rfl (Opl.lss (a := x8_1) (b := (wrap64 ((l1.length : Int) + (l2.length : Int)))) K3 rfl rfl rfl rfl (Opl.nil ?_))))))
   by_cases c2 : x8_1 < (wrap64 ((l1.length : Int) + (l2.length : Int)))
   case neg =>
    rw [if_neg c2] at H
    have e6 : (decide (x8_1 < (wrap64 ((l1.length : Int) + (l2.length : Int))))) = false := by simpa using c2
    try rw [e6]
    refine Evr.condF rfl (Evr.exit rfl (Evr.seq (Evr.regionN rfl (Opl.one (v := .lit (.bool true)) rfl rfl rfl (Opl.nil ?_)))))
    obtain rfl := Option.some.inj H
    refine Evr.ret1 Try.func27 rfl ?_
    show (.lit (.bool true) : PV) = _
    first | rfl | (simp only [go_sem]; rfl)
   rw [if_pos c2] at H
   have e1 : (decide (x8_1 < (wrap64 ((l1.length : Int) + (l2.length : Int))))) = true := by simpa using c2
   try rw [e1]
   refine Evr.condT rfl (Evr.skip (Evr.seq (Evr.block (Evr.seq ?_))))
   refine Evr.join (fun tm S => ∃ (kq2 : Nat) (x70_1 : Bool) (i4 : Abs.Id), spec_LassoValid.j2 kq2 l1 l2 (wrap64 ((l1.length : Int) + (l2.length : Int))) x8_1 x70_1 l0_0 l0_1 = some r ∧ kq2 ≤ n1 ∧ Has tm [(1, v1), (2, v2), (3, .ptr i4 0), (7, .lit (.int .i64 (wrap64 ((l1.length : Int) + (l2.length : Int))))), (8, .lit (.int .i64 x8_1)), (70, .lit (.bool x70_1))] ∧ Box (.ptr i4 0) [v0_0, v0_1] S) ?_ fun hk2 => ?_
   ·
    rintro tm S ⟨kq2, x70_1, i4, H, hle, hh, h4⟩
    rw [hh.eq]
    obtain _ | k2 := kq2
    · simp [spec_LassoValid.j2] at H
    simp only [spec_LassoValid.j2] at H
    by_cases c3 : x70_1 = true
    case pos =>
     rw [if_pos c3] at H
     obtain rfl : x70_1 = true := by simpa using c3
     refine Evr.condT rfl (Evr.seq (Evr.regionN rfl (Opl.one (v := .lit (.bool false)) rfl rfl rfl (Opl.nil ?_))))
     obtain rfl := Option.some.inj H
     refine Evr.ret1 Try.func27 rfl ?_
     show (.lit (.bool false) : PV) = _
     first | rfl | (simp only [go_sem]; rfl)
    rw [if_neg c3] at H
    obtain rfl : x70_1 = false := by simpa using c3
    refine Evr.condF rfl (Evr.skip (Evr.inBlock (Evr.regionN rfl (Opl.one (v := .lit (.int .i64 x8_1)) rfl rfl rfl (Opl.add (k := .i64) (a := x8_1) (b := 1) K3 rfl rfl rfl rfl (Opl.one (v := .lit (.int .i64 (wrap64 (x8_1 + 1)))) rfl rfl rfl (Opl.nil ?_)))))))
    exact ih1 _ (by omega) _ _ ⟨by omega, _, _, H, ⟨rfl, rfl, rfl, rfl, rfl, trivial⟩, h4⟩
   ·
    refine Evr.regionD rfl (by kernel_rfl) (Opl.ldb (v := .agg [v0_0, v0_1]) h3 rfl T32 rfl rfl rfl rfl (Opl.one (v := v1) rfl rfl rfl (Opl.one (v := v2) rfl rfl rfl (Opl.one (v := .lit (.int .i64 x8_1)) rfl rfl rfl ?_))))
    obtain ⟨t374, h_t374, H⟩ := Option.bind_eq_some_iff.1 H
    refine Opl.call (spec_l3At.ev hv1 hv2 h_t374) rfl rfl rfl rfl ⟨hv1.plain, hv2.plain, (.lit _), trivial⟩ (by decide) ?_
    rintro pv1 h5
    obtain ⟨t377, h_t377, H⟩ := Option.bind_eq_some_iff.1 H
    refine Opl.callc (spec_l2In.ev hv0_0 hv0_1 h5 h_t377) rfl rfl rfl rfl ⟨(.aggL ⟨hv0_0.plain, hv0_1.plain, trivial⟩), h5.plain, trivial⟩ (by decide) (Opl.one rfl rfl (by simp only [go_sem]; rfl) (Opl.one (v := .lit (.bool (!t377))) rfl rfl rfl ?_))
    by_cases c4 : t377 = true
    case neg =>
     rw [if_neg c4] at H
     have e5 : (!t377) = true := by simpa using c4
     try rw [e5]
     refine Opl.skp rfl (Opl.skp rfl (Opl.skp rfl (Opl.skp rfl (Opl.skp rfl (Opl.skp rfl (Opl.skp rfl (Opl.skp rfl (Opl.one rfl rfl (by simp only [go_sem]; rfl) (Opl.one (v := .lit (.bool true)) rfl rfl rfl (Opl.skp rfl (Opl.skp rfl (Opl.skp rfl (Opl.skp rfl (Opl.skp rfl (Opl.skp rfl (Opl.skp rfl (Opl.skp rfl (Opl.skp rfl (Opl.skp rfl (Opl.skp rfl (Opl.skp rfl (Opl.one rfl rfl (by simp only [go_sem]; rfl) (Opl.nil ?_)))))))))))))))))))))))
     exact hk2 _ _ ⟨_, _, _, H, by omega, ⟨rfl, rfl, rfl, rfl, rfl, (by first | rfl | (show PV.lit (.bool _) = _; congr 2; simp_all)), trivial⟩, h3⟩
    rw [if_pos c4] at H
    have e2 : (!t377) = false := by simpa using c4
    try rw [e2]
    refine Opl.ldb (v := .agg [v0_0, v0_1]) h3 rfl T32 rfl rfl rfl rfl (Opl.one (v := v1) rfl rfl rfl (Opl.one (v := v2) rfl rfl rfl (Opl.one (v := .lit (.int .i64 x8_1)) rfl rfl rfl (Opl.add (k := .i64) (a := x8_1) (b := 1) K3 rfl rfl rfl rfl ?_))))
    obtain ⟨t378, h_t378, H⟩ := Option.bind_eq_some_iff.1 H
    refine Opl.call (spec_l3At.ev hv1 hv2 h_t378) rfl rfl rfl rfl ⟨hv1.plain, hv2.plain, (.lit _), trivial⟩ (by decide) ?_
    rintro pv2 h6
    obtain ⟨t381, h_t381, H⟩ := Option.bind_eq_some_iff.1 H
    refine Opl.callc (spec_l2In.ev hv0_0 hv0_1 h6 h_t381) rfl rfl rfl rfl ⟨(.aggL ⟨hv0_0.plain, hv0_1.plain, trivial⟩), h6.plain, trivial⟩ (by decide) (Opl.one rfl rfl (by simp only [go_sem]; rfl) (Opl.one rfl rfl (by simp only [go_sem]; rfl) (Opl.one (v := .lit (.bool (!t381))) rfl rfl rfl ?_)))
    by_cases c5 : t381 = true
    case neg =>
     rw [if_neg c5] at H
     have e4 : (!t381) = true := by simpa using c5
     try rw [e4]
     refine Opl.skp rfl (Opl.skp rfl (Opl.skp rfl (Opl.skp rfl (Opl.skp rfl (Opl.skp rfl (Opl.skp rfl (Opl.skp rfl (Opl.skp rfl (Opl.skp rfl (Opl.skp rfl (Opl.skp rfl (Opl.one rfl rfl (by simp only [go_sem]; rfl) (Opl.nil ?_)))))))))))))
     exact hk2 _ _ ⟨_, _, _, H, by omega, ⟨rfl, rfl, rfl, rfl, rfl, (by first | rfl | (show PV.lit (.bool _) = _; congr 2; simp_all)), trivial⟩, h3⟩
    rw [if_pos c5] at H
    have e3 : (!t381) = false := by simpa using c5
    try rw [e3]
    refine Opl.ldb (v := .agg [v0_0, v0_1]) h3 rfl T32 rfl rfl rfl rfl (Opl.one (v := v1) rfl rfl rfl (Opl.one (v := v2) rfl rfl rfl (Opl.one (v := .lit (.int .i64 x8_1)) rfl rfl rfl ?_)))
    obtain ⟨t382, h_t382, H⟩ := Option.bind_eq_some_iff.1 H
    refine Opl.call (spec_l3At.ev hv1 hv2 h_t382) rfl rfl rfl rfl ⟨hv1.plain, hv2.plain, (.lit _), trivial⟩ (by decide) ?_
    rintro pv3 h7
    refine Opl.one (v := v1) rfl rfl rfl (Opl.one (v := v2) rfl rfl rfl (Opl.one (v := .lit (.int .i64 x8_1)) rfl rfl rfl (Opl.add (k := .i64) (a := x8_1) (b := 1) K3 rfl rfl rfl rfl ?_)))
    obtain ⟨t385, h_t385, H⟩ := Option.bind_eq_some_iff.1 H
    refine Opl.call (spec_l3At.ev hv1 hv2 h_t385) rfl rfl rfl rfl ⟨hv1.plain, hv2.plain, (.lit _), trivial⟩ (by decide) ?_
    rintro pv4 h8
    obtain ⟨t388, h_t388, H⟩ := Option.bind_eq_some_iff.1 H
    refine Opl.callc (spec_l3Follows.ev hv0_0 hv0_1 h7 h8 h_t388) rfl rfl rfl rfl ⟨(.aggL ⟨hv0_0.plain, hv0_1.plain, trivial⟩), h7.plain, h8.plain, trivial⟩ (by decide) (Opl.one rfl rfl (by simp only [go_sem]; rfl) (Opl.one rfl rfl (by simp only [go_sem]; rfl) (Opl.nil ?_)))
    exact hk2 _ _ ⟨_, _, _, H, by omega, ⟨rfl, rfl, rfl, rfl, rfl, (by first | rfl | (show PV.lit (.bool _) = _; congr 2; simp_all)), trivial⟩, h3⟩
 ·
  refine Evr.regionD rfl (by kernel_rfl) (Opl.ldb (v := .agg [v0_0, v0_1]) h1 rfl T32 rfl rfl rfl rfl ?_)
  obtain ⟨t366, h_t366, H⟩ := Option.bind_eq_some_iff.1 H
  refine Opl.callc (spec_SystemValid.ev hv0_0 hv0_1 h_t366) rfl rfl rfl rfl ⟨(.aggL ⟨hv0_0.plain, hv0_1.plain, trivial⟩), trivial⟩ (by decide) (Opl.one rfl rfl (by simp only [go_sem]; rfl) (Opl.one (v := .lit (.bool (!t366))) rfl rfl rfl ?_))
  by_cases c6 : t366 = true
  case neg =>
   rw [if_neg c6] at H
   have e12 : (!t366) = true := by simpa using c6
   try rw [e12]
   refine Opl.skp rfl (Opl.skp rfl (Opl.skp rfl (Opl.one rfl rfl (by simp only [go_sem]; rfl) (Opl.one (v := .lit (.bool true)) rfl rfl rfl (Opl.skp rfl (Opl.skp rfl (Opl.one rfl rfl (by simp only [go_sem]; rfl) (Opl.one (v := .lit (.bool true)) rfl rfl rfl (Opl.skp rfl (Opl.skp rfl (Opl.skp rfl (Opl.skp rfl (Opl.skp rfl (Opl.skp rfl (Opl.skp rfl (Opl.one rfl rfl (by simp only [go_sem]; rfl) (Opl.nil ?_)))))))))))))))))
   exact hk1 _ _ ⟨_, _, _, H, ⟨rfl, rfl, rfl, rfl, (by first | rfl | (show PV.lit (.bool _) = _; congr 2; simp_all)), trivial⟩, h1⟩
  rw [if_pos c6] at H
  have e7 : (!t366) = false := by simpa using c6
  try rw [e7]
  refine Opl.one (v := v2) rfl rfl rfl (Opl.len (xs := l2) (by exact hv2) K38 rfl rfl rfl rfl (Opl.one rfl rfl (by simp only [go_sem]; rfl) (Opl.one rfl rfl (by simp only [go_sem]; rfl) (Opl.one (v := .lit (.bool ((l2.length : Int) == 0))) rfl rfl rfl ?_))))
  by_cases c7 : (l2.length : Int) = 0
  case pos =>
   rw [if_pos c7] at H
   have e8 : ((l2.length : Int) == 0) = true := by simpa using c7
   try rw [e8]
   refine Opl.skp rfl (Opl.skp rfl (Opl.one rfl rfl (by simp only [go_sem]; rfl) (Opl.one (v := .lit (.bool true)) rfl rfl rfl (Opl.skp rfl (Opl.skp rfl (Opl.skp rfl (Opl.skp rfl (Opl.skp rfl (Opl.skp rfl (Opl.skp rfl (Opl.one rfl rfl (by simp only [go_sem]; rfl) (Opl.nil ?_))))))))))))
   exact hk1 _ _ ⟨_, _, _, H, ⟨rfl, rfl, rfl, rfl, (by first | rfl | (show PV.lit (.bool _) = _; congr 2; simp_all)), trivial⟩, h1⟩
  rw [if_neg c7] at H
  have e9 : ((l2.length : Int) == 0) = false := by simpa using c7
  try rw [e9]
  refine Opl.one (v := .lit (.int .i64 (wrap64 ((l1.length : Int) + (l2.length : Int))))) rfl rfl rfl (Opl.gtr (a := (wrap64 ((l1.length : Int) + (l2.length : Int)))) (b := 500) K3 rfl rfl rfl rfl (Opl.one rfl rfl (by simp only [go_sem]; rfl) (Opl.one (v := .lit (.bool (decide ((wrap64 ((l1.length : Int) + (l2.length : Int))) > 500)))) rfl rfl rfl ?_)))
  by_cases c8 : (wrap64 ((l1.length : Int) + (l2.length : Int))) > 500
  case pos =>
   rw [if_pos c8] at H
   have e10 : (decide ((wrap64 ((l1.length : Int) + (l2.length : Int))) > 500)) = true := by simpa using c8
   try rw [e10]
   refine Opl.skp rfl (Opl.skp rfl (Opl.skp rfl (Opl.skp rfl (Opl.skp rfl (Opl.skp rfl (Opl.skp rfl (Opl.one rfl rfl (by simp only [go_sem]; rfl) (Opl.nil ?_))))))))
   exact hk1 _ _ ⟨_, _, _, H, ⟨rfl, rfl, rfl, rfl, (by first | rfl | (show PV.lit (.bool _) = _; congr 2; simp_all)), trivial⟩, h1⟩
  rw [if_neg c8] at H
  have e11 : (decide ((wrap64 ((l1.length : Int) + (l2.length : Int))) > 500)) = false := by simpa using c8
  try rw [e11]
  refine Opl.one (v := v1) rfl rfl rfl (Opl.one (v := v2) rfl rfl rfl ?_)
  obtain ⟨t367, h_t367, H⟩ := Option.bind_eq_some_iff.1 H
  refine Opl.call (spec_l3At.ev hv1 hv2 h_t367) rfl rfl rfl rfl ⟨hv1.plain, hv2.plain, (.lit _), trivial⟩ (by decide) ?_
  rintro pv5 h9
  refine Opl.ldb (v := .agg [v0_0, v0_1]) h1 rfl T32 rfl rfl rfl rfl ?_
  obtain ⟨t370, h_t370, H⟩ := Option.bind_eq_some_iff.1 H
  refine Opl.call ((spec_FirstState.ev hv0_0 hv0_1 h_t370).mono fun _ _ h => Out.vec h) rfl rfl rfl rfl ⟨(.aggL ⟨hv0_0.plain, hv0_1.plain, trivial⟩), trivial⟩ (by decide) ?_
  rintro pv6 h10
  obtain ⟨t373, h_t373, H⟩ := Option.bind_eq_some_iff.1 H
  refine Opl.callc (spec_l2Same.ev h9 h10 h_t373) rfl rfl rfl rfl ⟨h9.plain, h10.plain, trivial⟩ (by decide) (Opl.one rfl rfl (by simp only [go_sem]; rfl) (Opl.one rfl rfl (by simp only [go_sem]; rfl) (Opl.nil ?_)))
  exact hk1 _ _ ⟨_, _, _, H, ⟨rfl, rfl, rfl, rfl, (by first | rfl | (show PV.lit (.bool _) = _; congr 2; simp_all)), trivial⟩, h1⟩
end Go.Proofs.Ytblhlpllkpcolaa.PA
