/- Walks of Go functions: each is shown to answer as the Lean function beside it tells, under the conditions that its theorem names. -/
import Derived.Test.YtikjlbanfbkhmaaProg
import Derived.KernelRfl
import Derived.Below
import Derived.Deep.Draws
import Derived.Deep.AppendLies
import Derived.Maps.AppendAt
import Derived.OwnWalk
import Derived.Laws.BytesArg
import Derived.Laws.MakeOwn
import Derived.Laws.OwnMore
import Derived.Deep.OwnRows
import Derived.Tactics
import Derived.Lib.ConvBytes
import Derived.Laws.Slices
import Derived.WalkKit
import Derived.RowKit3
import Derived.Deep.LoopGhost
import Derived.Deep.QuietTactic
import Derived.BigQuiet
import Derived.WideLaws
import Derived.Deep.DeepCutAuto
import Derived.Deep.CutBlock
import Derived.Deep.RegionHeld3
import Derived.Laws.Rows
import Derived.Lib.AppendStr
import Derived.ArgAppend
import Derived.Laws.IdiomCopy
import Derived.OrdersHeld
import Derived.Laws.BitsLemmas
import Derived.RowKit
import Derived.Laws.StructEq
import Derived.Lib.SliceRun
import Derived.WalkSpells
import Derived.ChangeArms
import Derived.ChangeSlices
import Derived.Deep.Slices
import Derived.Attr
import Derived.Laws.Append
import Derived.Laws.AppendOwn
import Derived.Laws.Entries
import Derived.Calls
import Derived.Laws.Sem
import Derived.Test.YtikjlbanfbkhmaaKPd2694d6e7e
namespace Go.Proofs.Ytikjlbanfbkhmaa.PA
open Go Go.Abs Go.RowKit Go.Proofs Go.Proofs.YtikjlbanfbkhmaaW.PrintWords Go.Proofs.YtikjlbanfbkhmaaW.PrintLast Go.Proofs.YtikjlbanfbkhmaaW.PrintMore
set_option maxRecDepth 100000
set_option maxHeartbeats 4000000
set_option linter.unusedVariables false
set_option linter.unusedSimpArgs false
theorem spec_l1In.ev {a0 : Int} {a1 : Int} {a2 : Int} {r : Bool} (H : spec_l1In.f a0 a1 a2 = some r) : Ret Try.prog 82 [.lit (.int .i64 a0), .lit (.int .i64 a1), .lit (.int .i64 a2)] fun v S => v = .lit (.bool r) := by
 unfold spec_l1In.f at H
 refine Ret.intro Try.func82 rfl (Nat.le_of_ble_eq_true rfl) rfl ?_
 rw [tm3]
 refine Evr.sr rfl (Opl.p1 (n := Opl.nil (Evr.sr rfl (Opl.p1 (n := Opl.p1 (n := Opl.p1 (n := Opl.p1 (n := ?_))))))))
 by_cases c1 : a0 ≥ a1
 case neg =>
  rw [if_neg c1] at H
  have e2 : (decide (a0 ≥ a1)) = false := by simpa using c1
  try rw [e2]
  refine Opl.skp rfl (Opl.skp rfl (Opl.skp rfl (Opl.p1 (n := Opl.p1 (n := Opl.nil ?_)))))
  obtain rfl := Option.some.inj H
  refine Evr.ret1 Try.func82 rfl ?_
  show (.lit (.bool false) : PV) = _
  first | rfl | (simp only [go_sem]; rfl)
 rw [if_pos c1] at H
 have e1 : (decide (a0 ≥ a1)) = true := by simpa using c1
 try rw [e1]
 refine Opl.p1 (n := Opl.p1 (n := Opl.p1 (n := Opl.p1 (n := Opl.p1 (n := Opl.nil ?_)))))
 obtain rfl := Option.some.inj H
 refine Evr.ret1 Try.func82 rfl ?_
 show (.lit (.bool (decide (a0 ≤ a2))) : PV) = _
 first | rfl | (simp only [go_sem]; rfl)
theorem spec_l6Are.ev {k : Nat} {l0 : List Int} {v0 : PV} (hv0 : Sl (cInt .i64) l0 v0) {r : Bool} (H : spec_l6Are.f k l0 = some r) : Ret Try.prog 117 [v0] fun v S => v = .lit (.bool r) := by
 unfold spec_l6Are.f at H
 refine Ret.intro Try.func117 rfl (Nat.le_of_ble_eq_true rfl) rfl ?_
 rw [tm1]
 refine Evr.sr rfl (Opl.p1 (n := Opl.nil (Evr.seq (Evr.sr rfl (Opl.p1 (n := Opl.nil (Evr.block ?_)))))))
 refine Evr.loop (Evr.rounds (n := k) (Inv := fun n tm S => n ≤ k ∧ ∃ (x3_1 : Int), spec_l6Are.l0 n l0 x3_1 = some r ∧ Has tm [(0, v0), (3, .lit (.int .i64 x3_1))]) ?_ ?_ ?_)
 · exact ⟨Nat.le_refl _, _, H, ⟨rfl, rfl, trivial⟩⟩
 ·
  rintro tm S ⟨_, _, H, -⟩
  simp [spec_l6Are.l0] at H
 ·
  rintro n1 ih1 tm S ⟨hle, x3_1, H, hh⟩
  simp only [spec_l6Are.l0] at H
  rw [hh.eq]
  refine Evr.seq (Evr.sr rfl (Opl.p1 (n := Opl.p1 (n := Opl.len (xs := l0) (by exact hv0) K26 rfl rfl rfl rfl (Opl.p1 (n := Opl.nil ?_))))))
  by_cases c1 : x3_1 < (l0.length : Int)
  case neg =>
   rw [if_neg c1] at H
   have e4 : (decide (x3_1 < (l0.length : Int))) = false := by simpa using c1
   try rw [e4]
   refine Evr.condF rfl (Evr.exit rfl (Evr.sr rfl (Opl.p1 (n := Opl.nil ?_))))
   obtain rfl := Option.some.inj H
   refine Evr.ret1 Try.func117 rfl ?_
   show (.lit (.bool true) : PV) = _
   first | rfl | (simp only [go_sem]; rfl)
  rw [if_pos c1] at H
  have e1 : (decide (x3_1 < (l0.length : Int))) = true := by simpa using c1
  try rw [e1]
  refine Evr.condT rfl (Evr.skip (Evr.seq (Evr.block (Evr.sr rfl (Opl.p1 (n := Opl.p1 (n := ?_)))))))
  obtain ⟨c2, H⟩ := peel H
  refine Opl.idx (M := (cInt .i64)) (xs := l0) (j := x3_1) (0 : Int) (by exact hv0) rfl (by omega) (by omega) K26 Z3 rfl rfl ?_
  rintro p1 q1 h1
  obtain rfl : p1 = [.lit (.int .i64 (rd l0 x3_1))] := h1
  refine Opl.lda (.lit (.int .i64 (rd l0 x3_1))) rfl T3 rfl rfl rfl rfl ?_
  obtain ⟨t114, h_t114, H⟩ := Option.bind_eq_some_iff.1 H
  refine Opl.callc (spec_l1In.ev h_t114) rfl rfl rfl rfl ⟨(.lit _), (.lit _), (.lit _), trivial⟩ (by decide) (Opl.p1 (n := Opl.nil ?_))
  by_cases c3 : t114 = true
  case neg =>
   rw [if_neg c3] at H
   have e3 : (!t114) = true := by simpa using c3
   try rw [e3]
   refine Evr.condT rfl (Evr.sr rfl (Opl.p1 (n := Opl.nil ?_)))
   obtain rfl := Option.some.inj H
   refine Evr.ret1 Try.func117 rfl ?_
   show (.lit (.bool false) : PV) = _
   first | rfl | (simp only [go_sem]; rfl)
  rw [if_pos c3] at H
  have e2 : (!t114) = false := by simpa using c3
  try rw [e2]
  refine Evr.condF rfl (Evr.skip (Evr.inBlock (Evr.regionN rfl (Opl.p1 (n := Opl.add (k := .i64) (a := x3_1) (b := 1) K3 rfl rfl rfl rfl (Opl.one (v := .lit (.int .i64 (wrap64 (x3_1 + 1)))) rfl rfl rfl (Opl.nil ?_)))))))
  exact ih1 _ (by omega) _ _ ⟨by omega, _, H, ⟨rfl, rfl, trivial⟩⟩
theorem spec_l20Letters.ev {k : Nat} {l0 : List (List Int)} {v0 : PV} (hv0 : Sl (cSl (cInt .i64)) l0 v0) {a1 : Int} {r : Bool} (H : spec_l20Letters.f k l0 a1 = some r) : Ret Try.prog 83 [v0, .lit (.int .i64 a1)] fun v S => v = .lit (.bool r) := by
 unfold spec_l20Letters.f at H
 refine Ret.intro Try.func83 rfl (Nat.le_of_ble_eq_true rfl) rfl ?_
 rw [tm2]
 refine Evr.sr rfl (Opl.p1 (n := Opl.nil (Evr.seq (Evr.sr rfl (Opl.p1 (n := Opl.nil (Evr.block ?_)))))))
 refine Evr.loop (Evr.rounds (n := k) (Inv := fun n tm S => n ≤ k ∧ ∃ (x5_1 : Int), spec_l20Letters.l0 n l0 a1 x5_1 = some r ∧ Has tm [(0, v0), (1, .lit (.int .i64 a1)), (5, .lit (.int .i64 x5_1))]) ?_ ?_ ?_)
 · exact ⟨Nat.le_refl _, _, H, ⟨rfl, rfl, rfl, trivial⟩⟩
 ·
  rintro tm S ⟨_, _, H, -⟩
  simp [spec_l20Letters.l0] at H
 ·
  rintro n1 ih1 tm S ⟨hle, x5_1, H, hh⟩
  simp only [spec_l20Letters.l0] at H
  rw [hh.eq]
  refine Evr.seq (Evr.sr rfl (Opl.p1 (n := Opl.p1 (n := Opl.len (xs := l0) (by exact hv0) K23 rfl rfl rfl rfl (Opl.p1 (n := Opl.nil ?_))))))
  by_cases c1 : x5_1 < (l0.length : Int)
  case neg =>
   rw [if_neg c1] at H
   have e6 : (decide (x5_1 < (l0.length : Int))) = false := by simpa using c1
   try rw [e6]
   refine Evr.condF rfl (Evr.exit rfl (Evr.sr rfl (Opl.p1 (n := Opl.nil ?_))))
   obtain rfl := Option.some.inj H
   refine Evr.ret1 Try.func83 rfl ?_
   show (.lit (.bool true) : PV) = _
   first | rfl | (simp only [go_sem]; rfl)
  rw [if_pos c1] at H
  have e1 : (decide (x5_1 < (l0.length : Int))) = true := by simpa using c1
  try rw [e1]
  refine Evr.condT rfl (Evr.skip (Evr.seq (Evr.block (Evr.sr rfl (Opl.p1 (n := Opl.p1 (n := ?_)))))))
  obtain ⟨c2, H⟩ := peel H
  refine Opl.idx (M := (cSl (cInt .i64))) (xs := l0) (j := x5_1) ([] : List Int) (by exact hv0) rfl (by omega) (by omega) K23 Z26 rfl rfl ?_
  rintro p1 q1 h1
  obtain ⟨pv1, rfl, h2⟩ := h1
  refine Opl.lda (pv1) rfl T26 rfl rfl rfl rfl (Opl.len (xs := (rd_Lint l0 x5_1)) (by exact h2) K26 rfl rfl rfl rfl (Opl.p1 (n := Opl.p1 (n := Opl.p1 (n := ?_)))))
  by_cases c3 : ((rd_Lint l0 x5_1).length : Int) = a1
  case neg =>
   rw [if_neg c3] at H
   have e5 : (((rd_Lint l0 x5_1).length : Int) != a1) = true := by simpa using c3
   try rw [e5]
   refine Opl.skp rfl (Opl.skp rfl (Opl.skp rfl (Opl.skp rfl (Opl.skp rfl (Opl.skp rfl (Opl.p1 (n := Opl.nil (Evr.condT rfl (Evr.sr rfl (Opl.p1 (n := Opl.nil ?_)))))))))))
   obtain rfl := Option.some.inj H
   refine Evr.ret1 Try.func83 rfl ?_
   show (.lit (.bool false) : PV) = _
   first | rfl | (simp only [go_sem]; rfl)
  rw [if_pos c3] at H
  have e2 : (((rd_Lint l0 x5_1).length : Int) != a1) = false := by simpa using c3
  try rw [e2]
  refine Opl.p1 (n := Opl.p1 (n := Opl.idx (M := (cSl (cInt .i64))) (xs := l0) (j := x5_1) ([] : List Int) (by exact hv0) rfl (by omega) (by omega) K23 Z26 rfl rfl ?_))
  rintro p2 q2 h3
  obtain ⟨pv2, rfl, h4⟩ := h3
  refine Opl.lda (pv2) rfl T26 rfl rfl rfl rfl ?_
  obtain ⟨t117, h_t117, H⟩ := Option.bind_eq_some_iff.1 H
  refine Opl.callc (spec_l6Are.ev h4 h_t117) rfl rfl rfl rfl ⟨h4.plain, trivial⟩ (by decide) (Opl.p1 (n := Opl.p1 (n := Opl.nil ?_)))
  by_cases c4 : t117 = true
  case neg =>
   rw [if_neg c4] at H
   have e4 : (!t117) = true := by simpa using c4
   try rw [e4]
   refine Evr.condT rfl (Evr.sr rfl (Opl.p1 (n := Opl.nil ?_)))
   obtain rfl := Option.some.inj H
   refine Evr.ret1 Try.func83 rfl ?_
   show (.lit (.bool false) : PV) = _
   first | rfl | (simp only [go_sem]; rfl)
  rw [if_pos c4] at H
  have e3 : (!t117) = false := by simpa using c4
  try rw [e3]
  refine Evr.condF rfl (Evr.skip (Evr.inBlock (Evr.regionN rfl (Opl.p1 (n := Opl.add (k := .i64) (a := x5_1) (b := 1) K3 rfl rfl rfl rfl (Opl.one (v := .lit (.int .i64 (wrap64 (x5_1 + 1)))) rfl rfl rfl (Opl.nil ?_)))))))
  exact ih1 _ (by omega) _ _ ⟨by omega, _, H, ⟨rfl, rfl, rfl, trivial⟩⟩
theorem spec_GraphValid.ev {k : Nat} {l0_0 : List (List Int)} {v0_0 : PV} (hv0_0 : Sl (cSl (cInt .i64)) l0_0 v0_0) {a0_1 : Int} {l0_2 : List (List Int)} {v0_2 : PV} (hv0_2 : Sl (cSl (cInt .i64)) l0_2 v0_2) {a1 : Int} {r : Bool} (H : spec_GraphValid.f k l0_0 a0_1 l0_2 a1 = some r) : Ret Try.prog 52 [.agg [v0_0, .lit (.int .i64 a0_1), v0_2], .lit (.int .i64 a1)] fun v S => v = .lit (.bool r) := by
 unfold spec_GraphValid.f at H
 refine Ret.intro Try.func52 rfl (Nat.le_of_ble_eq_true rfl) rfl ?_
 rw [tm2]
 refine Evr.sr rfl (Opl.box (cs := [v0_0, .lit (.int .i64 a0_1), v0_2]) rfl rfl rfl rfl ?_)
 rintro i1 S h1 u1 w1
 refine Opl.p1 (n := Opl.nil (Evr.sr rfl (Opl.p1 (v := .ptr i1 0) (n := Opl.ldb (v := v0_0) h1 rfl T23 rfl rfl rfl rfl (Opl.len (xs := l0_0) (by exact hv0_0) K23 rfl rfl rfl rfl (Opl.p1 (n := Opl.nil (Evr.seq (Evr.seq ?_)))))))))
 refine Evr.join (fun tm S => ∃ (kq1 : Nat) (x40_1 : Bool) (i2 : Abs.Id), spec_GraphValid.j0 kq1 (l0_0.length : Int) x40_1 l0_0 a0_1 l0_2 = some r ∧ Has tm [(2, .ptr i2 0), (5, .lit (.int .i64 (l0_0.length : Int))), (40, .lit (.bool x40_1))] ∧ Box (.ptr i2 0) [v0_0, .lit (.int .i64 a0_1), v0_2] S) ?_ fun hk1 => ?_
 ·
  rintro tm S ⟨kq1, x40_1, i2, H, hh, h2⟩
  rw [hh.eq]
  obtain _ | k1 := kq1
  · simp [spec_GraphValid.j0] at H
  simp only [spec_GraphValid.j0] at H
  by_cases c1 : x40_1 = true
  case pos =>
   rw [if_pos c1] at H
   obtain rfl : x40_1 = true := by simpa using c1
   refine Evr.condT rfl (Evr.sr rfl (Opl.p1 (n := Opl.nil ?_)))
   obtain rfl := Option.some.inj H
   refine Evr.ret1 Try.func52 rfl ?_
   show (.lit (.bool false) : PV) = _
   first | rfl | (simp only [go_sem]; rfl)
  rw [if_neg c1] at H
  obtain rfl : x40_1 = false := by simpa using c1
  refine Evr.condF rfl (Evr.skip (Evr.seq (Evr.sr rfl (Opl.p1 (n := Opl.nil (Evr.block ?_))))))
  refine Evr.loop (Evr.rounds (n := k1) (Inv := fun n tm S => n ≤ k1 ∧ ∃ (x6_1 : Int) (i3 : Abs.Id), spec_GraphValid.l0 n (l0_0.length : Int) x6_1 l0_0 a0_1 l0_2 = some r ∧ Has tm [(2, .ptr i3 0), (5, .lit (.int .i64 (l0_0.length : Int))), (6, .lit (.int .i64 x6_1))] ∧ Box (.ptr i3 0) [v0_0, .lit (.int .i64 a0_1), v0_2] S) ?_ ?_ ?_)
  · exact ⟨Nat.le_refl _, _, _, H, ⟨rfl, rfl, rfl, trivial⟩, h2⟩
  ·
   rintro tm S ⟨_, _, _, H, -⟩
   simp [spec_GraphValid.l0] at H
  ·
   rintro n1 ih1 tm S ⟨hle, x6_1, i3, H, hh, h3⟩
   simp only [spec_GraphValid.l0] at H
   rw [hh.eq]
   refine Evr.seq (Evr.sr rfl (Opl.p1 (n := Opl.p1 (n := Opl.p1 (n := Opl.nil ?_)))))
   by_cases c2 : x6_1 < (l0_0.length : Int)
   case neg =>
    rw [if_neg c2] at H
    have e12 : (decide (x6_1 < (l0_0.length : Int))) = false := by simpa using c2
    try rw [e12]
    refine Evr.condF rfl (Evr.exit rfl (Evr.sr rfl (Opl.p1 (n := Opl.nil ?_))))
    obtain rfl := Option.some.inj H
    refine Evr.ret1 Try.func52 rfl ?_
    show (.lit (.bool true) : PV) = _
    first | rfl | (simp only [go_sem]; rfl)
   rw [if_pos c2] at H
   have e1 : (decide (x6_1 < (l0_0.length : Int))) = true := by simpa using c2
   try rw [e1]
   refine Evr.condT rfl (Evr.skip (Evr.seq (Evr.block (Evr.seq (Evr.sr rfl (Opl.p1 (n := Opl.nil (Evr.block ?_))))))))
   refine Evr.loop (Evr.rounds (n := n1) (Inv := fun n tm S => n ≤ n1 ∧ ∃ (x7_1 : Int) (i4 : Abs.Id), spec_GraphValid.l1 n (l0_0.length : Int) x6_1 x7_1 l0_0 a0_1 l0_2 = some r ∧ Has tm [(2, .ptr i4 0), (5, .lit (.int .i64 (l0_0.length : Int))), (6, .lit (.int .i64 x6_1)), (7, .lit (.int .i64 x7_1))] ∧ Box (.ptr i4 0) [v0_0, .lit (.int .i64 a0_1), v0_2] S) ?_ ?_ ?_)
   · exact ⟨Nat.le_refl _, _, _, H, ⟨rfl, rfl, rfl, rfl, trivial⟩, h3⟩
   ·
    rintro tm S ⟨_, _, _, H, -⟩
    simp [spec_GraphValid.l1] at H
   ·
    rintro n2 ih2 tm S ⟨hle, x7_1, i4, H, hh, h4⟩
    simp only [spec_GraphValid.l1] at H
    rw [hh.eq]
    refine Evr.seq (Evr.sr rfl (Opl.p1 (n := Opl.p1 (v := .ptr i4 2) (n := Opl.ldb (v := v0_2) h4 rfl T23 rfl rfl rfl rfl (Opl.p1 (n := ?_))))))
    obtain ⟨c3, H⟩ := peel H
    obtain ⟨c4, H⟩ := peel H
    refine Opl.idx (M := (cSl (cInt .i64))) (xs := l0_2) (j := x6_1) ([] : List Int) (by exact hv0_2) rfl (by omega) (by omega) K23 Z26 rfl rfl ?_
    rintro p1 q1 h5
    obtain ⟨pv1, rfl, h6⟩ := h5
    refine Opl.lda (pv1) rfl T26 rfl rfl rfl rfl (Opl.len (xs := (rd_Lint l0_2 x6_1)) (by exact h6) K26 rfl rfl rfl rfl (Opl.p1 (n := Opl.nil ?_)))
    by_cases c5 : x7_1 < ((rd_Lint l0_2 x6_1).length : Int)
    case neg =>
     rw [if_neg c5] at H
     have e9 : (decide (x7_1 < ((rd_Lint l0_2 x6_1).length : Int))) = false := by simpa using c5
     try rw [e9]
     refine Evr.condF rfl (Evr.exit rfl (Evr.sr rfl (Opl.p1 (v := .ptr i4 2) (n := Opl.ldb (v := v0_2) h4 rfl T23 rfl rfl rfl rfl (Opl.p1 (n := Opl.idx (M := (cSl (cInt .i64))) (xs := l0_2) (j := x6_1) ([] : List Int) (by exact hv0_2) rfl (by omega) (by omega) K23 Z26 rfl rfl ?_))))))
     rintro p8 q8 h16
     obtain ⟨pv5, rfl, h17⟩ := h16
     refine Opl.lda (pv5) rfl T26 rfl rfl rfl rfl (Opl.len (xs := (rd_Lint l0_2 x6_1)) (by exact h17) K26 rfl rfl rfl rfl (Opl.p1 (n := Opl.nil ?_)))
     by_cases c12 : ((rd_Lint l0_2 x6_1).length : Int) = 0
     case pos =>
      rw [if_pos c12] at H
      have e10 : (((rd_Lint l0_2 x6_1).length : Int) == 0) = true := by simpa using c12
      try rw [e10]
      refine Evr.condT rfl (Evr.sr rfl (Opl.p1 (n := Opl.nil ?_)))
      obtain rfl := Option.some.inj H
      refine Evr.ret1 Try.func52 rfl ?_
      show (.lit (.bool false) : PV) = _
      first | rfl | (simp only [go_sem]; rfl)
     rw [if_neg c12] at H
     have e11 : (((rd_Lint l0_2 x6_1).length : Int) == 0) = false := by simpa using c12
     try rw [e11]
     refine Evr.condF rfl (Evr.skip (Evr.inBlock (Evr.regionN rfl (Opl.p1 (n := Opl.add (k := .i64) (a := x6_1) (b := 1) K3 rfl rfl rfl rfl (Opl.one (v := .lit (.int .i64 (wrap64 (x6_1 + 1)))) rfl rfl rfl (Opl.nil ?_)))))))
     exact ih1 _ (by omega) _ _ ⟨by omega, _, _, H, ⟨rfl, rfl, rfl, trivial⟩, h4⟩
    rw [if_pos c5] at H
    have e2 : (decide (x7_1 < ((rd_Lint l0_2 x6_1).length : Int))) = true := by simpa using c5
    try rw [e2]
    refine Evr.condT rfl (Evr.skip (Evr.seq (Evr.block (Evr.seq (Evr.regionD rfl (by kernel_rfl) (Opl.p1 (v := .ptr i4 2) (n := Opl.ldb (v := v0_2) h4 rfl T23 rfl rfl rfl rfl (Opl.p1 (n := ?_)))))))))
    obtain ⟨c6, H⟩ := peel H
    refine Opl.idx (M := (cSl (cInt .i64))) (xs := l0_2) (j := x6_1) ([] : List Int) (by exact hv0_2) rfl (by omega) (by omega) K23 Z26 rfl rfl ?_
    rintro p2 q2 h7
    obtain ⟨pv2, rfl, h8⟩ := h7
    refine Opl.lda (pv2) rfl T26 rfl rfl rfl rfl (Opl.p1 (n := Opl.idx (M := (cInt .i64)) (xs := (rd_Lint l0_2 x6_1)) (j := x7_1) (0 : Int) (by exact h8) rfl (by omega) (by omega) K26 Z3 rfl rfl ?_))
    rintro p3 q3 h9
    obtain rfl : p3 = [.lit (.int .i64 (rd (rd_Lint l0_2 x6_1) x7_1))] := h9
    refine Opl.lda (.lit (.int .i64 (rd (rd_Lint l0_2 x6_1) x7_1))) rfl T3 rfl rfl rfl rfl (Opl.p1 (n := Opl.subi (k := .i64) (a := (l0_0.length : Int)) (b := 1) K3 rfl rfl rfl rfl ?_))
    obtain ⟨t357, h_t357, H⟩ := Option.bind_eq_some_iff.1 H
    refine Opl.callc (spec_l1In.ev h_t357) rfl rfl rfl rfl ⟨(.lit _), (.lit _), (.lit _), trivial⟩ (by decide) (Opl.p1 (n := Opl.one (v := .lit (.bool (!t357))) rfl rfl rfl ?_))
    by_cases c7 : t357 = true
    case neg =>
     rw [if_neg c7] at H
     have e8 : (!t357) = true := by simpa using c7
     try rw [e8]
     refine Opl.skp rfl (Opl.skp rfl (Opl.skp rfl (Opl.skp rfl (Opl.skp rfl (Opl.skp rfl (Opl.skp rfl (Opl.skp rfl (Opl.skp rfl (Opl.skp rfl (Opl.skp rfl (Opl.skp rfl (Opl.skp rfl (Opl.skp rfl (Opl.skp rfl (Opl.skp rfl (Opl.skp rfl (Opl.skp rfl (Opl.skp rfl (Opl.skp rfl (Opl.skp rfl (Opl.skp rfl (Opl.one (v := .lit (.bool true)) rfl rfl rfl (Opl.nil (Evr.condT rfl (Evr.sr rfl (Opl.one (v := .lit (.bool false)) rfl rfl rfl (Opl.nil ?_)))))))))))))))))))))))))))
     obtain _ | k4 := n2
     · simp [spec_GraphValid.j3] at H
     simp only [spec_GraphValid.j3] at H
     rw [if_pos (by first | rfl | trivial)] at H
     obtain rfl := Option.some.inj H
     refine Evr.ret1 Try.func52 rfl ?_
     show (.lit (.bool false) : PV) = _
     first | rfl | (simp only [go_sem]; rfl)
    rw [if_pos c7] at H
    have e3 : (!t357) = false := by simpa using c7
    try rw [e3]
    refine Opl.one (v := .lit (.int .i64 x7_1)) rfl rfl rfl (Opl.p1 (n := Opl.one (v := .lit (.bool (decide (x7_1 > 0)))) rfl rfl rfl ?_))
    by_cases c8 : x7_1 > 0
    case neg =>
     rw [if_neg c8] at H
     have e7 : (decide (x7_1 > 0)) = false := by simpa using c8
     try rw [e7]
     refine Opl.skp rfl (Opl.skp rfl (Opl.skp rfl (Opl.skp rfl (Opl.skp rfl (Opl.skp rfl (Opl.skp rfl (Opl.skp rfl (Opl.skp rfl (Opl.skp rfl (Opl.skp rfl (Opl.skp rfl (Opl.skp rfl (Opl.skp rfl (Opl.skp rfl (Opl.skp rfl (Opl.skp rfl (Opl.skp rfl (Opl.one (v := .lit (.bool false)) rfl rfl rfl (Opl.one (v := .lit (.bool false)) rfl rfl rfl (Opl.nil (Evr.condF rfl (Evr.skip (Evr.inBlock (Evr.regionN rfl (Opl.one (v := .lit (.int .i64 x7_1)) rfl rfl rfl (Opl.add (k := .i64) (a := x7_1) (b := 1) K3 rfl rfl rfl rfl (Opl.one (v := .lit (.int .i64 (wrap64 (x7_1 + 1)))) rfl rfl rfl (Opl.nil ?_))))))))))))))))))))))))))))
     obtain _ | k3 := n2
     · simp [spec_GraphValid.j3] at H
     simp only [spec_GraphValid.j3] at H
     rw [if_neg (by first | decide | exact id)] at H
     exact ih2 _ (by omega) _ _ ⟨by omega, _, _, H, ⟨rfl, rfl, rfl, rfl, trivial⟩, h4⟩
    rw [if_pos c8] at H
    have e4 : (decide (x7_1 > 0)) = true := by simpa using c8
    try rw [e4]
    refine Opl.p1 (v := .ptr i4 2) (n := Opl.ldb (v := v0_2) h4 rfl T23 rfl rfl rfl rfl (Opl.one (v := .lit (.int .i64 x6_1)) rfl rfl rfl ?_))
    obtain ⟨c9, H⟩ := peel H
    obtain ⟨c10, H⟩ := peel H
    obtain _ | k2 := n2
    · simp [spec_GraphValid.j3] at H
    simp only [spec_GraphValid.j3] at H
    refine Opl.idx (M := (cSl (cInt .i64))) (xs := l0_2) (j := x6_1) ([] : List Int) (by exact hv0_2) rfl (by omega) (by omega) K23 Z26 rfl rfl ?_
    rintro p4 q4 h10
    obtain ⟨pv3, rfl, h11⟩ := h10
    refine Opl.lda (pv3) rfl T26 rfl rfl rfl rfl (Opl.one (v := .lit (.int .i64 x7_1)) rfl rfl rfl (Opl.idx (M := (cInt .i64)) (xs := (rd_Lint l0_2 x6_1)) (j := x7_1) (0 : Int) (by exact h11) rfl (by omega) (by omega) K26 Z3 rfl rfl ?_))
    rintro p5 q5 h12
    obtain rfl : p5 = [.lit (.int .i64 (rd (rd_Lint l0_2 x6_1) x7_1))] := h12
    refine Opl.lda (.lit (.int .i64 (rd (rd_Lint l0_2 x6_1) x7_1))) rfl T3 rfl rfl rfl rfl (Opl.p1 (v := .ptr i4 2) (n := Opl.ldb (v := v0_2) h4 rfl T23 rfl rfl rfl rfl (Opl.one (v := .lit (.int .i64 x6_1)) rfl rfl rfl (Opl.idx (M := (cSl (cInt .i64))) (xs := l0_2) (j := x6_1) ([] : List Int) (by exact hv0_2) rfl (by omega) (by omega) K23 Z26 rfl rfl ?_))))
    rintro p6 q6 h13
    obtain ⟨pv4, rfl, h14⟩ := h13
    refine Opl.lda (pv4) rfl T26 rfl rfl rfl rfl (Opl.one (v := .lit (.int .i64 x7_1)) rfl rfl rfl (Opl.subi (k := .i64) (a := x7_1) (b := 1) K3 rfl rfl rfl rfl (Opl.idx (M := (cInt .i64)) (xs := (rd_Lint l0_2 x6_1)) (j := (wrap64 (x7_1 - 1))) (0 : Int) (by exact h14) rfl (by omega) (by omega) K26 Z3 rfl rfl ?_)))
    rintro p7 q7 h15
    obtain rfl : p7 = [.lit (.int .i64 (rd (rd_Lint l0_2 x6_1) (wrap64 (x7_1 - 1))))] := h15
    refine Opl.lda (.lit (.int .i64 (rd (rd_Lint l0_2 x6_1) (wrap64 (x7_1 - 1))))) rfl T3 rfl rfl rfl rfl (Opl.leq (a := (rd (rd_Lint l0_2 x6_1) x7_1)) (b := (rd (rd_Lint l0_2 x6_1) (wrap64 (x7_1 - 1)))) K3 rfl rfl rfl rfl (Opl.one (v := .lit (.bool (decide ((rd (rd_Lint l0_2 x6_1) x7_1) ≤ (rd (rd_Lint l0_2 x6_1) (wrap64 (x7_1 - 1))))))) rfl rfl rfl (Opl.one (v := .lit (.bool (decide ((rd (rd_Lint l0_2 x6_1) x7_1) ≤ (rd (rd_Lint l0_2 x6_1) (wrap64 (x7_1 - 1))))))) rfl rfl rfl (Opl.nil ?_))))
    by_cases c11 : (decide ((rd (rd_Lint l0_2 x6_1) x7_1) ≤ (rd (rd_Lint l0_2 x6_1) (wrap64 (x7_1 - 1))))) = true
    case pos =>
     rw [if_pos c11] at H
     have e5 : (decide ((rd (rd_Lint l0_2 x6_1) x7_1) ≤ (rd (rd_Lint l0_2 x6_1) (wrap64 (x7_1 - 1))))) = true := by simpa using c11
     try rw [e5]
     refine Evr.condT rfl (Evr.sr rfl (Opl.one (v := .lit (.bool false)) rfl rfl rfl (Opl.nil ?_)))
     obtain rfl := Option.some.inj H
     refine Evr.ret1 Try.func52 rfl ?_
     show (.lit (.bool false) : PV) = _
     first | rfl | (simp only [go_sem]; rfl)
    rw [if_neg c11] at H
    have e6 : (decide ((rd (rd_Lint l0_2 x6_1) x7_1) ≤ (rd (rd_Lint l0_2 x6_1) (wrap64 (x7_1 - 1))))) = false := by simpa using c11
    try rw [e6]
    refine Evr.condF rfl (Evr.skip (Evr.inBlock (Evr.regionN rfl (Opl.one (v := .lit (.int .i64 x7_1)) rfl rfl rfl (Opl.add (k := .i64) (a := x7_1) (b := 1) K3 rfl rfl rfl rfl (Opl.one (v := .lit (.int .i64 (wrap64 (x7_1 + 1)))) rfl rfl rfl (Opl.nil ?_)))))))
    exact ih2 _ (by omega) _ _ ⟨by omega, _, _, H, ⟨rfl, rfl, rfl, rfl, trivial⟩, h4⟩
 ·
  refine Evr.regionN rfl (Opl.p1 (n := ?_))
  obtain ⟨t350, h_t350, H⟩ := Option.bind_eq_some_iff.1 H
  refine Opl.callc (spec_l1In.ev h_t350) rfl rfl rfl rfl ⟨(.lit _), (.lit _), (.lit _), trivial⟩ (by decide) (Opl.p1 (n := Opl.p1 (n := ?_)))
  by_cases c13 : t350 = true
  case neg =>
   rw [if_neg c13] at H
   have e20 : (!t350) = true := by simpa using c13
   try rw [e20]
   refine Opl.skp rfl (Opl.skp rfl (Opl.skp rfl (Opl.p1 (n := Opl.p1 (n := Opl.skp rfl (Opl.skp rfl (Opl.skp rfl (Opl.skp rfl (Opl.skp rfl (Opl.p1 (n := Opl.p1 (n := Opl.skp rfl (Opl.skp rfl (Opl.skp rfl (Opl.skp rfl (Opl.skp rfl (Opl.skp rfl (Opl.p1 (n := Opl.p1 (n := Opl.skp rfl (Opl.skp rfl (Opl.skp rfl (Opl.skp rfl (Opl.skp rfl (Opl.p1 (n := Opl.nil ?_))))))))))))))))))))))))))
   exact hk1 _ _ ⟨_, _, _, H, ⟨rfl, rfl, (by first | rfl | (show PV.lit (.bool _) = _; congr 2; simp_all)), trivial⟩, h1⟩
  rw [if_pos c13] at H
  have e13 : (!t350) = false := by simpa using c13
  try rw [e13]
  refine Opl.p1 (n := ?_)
  obtain ⟨t351, h_t351, H⟩ := Option.bind_eq_some_iff.1 H
  refine Opl.callc (spec_l1In.ev h_t351) rfl rfl rfl rfl ⟨(.lit _), (.lit _), (.lit _), trivial⟩ (by decide) (Opl.p1 (n := Opl.p1 (n := Opl.p1 (n := ?_))))
  by_cases c14 : t351 = true
  case neg =>
   rw [if_neg c14] at H
   have e19 : (!t351) = true := by simpa using c14
   try rw [e19]
   refine Opl.skp rfl (Opl.skp rfl (Opl.skp rfl (Opl.skp rfl (Opl.skp rfl (Opl.p1 (n := Opl.p1 (n := Opl.skp rfl (Opl.skp rfl (Opl.skp rfl (Opl.skp rfl (Opl.skp rfl (Opl.skp rfl (Opl.p1 (n := Opl.p1 (n := Opl.skp rfl (Opl.skp rfl (Opl.skp rfl (Opl.skp rfl (Opl.skp rfl (Opl.p1 (n := Opl.nil ?_)))))))))))))))))))))
   exact hk1 _ _ ⟨_, _, _, H, ⟨rfl, rfl, (by first | rfl | (show PV.lit (.bool _) = _; congr 2; simp_all)), trivial⟩, h1⟩
  rw [if_pos c14] at H
  have e14 : (!t351) = false := by simpa using c14
  try rw [e14]
  refine Opl.p1 (v := .ptr i1 2) (n := Opl.ldb (v := v0_2) h1 rfl T23 rfl rfl rfl rfl (Opl.len (xs := l0_2) (by exact hv0_2) K23 rfl rfl rfl rfl (Opl.p1 (n := Opl.p1 (n := Opl.p1 (n := Opl.p1 (n := ?_)))))))
  by_cases c15 : (l0_2.length : Int) = (l0_0.length : Int)
  case neg =>
   rw [if_neg c15] at H
   have e18 : ((l0_2.length : Int) != (l0_0.length : Int)) = true := by simpa using c15
   try rw [e18]
   refine Opl.skp rfl (Opl.skp rfl (Opl.skp rfl (Opl.skp rfl (Opl.skp rfl (Opl.skp rfl (Opl.p1 (n := Opl.p1 (n := Opl.skp rfl (Opl.skp rfl (Opl.skp rfl (Opl.skp rfl (Opl.skp rfl (Opl.p1 (n := Opl.nil ?_))))))))))))))
   exact hk1 _ _ ⟨_, _, _, H, ⟨rfl, rfl, (by first | rfl | (show PV.lit (.bool _) = _; congr 2; simp_all)), trivial⟩, h1⟩
  rw [if_pos c15] at H
  have e15 : ((l0_2.length : Int) != (l0_0.length : Int)) = false := by simpa using c15
  try rw [e15]
  refine Opl.p1 (v := .ptr i1 1) (n := Opl.ldb (v := .lit (.int .i64 a0_1)) h1 rfl T3 rfl rfl rfl rfl (Opl.p1 (n := Opl.subi (k := .i64) (a := (l0_0.length : Int)) (b := 1) K3 rfl rfl rfl rfl ?_)))
  obtain ⟨t352, h_t352, H⟩ := Option.bind_eq_some_iff.1 H
  refine Opl.callc (spec_l1In.ev h_t352) rfl rfl rfl rfl ⟨(.lit _), (.lit _), (.lit _), trivial⟩ (by decide) (Opl.p1 (n := Opl.one (v := .lit (.bool (!t352))) rfl rfl rfl (Opl.one (v := .lit (.bool (!t352))) rfl rfl rfl ?_)))
  by_cases c16 : t352 = true
  case neg =>
   rw [if_neg c16] at H
   have e17 : (!t352) = true := by simpa using c16
   try rw [e17]
   refine Opl.skp rfl (Opl.skp rfl (Opl.skp rfl (Opl.skp rfl (Opl.skp rfl (Opl.one (v := .lit (.bool true)) rfl rfl rfl (Opl.nil ?_))))))
   exact hk1 _ _ ⟨_, _, _, H, ⟨rfl, rfl, (by first | rfl | (show PV.lit (.bool _) = _; congr 2; simp_all)), trivial⟩, h1⟩
  rw [if_pos c16] at H
  have e16 : (!t352) = false := by simpa using c16
  try rw [e16]
  refine Opl.p1 (v := .ptr i1 0) (n := Opl.ldb (v := v0_0) h1 rfl T23 rfl rfl rfl rfl (Opl.one (v := .lit (.int .i64 a1)) rfl rfl rfl ?_))
  obtain ⟨t353, h_t353, H⟩ := Option.bind_eq_some_iff.1 H
  refine Opl.callc (spec_l20Letters.ev hv0_0 h_t353) rfl rfl rfl rfl ⟨hv0_0.plain, (.lit _), trivial⟩ (by decide) (Opl.p1 (n := Opl.one (v := .lit (.bool (!t353))) rfl rfl rfl (Opl.nil ?_)))
  exact hk1 _ _ ⟨_, _, _, H, ⟨rfl, rfl, (by first | rfl | (show PV.lit (.bool _) = _; congr 2; simp_all)), trivial⟩, h1⟩
theorem spec_l24One.ev {a0 : Int} {r : Bool} (H : spec_l24One.f a0 = some r) : Ret Try.prog 118 [.lit (.int .i64 a0)] fun v S => v = .lit (.bool r) := by
 unfold spec_l24One.f at H
 refine Ret.intro Try.func118 rfl (Nat.le_of_ble_eq_true rfl) rfl ?_
 rw [tm1]
 refine Evr.sr rfl (Opl.p1 (n := Opl.nil (Evr.sr rfl (Opl.p1 (n := Opl.p1 (n := Opl.p1 (n := ?_)))))))
 by_cases c1 : a0 = 2
 case pos =>
  rw [if_pos c1] at H
  have e1 : (a0 == 2) = true := by simpa using c1
  try rw [e1]
  refine Opl.skp rfl (Opl.skp rfl (Opl.p1 (n := Opl.p1 (n := Opl.skp rfl (Opl.skp rfl (Opl.p1 (n := Opl.p1 (n := Opl.skp rfl (Opl.skp rfl (Opl.p1 (n := Opl.p1 (n := Opl.skp rfl (Opl.skp rfl (Opl.p1 (n := Opl.p1 (n := Opl.nil ?_))))))))))))))))
  obtain rfl := Option.some.inj H
  refine Evr.ret1 Try.func118 rfl ?_
  show (.lit (.bool true) : PV) = _
  first | rfl | (simp only [go_sem]; rfl)
 rw [if_neg c1] at H
 have e2 : (a0 == 2) = false := by simpa using c1
 try rw [e2]
 refine Opl.p1 (n := Opl.p1 (n := Opl.p1 (n := Opl.p1 (n := ?_))))
 by_cases c2 : a0 = 5
 case pos =>
  rw [if_pos c2] at H
  have e3 : (a0 == 5) = true := by simpa using c2
  try rw [e3]
  refine Opl.skp rfl (Opl.skp rfl (Opl.p1 (n := Opl.p1 (n := Opl.skp rfl (Opl.skp rfl (Opl.p1 (n := Opl.p1 (n := Opl.skp rfl (Opl.skp rfl (Opl.p1 (n := Opl.p1 (n := Opl.nil ?_))))))))))))
  obtain rfl := Option.some.inj H
  refine Evr.ret1 Try.func118 rfl ?_
  show (.lit (.bool true) : PV) = _
  first | rfl | (simp only [go_sem]; rfl)
 rw [if_neg c2] at H
 have e4 : (a0 == 5) = false := by simpa using c2
 try rw [e4]
 refine Opl.p1 (n := Opl.p1 (n := Opl.p1 (n := Opl.p1 (n := ?_))))
 by_cases c3 : a0 = 7
 case pos =>
  rw [if_pos c3] at H
  have e5 : (a0 == 7) = true := by simpa using c3
  try rw [e5]
  refine Opl.skp rfl (Opl.skp rfl (Opl.p1 (n := Opl.p1 (n := Opl.skp rfl (Opl.skp rfl (Opl.p1 (n := Opl.p1 (n := Opl.nil ?_))))))))
  obtain rfl := Option.some.inj H
  refine Evr.ret1 Try.func118 rfl ?_
  show (.lit (.bool true) : PV) = _
  first | rfl | (simp only [go_sem]; rfl)
 rw [if_neg c3] at H
 have e6 : (a0 == 7) = false := by simpa using c3
 try rw [e6]
 refine Opl.p1 (n := Opl.p1 (n := Opl.p1 (n := Opl.p1 (n := ?_))))
 by_cases c4 : a0 = 8
 case pos =>
  rw [if_pos c4] at H
  have e7 : (a0 == 8) = true := by simpa using c4
  try rw [e7]
  refine Opl.skp rfl (Opl.skp rfl (Opl.p1 (n := Opl.p1 (n := Opl.nil ?_))))
  obtain rfl := Option.some.inj H
  refine Evr.ret1 Try.func118 rfl ?_
  show (.lit (.bool true) : PV) = _
  first | rfl | (simp only [go_sem]; rfl)
 rw [if_neg c4] at H
 have e8 : (a0 == 8) = false := by simpa using c4
 try rw [e8]
 refine Opl.p1 (n := Opl.p1 (n := Opl.p1 (n := Opl.p1 (n := Opl.nil ?_))))
 obtain rfl := Option.some.inj H
 refine Evr.ret1 Try.func118 rfl ?_
 show (.lit (.bool (a0 == 10)) : PV) = _
 first | rfl | (simp only [go_sem]; rfl)
theorem spec_l24Step.ev {k : Nat} {a0_0 : Int} {a0_1 : Int} {a0_2 : Int} {a0_3 : Int} {a1 : Int} {a2 : Int} {r : Bool} (H : spec_l24Step.f k a0_0 a0_1 a0_2 a0_3 a1 a2 = some r) : Ret Try.prog 84 [.agg [.lit (.int .i64 a0_0), .lit (.int .i64 a0_1), .lit (.int .i64 a0_2), .lit (.int .i64 a0_3)], .lit (.int .i64 a1), .lit (.int .i64 a2)] fun v S => v = .lit (.bool r) := by
 unfold spec_l24Step.f at H
 refine Ret.intro Try.func84 rfl (Nat.le_of_ble_eq_true rfl) rfl ?_
 rw [tm3]
 refine Evr.sr rfl (Opl.box (cs := [.lit (.int .i64 a0_0), .lit (.int .i64 a0_1), .lit (.int .i64 a0_2), .lit (.int .i64 a0_3)]) rfl rfl rfl rfl ?_)
 rintro i1 S h1 u1 w1
 refine Opl.p1 (n := Opl.nil (Evr.seq (Evr.sr rfl (Opl.p1 (v := .ptr i1 0) (n := Opl.ldb (v := .lit (.int .i64 a0_0)) h1 rfl T3 rfl rfl rfl rfl (Opl.p1 (n := Opl.nil ?_)))))))
 by_cases c1 : a0_0 = 0
 case pos =>
  rw [if_pos c1] at H
  have e1 : (a0_0 == 0) = true := by simpa using c1
  try rw [e1]
  refine Evr.condT rfl (Evr.sr rfl (Opl.p1 (v := .ptr i1 1) (n := Opl.ldb (v := .lit (.int .i64 a0_1)) h1 rfl T3 rfl rfl rfl rfl (Opl.p1 (n := Opl.p1 (n := ?_))))))
  by_cases c2 : a0_1 = 0
  case neg =>
   rw [if_neg c2] at H
   have e5 : (a0_1 == 0) = false := by simpa using c2
   try rw [e5]
   refine Opl.skp rfl (Opl.skp rfl (Opl.skp rfl (Opl.p1 (n := Opl.p1 (n := Opl.skp rfl (Opl.skp rfl (Opl.skp rfl (Opl.p1 (n := Opl.p1 (n := Opl.nil ?_))))))))))
   obtain rfl := Option.some.inj H
   refine Evr.ret1 Try.func84 rfl ?_
   show (.lit (.bool false) : PV) = _
   first | rfl | (simp only [go_sem]; rfl)
  rw [if_pos c2] at H
  have e2 : (a0_1 == 0) = true := by simpa using c2
  try rw [e2]
  refine Opl.p1 (v := .ptr i1 2) (n := Opl.ldb (v := .lit (.int .i64 a0_2)) h1 rfl T3 rfl rfl rfl rfl (Opl.p1 (n := Opl.p1 (n := Opl.p1 (n := ?_)))))
  by_cases c3 : a0_2 = 0
  case neg =>
   rw [if_neg c3] at H
   have e4 : (a0_2 == 0) = false := by simpa using c3
   try rw [e4]
   refine Opl.skp rfl (Opl.skp rfl (Opl.skp rfl (Opl.p1 (n := Opl.p1 (n := Opl.nil ?_)))))
   obtain rfl := Option.some.inj H
   refine Evr.ret1 Try.func84 rfl ?_
   show (.lit (.bool false) : PV) = _
   first | rfl | (simp only [go_sem]; rfl)
  rw [if_pos c3] at H
  have e3 : (a0_2 == 0) = true := by simpa using c3
  try rw [e3]
  refine Opl.p1 (v := .ptr i1 3) (n := Opl.ldb (v := .lit (.int .i64 a0_3)) h1 rfl T3 rfl rfl rfl rfl (Opl.p1 (n := Opl.p1 (n := Opl.p1 (n := Opl.nil ?_)))))
  obtain rfl := Option.some.inj H
  refine Evr.ret1 Try.func84 rfl ?_
  show (.lit (.bool (a0_3 == 0)) : PV) = _
  first | rfl | (simp only [go_sem]; rfl)
 rw [if_neg c1] at H
 have e6 : (a0_0 == 0) = false := by simpa using c1
 try rw [e6]
 refine Evr.condF rfl (Evr.skip (Evr.seq (Evr.sr rfl (Opl.p1 (v := .ptr i1 0) (n := Opl.ldb (v := .lit (.int .i64 a0_0)) h1 rfl T3 rfl rfl rfl rfl (Opl.p1 (n := Opl.nil ?_)))))))
 by_cases c4 : a0_0 = 1
 case pos =>
  rw [if_pos c4] at H
  have e7 : (a0_0 == 1) = true := by simpa using c4
  try rw [e7]
  refine Evr.condT rfl (Evr.sr rfl (Opl.p1 (v := .ptr i1 1) (n := Opl.ldb (v := .lit (.int .i64 a0_1)) h1 rfl T3 rfl rfl rfl rfl (Opl.p1 (n := Opl.subi (k := .i64) (a := a2) (b := 1) K3 rfl rfl rfl rfl ?_)))))
  obtain ⟨t364, h_t364, H⟩ := Option.bind_eq_some_iff.1 H
  refine Opl.callc (spec_l1In.ev h_t364) rfl rfl rfl rfl ⟨(.lit _), (.lit _), (.lit _), trivial⟩ (by decide) (Opl.one (v := .lit (.bool t364)) rfl rfl rfl ?_)
  by_cases c5 : t364 = true
  case neg =>
   rw [if_neg c5] at H
   obtain rfl : t364 = false := by simpa using c5
   refine Opl.skp rfl (Opl.skp rfl (Opl.skp rfl (Opl.one (v := .lit (.bool false)) rfl rfl rfl (Opl.one (v := .lit (.bool false)) rfl rfl rfl (Opl.skp rfl (Opl.skp rfl (Opl.skp rfl (Opl.one (v := .lit (.bool false)) rfl rfl rfl (Opl.one (v := .lit (.bool false)) rfl rfl rfl (Opl.nil ?_))))))))))
   obtain rfl := Option.some.inj H
   refine Evr.ret1 Try.func84 rfl ?_
   show (.lit (.bool false) : PV) = _
   first | rfl | (simp only [go_sem]; rfl)
  rw [if_pos c5] at H
  obtain rfl : t364 = true := by simpa using c5
  refine Opl.p1 (v := .ptr i1 2) (n := Opl.ldb (v := .lit (.int .i64 a0_2)) h1 rfl T3 rfl rfl rfl rfl (Opl.p1 (n := Opl.one (v := .lit (.bool (a0_2 == 0))) rfl rfl rfl (Opl.one (v := .lit (.bool (a0_2 == 0))) rfl rfl rfl ?_))))
  by_cases c6 : a0_2 = 0
  case neg =>
   rw [if_neg c6] at H
   have e9 : (a0_2 == 0) = false := by simpa using c6
   try rw [e9]
   refine Opl.skp rfl (Opl.skp rfl (Opl.skp rfl (Opl.one (v := .lit (.bool false)) rfl rfl rfl (Opl.one (v := .lit (.bool false)) rfl rfl rfl (Opl.nil ?_)))))
   obtain rfl := Option.some.inj H
   refine Evr.ret1 Try.func84 rfl ?_
   show (.lit (.bool false) : PV) = _
   first | rfl | (simp only [go_sem]; rfl)
  rw [if_pos c6] at H
  have e8 : (a0_2 == 0) = true := by simpa using c6
  try rw [e8]
  refine Opl.p1 (v := .ptr i1 3) (n := Opl.ldb (v := .lit (.int .i64 a0_3)) h1 rfl T3 rfl rfl rfl rfl (Opl.p1 (n := Opl.one (v := .lit (.bool (a0_3 == 0))) rfl rfl rfl (Opl.one (v := .lit (.bool (a0_3 == 0))) rfl rfl rfl (Opl.nil ?_)))))
  obtain rfl := Option.some.inj H
  refine Evr.ret1 Try.func84 rfl ?_
  show (.lit (.bool (a0_3 == 0)) : PV) = _
  first | rfl | (simp only [go_sem]; rfl)
 rw [if_neg c4] at H
 have e10 : (a0_0 == 1) = false := by simpa using c4
 try rw [e10]
 refine Evr.condF rfl (Evr.skip (Evr.seq (Evr.seq ?_)))
 refine Evr.join (fun tm S => ∃ (kq1 : Nat) (x65_1 : Bool) (i2 : Abs.Id), spec_l24Step.j0 kq1 x65_1 a0_0 a0_1 a0_2 a0_3 = some r ∧ Has tm [(3, .ptr i2 0), (65, .lit (.bool x65_1))] ∧ Box (.ptr i2 0) [.lit (.int .i64 a0_0), .lit (.int .i64 a0_1), .lit (.int .i64 a0_2), .lit (.int .i64 a0_3)] S) ?_ fun hk1 => ?_
 ·
  rintro tm S ⟨kq1, x65_1, i2, H, hh, h2⟩
  rw [hh.eq]
  obtain _ | k1 := kq1
  · simp [spec_l24Step.j0] at H
  simp only [spec_l24Step.j0] at H
  by_cases c7 : x65_1 = true
  case pos =>
   rw [if_pos c7] at H
   obtain rfl : x65_1 = true := by simpa using c7
   refine Evr.condT rfl (Evr.sr rfl (Opl.p1 (n := Opl.nil ?_)))
   obtain rfl := Option.some.inj H
   refine Evr.ret1 Try.func84 rfl ?_
   show (.lit (.bool false) : PV) = _
   first | rfl | (simp only [go_sem]; rfl)
  rw [if_neg c7] at H
  obtain rfl : x65_1 = false := by simpa using c7
  refine Evr.condF rfl (Evr.skip (Evr.sr rfl (Opl.p1 (v := .ptr i2 0) (n := Opl.ldb (v := .lit (.int .i64 a0_0)) h2 rfl T3 rfl rfl rfl rfl ?_))))
  obtain ⟨t368, h_t368, H⟩ := Option.bind_eq_some_iff.1 H
  refine Opl.callc (spec_l24One.ev h_t368) rfl rfl rfl rfl ⟨(.lit _), trivial⟩ (by decide) (Opl.p1 (n := Opl.p1 (n := ?_)))
  by_cases c8 : t368 = true
  case neg =>
   rw [if_neg c8] at H
   have e12 : (!t368) = true := by simpa using c8
   try rw [e12]
   refine Opl.skp rfl (Opl.skp rfl (Opl.skp rfl (Opl.skp rfl (Opl.skp rfl (Opl.p1 (n := Opl.p1 (n := Opl.nil ?_)))))))
   obtain rfl := Option.some.inj H
   refine Evr.ret1 Try.func84 rfl ?_
   show (.lit (.bool true) : PV) = _
   first | rfl | (simp only [go_sem]; rfl)
  rw [if_pos c8] at H
  have e11 : (!t368) = false := by simpa using c8
  try rw [e11]
  refine Opl.p1 (v := .ptr i2 3) (n := Opl.ldb (v := .lit (.int .i64 a0_3)) h2 rfl T3 rfl rfl rfl rfl (Opl.p1 (v := .ptr i2 2) (n := Opl.ldb (v := .lit (.int .i64 a0_2)) h2 rfl T3 rfl rfl rfl rfl (Opl.p1 (n := Opl.p1 (n := Opl.p1 (n := Opl.nil ?_)))))))
  obtain rfl := Option.some.inj H
  refine Evr.ret1 Try.func84 rfl ?_
  show (.lit (.bool (a0_3 == a0_2)) : PV) = _
  first | rfl | (simp only [go_sem]; rfl)
 ·
  refine Evr.regionN rfl (Opl.p1 (v := .ptr i1 0) (n := Opl.ldb (v := .lit (.int .i64 a0_0)) h1 rfl T3 rfl rfl rfl rfl ?_))
  obtain ⟨t365, h_t365, H⟩ := Option.bind_eq_some_iff.1 H
  refine Opl.callc (spec_l1In.ev h_t365) rfl rfl rfl rfl ⟨(.lit _), (.lit _), (.lit _), trivial⟩ (by decide) (Opl.p1 (n := Opl.p1 (n := ?_)))
  by_cases c9 : t365 = true
  case neg =>
   rw [if_neg c9] at H
   have e18 : (!t365) = true := by simpa using c9
   try rw [e18]
   refine Opl.skp rfl (Opl.skp rfl (Opl.skp rfl (Opl.p1 (n := Opl.p1 (n := Opl.skp rfl (Opl.skp rfl (Opl.skp rfl (Opl.skp rfl (Opl.skp rfl (Opl.skp rfl (Opl.p1 (n := Opl.p1 (n := Opl.skp rfl (Opl.skp rfl (Opl.skp rfl (Opl.skp rfl (Opl.skp rfl (Opl.skp rfl (Opl.p1 (n := Opl.nil ?_))))))))))))))))))))
   exact hk1 _ _ ⟨_, _, _, H, ⟨rfl, (by first | rfl | (show PV.lit (.bool _) = _; congr 2; simp_all)), trivial⟩, h1⟩
  rw [if_pos c9] at H
  have e13 : (!t365) = false := by simpa using c9
  try rw [e13]
  refine Opl.p1 (v := .ptr i1 1) (n := Opl.ldb (v := .lit (.int .i64 a0_1)) h1 rfl T3 rfl rfl rfl rfl (Opl.p1 (n := Opl.p1 (n := Opl.p1 (n := ?_)))))
  by_cases c10 : a0_1 = 0
  case neg =>
   rw [if_neg c10] at H
   have e17 : (a0_1 != 0) = true := by simpa using c10
   try rw [e17]
   refine Opl.skp rfl (Opl.skp rfl (Opl.skp rfl (Opl.skp rfl (Opl.skp rfl (Opl.skp rfl (Opl.p1 (n := Opl.p1 (n := Opl.skp rfl (Opl.skp rfl (Opl.skp rfl (Opl.skp rfl (Opl.skp rfl (Opl.skp rfl (Opl.p1 (n := Opl.nil ?_)))))))))))))))
   exact hk1 _ _ ⟨_, _, _, H, ⟨rfl, (by first | rfl | (show PV.lit (.bool _) = _; congr 2; simp_all)), trivial⟩, h1⟩
  rw [if_pos c10] at H
  have e14 : (a0_1 != 0) = false := by simpa using c10
  try rw [e14]
  refine Opl.p1 (v := .ptr i1 2) (n := Opl.ldb (v := .lit (.int .i64 a0_2)) h1 rfl T3 rfl rfl rfl rfl (Opl.p1 (n := Opl.subi (k := .i64) (a := a1) (b := 1) K3 rfl rfl rfl rfl ?_)))
  obtain ⟨t366, h_t366, H⟩ := Option.bind_eq_some_iff.1 H
  refine Opl.callc (spec_l1In.ev h_t366) rfl rfl rfl rfl ⟨(.lit _), (.lit _), (.lit _), trivial⟩ (by decide) (Opl.p1 (n := Opl.one (v := .lit (.bool (!t366))) rfl rfl rfl (Opl.one (v := .lit (.bool (!t366))) rfl rfl rfl ?_)))
  by_cases c11 : t366 = true
  case neg =>
   rw [if_neg c11] at H
   have e16 : (!t366) = true := by simpa using c11
   try rw [e16]
   refine Opl.skp rfl (Opl.skp rfl (Opl.skp rfl (Opl.skp rfl (Opl.skp rfl (Opl.skp rfl (Opl.one (v := .lit (.bool true)) rfl rfl rfl (Opl.nil ?_)))))))
   exact hk1 _ _ ⟨_, _, _, H, ⟨rfl, (by first | rfl | (show PV.lit (.bool _) = _; congr 2; simp_all)), trivial⟩, h1⟩
  rw [if_pos c11] at H
  have e15 : (!t366) = false := by simpa using c11
  try rw [e15]
  refine Opl.p1 (v := .ptr i1 3) (n := Opl.ldb (v := .lit (.int .i64 a0_3)) h1 rfl T3 rfl rfl rfl rfl (Opl.one (v := .lit (.int .i64 a1)) rfl rfl rfl (Opl.subi (k := .i64) (a := a1) (b := 1) K3 rfl rfl rfl rfl ?_)))
  obtain ⟨t367, h_t367, H⟩ := Option.bind_eq_some_iff.1 H
  refine Opl.callc (spec_l1In.ev h_t367) rfl rfl rfl rfl ⟨(.lit _), (.lit _), (.lit _), trivial⟩ (by decide) (Opl.p1 (n := Opl.one (v := .lit (.bool (!t367))) rfl rfl rfl (Opl.nil ?_)))
  exact hk1 _ _ ⟨_, _, _, H, ⟨rfl, (by first | rfl | (show PV.lit (.bool _) = _; congr 2; simp_all)), trivial⟩, h1⟩
theorem spec_TreesValid.ev {k : Nat} {l0 : List ITree} {v0 : PV} (hv0 : Sl cITree l0 v0) {a1 : Int} {r : Bool} (H : spec_TreesValid.f k l0 a1 = some r) : Ret Try.prog 53 [v0, .lit (.int .i64 a1)] fun v S => v = .lit (.bool r) := by
 unfold spec_TreesValid.f at H
 refine Ret.intro Try.func53 rfl (Nat.le_of_ble_eq_true rfl) rfl ?_
 rw [tm2]
 refine Evr.sr rfl (Opl.p1 (n := Opl.nil (Evr.seq (Evr.seq ?_))))
 refine Evr.join (fun tm S => ∃ (kq1 : Nat) (x14_1 : Bool), spec_TreesValid.j0 kq1 l0 a1 x14_1 = some r ∧ Has tm [(0, v0), (1, .lit (.int .i64 a1)), (14, .lit (.bool x14_1))]) ?_ fun hk1 => ?_
 ·
  rintro tm S ⟨kq1, x14_1, H, hh⟩
  rw [hh.eq]
  obtain _ | k1 := kq1
  · simp [spec_TreesValid.j0] at H
  simp only [spec_TreesValid.j0] at H
  by_cases c1 : x14_1 = true
  case pos =>
   rw [if_pos c1] at H
   obtain rfl : x14_1 = true := by simpa using c1
   refine Evr.condT rfl (Evr.sr rfl (Opl.p1 (n := Opl.nil ?_)))
   obtain rfl := Option.some.inj H
   refine Evr.ret1 Try.func53 rfl ?_
   show (.lit (.bool false) : PV) = _
   first | rfl | (simp only [go_sem]; rfl)
  rw [if_neg c1] at H
  obtain rfl : x14_1 = false := by simpa using c1
  refine Evr.condF rfl (Evr.skip (Evr.seq (Evr.sr rfl (Opl.p1 (n := Opl.nil (Evr.block ?_))))))
  refine Evr.loop (Evr.rounds (n := k1) (Inv := fun n tm S => n ≤ k1 ∧ ∃ (x5_1 : Int), spec_TreesValid.l0 n l0 a1 x5_1 = some r ∧ Has tm [(0, v0), (1, .lit (.int .i64 a1)), (5, .lit (.int .i64 x5_1))]) ?_ ?_ ?_)
  · exact ⟨Nat.le_refl _, _, H, ⟨rfl, rfl, rfl, trivial⟩⟩
  ·
   rintro tm S ⟨_, _, H, -⟩
   simp [spec_TreesValid.l0] at H
  ·
   rintro n1 ih1 tm S ⟨hle, x5_1, H, hh⟩
   simp only [spec_TreesValid.l0] at H
   rw [hh.eq]
   refine Evr.seq (Evr.sr rfl (Opl.p1 (n := Opl.p1 (n := Opl.len (xs := l0) (by exact hv0) K45 rfl rfl rfl rfl (Opl.p1 (n := Opl.nil ?_))))))
   by_cases c2 : x5_1 < (l0.length : Int)
   case neg =>
    rw [if_neg c2] at H
    have e4 : (decide (x5_1 < (l0.length : Int))) = false := by simpa using c2
    try rw [e4]
    refine Evr.condF rfl (Evr.exit rfl (Evr.sr rfl (Opl.p1 (n := Opl.nil ?_))))
    obtain rfl := Option.some.inj H
    refine Evr.ret1 Try.func53 rfl ?_
    show (.lit (.bool true) : PV) = _
    first | rfl | (simp only [go_sem]; rfl)
   rw [if_pos c2] at H
   have e1 : (decide (x5_1 < (l0.length : Int))) = true := by simpa using c2
   try rw [e1]
   refine Evr.condT rfl (Evr.skip (Evr.seq (Evr.block (Evr.sr rfl (Opl.p1 (n := Opl.p1 (n := ?_)))))))
   obtain ⟨c3, H⟩ := peel H
   refine Opl.idx (M := cITree) (xs := l0) (j := x5_1) zITree (by exact hv0) rfl (by omega) (by omega) K45 Z80 rfl rfl ?_
   rintro p1 q1 h1
   obtain rfl := cITree_R (x := (rd_ITree l0 x5_1)) h1
   refine Opl.lda (.agg [.lit (.int .i64 ((rd_ITree l0 x5_1).f0)), .lit (.int .i64 ((rd_ITree l0 x5_1).f1)), .lit (.int .i64 ((rd_ITree l0 x5_1).f2)), .lit (.int .i64 ((rd_ITree l0 x5_1).f3))]) rfl T80 rfl rfl rfl rfl (Opl.p1 (n := Opl.p1 (n := ?_)))
   obtain ⟨t372, h_t372, H⟩ := Option.bind_eq_some_iff.1 H
   refine Opl.callc (spec_l24Step.ev h_t372) rfl rfl rfl rfl ⟨(.aggL ⟨(.lit _), (.lit _), (.lit _), (.lit _), trivial⟩), (.lit _), (.lit _), trivial⟩ (by decide) (Opl.p1 (n := Opl.nil ?_))
   by_cases c4 : t372 = true
   case neg =>
    rw [if_neg c4] at H
    have e3 : (!t372) = true := by simpa using c4
    try rw [e3]
    refine Evr.condT rfl (Evr.sr rfl (Opl.p1 (n := Opl.nil ?_)))
    obtain rfl := Option.some.inj H
    refine Evr.ret1 Try.func53 rfl ?_
    show (.lit (.bool false) : PV) = _
    first | rfl | (simp only [go_sem]; rfl)
   rw [if_pos c4] at H
   have e2 : (!t372) = false := by simpa using c4
   try rw [e2]
   refine Evr.condF rfl (Evr.skip (Evr.inBlock (Evr.regionN rfl (Opl.p1 (n := Opl.add (k := .i64) (a := x5_1) (b := 1) K3 rfl rfl rfl rfl (Opl.one (v := .lit (.int .i64 (wrap64 (x5_1 + 1)))) rfl rfl rfl (Opl.nil ?_)))))))
   exact ih1 _ (by omega) _ _ ⟨by omega, _, H, ⟨rfl, rfl, rfl, trivial⟩⟩
 ·
  refine Evr.regionN rfl (Opl.p1 (n := ?_))
  obtain ⟨t369, h_t369, H⟩ := Option.bind_eq_some_iff.1 H
  refine Opl.callc (spec_l1In.ev h_t369) rfl rfl rfl rfl ⟨(.lit _), (.lit _), (.lit _), trivial⟩ (by decide) (Opl.p1 (n := Opl.p1 (n := ?_)))
  by_cases c5 : t369 = true
  case neg =>
   rw [if_neg c5] at H
   have e6 : (!t369) = true := by simpa using c5
   try rw [e6]
   refine Opl.skp rfl (Opl.skp rfl (Opl.skp rfl (Opl.skp rfl (Opl.p1 (n := Opl.nil ?_)))))
   exact hk1 _ _ ⟨_, _, H, ⟨rfl, rfl, (by first | rfl | (show PV.lit (.bool _) = _; congr 2; simp_all)), trivial⟩⟩
  rw [if_pos c5] at H
  have e5 : (!t369) = false := by simpa using c5
  try rw [e5]
  refine Opl.p1 (n := Opl.len (xs := l0) (by exact hv0) K45 rfl rfl rfl rfl ?_)
  obtain ⟨t370, h_t370, H⟩ := Option.bind_eq_some_iff.1 H
  refine Opl.callc (spec_l1In.ev h_t370) rfl rfl rfl rfl ⟨(.lit _), (.lit _), (.lit _), trivial⟩ (by decide) (Opl.p1 (n := Opl.p1 (n := Opl.nil ?_)))
  exact hk1 _ _ ⟨_, _, H, ⟨rfl, rfl, (by first | rfl | (show PV.lit (.bool _) = _; congr 2; simp_all)), trivial⟩⟩
theorem spec_l24Both.ev {k : Nat} {l0 : List Bool} {v0 : PV} (hv0 : Sl cBool l0 v0) {l1 : List Bool} {v1 : PV} (hv1 : Sl cBool l1 v1) {r : (List Bool)} (H : spec_l24Both.f k l0 l1 = some r) : Ret Try.prog 86 [v0, v1] fun v S => Vec cBool r v S := by
 unfold spec_l24Both.f at H
 refine Ret.intro Try.func86 rfl (Nat.le_of_ble_eq_true rfl) rfl ?_
 rw [tm2]
 refine Evr.sr rfl (Opl.p1 (n := Opl.nil (Evr.sr rfl (Opl.p1 (n := Opl.len (xs := l0) (by exact hv0) K78 rfl rfl rfl rfl ?_)))))
 obtain ⟨c1, H⟩ := peel H
 obtain ⟨c2, H⟩ := peel H
 refine Opl.make (M := cBool) (m := (l0.length : Int)) false (by exact rfl) rfl rfl K78 T4 rfl (by omega) (by show ((l0.length : Int)).toNat * 1 ≤ 281474976710656; omega) (by omega) rfl rfl rfl ?_
 rintro pv1 S h1 u1 w1
 refine Opl.p1 (n := Opl.nil (Evr.seq (Evr.sr rfl (Opl.p1 (n := Opl.nil (Evr.block ?_))))))
 refine Evr.loop (Evr.rounds (n := k) (Inv := fun n tm S => n ≤ k ∧ ∃ (x5_1 : List Bool) (x6_1 : Int) (pv2 : PV), spec_l24Both.l0 n l0 l1 x5_1 x6_1 = some r ∧ Has tm [(0, v0), (1, v1), (5, pv2), (6, .lit (.int .i64 x6_1))] ∧ Vec cBool x5_1 pv2 S) ?_ ?_ ?_)
 · exact ⟨Nat.le_refl _, _, _, _, H, ⟨rfl, rfl, rfl, rfl, trivial⟩, h1⟩
 ·
  rintro tm S ⟨_, _, _, _, H, -⟩
  simp [spec_l24Both.l0] at H
 ·
  rintro n1 ih1 tm S ⟨hle, x5_1, x6_1, pv2, H, hh, h2⟩
  simp only [spec_l24Both.l0] at H
  rw [hh.eq]
  refine Evr.seq (Evr.sr rfl (Opl.p1 (n := Opl.p1 (n := Opl.len (xs := l0) (by exact hv0) K78 rfl rfl rfl rfl (Opl.p1 (n := Opl.nil ?_))))))
  by_cases c3 : x6_1 < (l0.length : Int)
  case neg =>
   rw [if_neg c3] at H
   have e4 : (decide (x6_1 < (l0.length : Int))) = false := by simpa using c3
   try rw [e4]
   refine Evr.condF rfl (Evr.exit rfl (Evr.sr rfl (Opl.p1 (n := Opl.p1 (n := Opl.nil ?_)))))
   obtain rfl := Option.some.inj H
   refine Evr.ret1 Try.func86 rfl ?_
   show Vec _ _ pv2 _
   exact h2
  rw [if_pos c3] at H
  have e1 : (decide (x6_1 < (l0.length : Int))) = true := by simpa using c3
  try rw [e1]
  refine Evr.condT rfl (Evr.skip (Evr.seq (Evr.block ?_)))
  refine Evr.join (fun tm S => ∃ (kq1 : Nat) (x5_2 : List Bool) (pv3 : PV), spec_l24Both.l0 kq1 l0 l1 x5_2 (wrap64 (x6_1 + 1)) = some r ∧ kq1 ≤ n1 ∧ Has tm [(0, v0), (1, v1), (5, pv3), (6, .lit (.int .i64 x6_1))] ∧ Vec cBool x5_2 pv3 S) ?_ fun hk1 => ?_
  ·
   rintro tm S ⟨kq1, x5_2, pv3, H, hle, hh, h3⟩
   rw [hh.eq]
   refine Evr.inBlock (Evr.regionN rfl (Opl.p1 (n := Opl.add (k := .i64) (a := x6_1) (b := 1) K3 rfl rfl rfl rfl (Opl.one (v := .lit (.int .i64 (wrap64 (x6_1 + 1)))) rfl rfl rfl (Opl.nil ?_)))))
   exact ih1 _ (by omega) _ _ ⟨by omega, _, _, _, H, ⟨rfl, rfl, rfl, rfl, trivial⟩, h3⟩
  ·
   refine Evr.regionN rfl (Opl.p1 (n := Opl.p1 (n := Opl.p1 (n := Opl.p1 (n := ?_)))))
   obtain ⟨c4, H⟩ := peel H
   refine Opl.idx (M := cBool) (xs := l0) (j := x6_1) false (by exact hv0) rfl (by omega) (by omega) K78 Z4 rfl rfl ?_
   rintro p1 q1 h4
   obtain rfl : p1 = [.lit (.bool (rdOf false l0 x6_1))] := h4
   refine Opl.lda (.lit (.bool (rdOf false l0 x6_1))) rfl T4 rfl rfl rfl rfl (Opl.p1 (n := ?_))
   by_cases c5 : rdOf false l0 x6_1 = true
   case neg =>
    rw [if_neg c5] at H
    have e3 : (rdOf false l0 x6_1) = false := by simpa using c5
    try rw [e3]
    refine Opl.skp rfl (Opl.skp rfl (Opl.skp rfl (Opl.skp rfl (Opl.p1 (n := ?_)))))
    obtain ⟨c8, H⟩ := peel H
    refine Opl.idv (M := cBool) (xs := x5_1) (j := x6_1) (v := pv2) h2 rfl rfl (by omega) (by omega) K78 Z4 rfl rfl ?_
    rintro d2 z2 q4 h9 h10
    refine Opl.stv (M := cBool) (xs := x5_1) (j := x6_1) (y := false) (vs := [.lit (.bool false)]) h9 h10 (by omega) (by omega) rfl rfl (by exact rfl) Z4 rfl rfl rfl rfl ?_
    rw [← q4]
    rintro S h11 u3
    refine Opl.nil ?_
    exact hk1 _ _ ⟨_, _, _, H, by omega, ⟨rfl, rfl, rfl, rfl, trivial⟩, h11⟩
   rw [if_pos c5] at H
   have e2 : (rdOf false l0 x6_1) = true := by simpa using c5
   try rw [e2]
   refine Opl.p1 (n := Opl.p1 (n := ?_))
   obtain ⟨c6, H⟩ := peel H
   obtain ⟨c7, H⟩ := peel H
   refine Opl.idx (M := cBool) (xs := l1) (j := x6_1) false (by exact hv1) rfl (by omega) (by omega) K78 Z4 rfl rfl ?_
   rintro p2 q2 h5
   obtain rfl : p2 = [.lit (.bool (rdOf false l1 x6_1))] := h5
   refine Opl.lda (.lit (.bool (rdOf false l1 x6_1))) rfl T4 rfl rfl rfl rfl (Opl.p1 (n := Opl.idv (M := cBool) (xs := x5_1) (j := x6_1) (v := pv2) h2 rfl rfl (by omega) (by omega) K78 Z4 rfl rfl ?_))
   rintro d1 z1 q3 h6 h7
   refine Opl.stv (M := cBool) (xs := x5_1) (j := x6_1) (y := (rdOf false l1 x6_1)) (vs := [.lit (.bool (rdOf false l1 x6_1))]) h6 h7 (by omega) (by omega) rfl rfl (by exact rfl) Z4 rfl rfl rfl rfl ?_
   rw [← q3]
   rintro S h8 u2
   refine Opl.nil ?_
   exact hk1 _ _ ⟨_, _, _, H, by omega, ⟨rfl, rfl, rfl, rfl, trivial⟩, h8⟩
theorem spec_l24Not.ev {k : Nat} {l0 : List Bool} {v0 : PV} (hv0 : Sl cBool l0 v0) {r : (List Bool)} (H : spec_l24Not.f k l0 = some r) : Ret Try.prog 85 [v0] fun v S => Vec cBool r v S := by
 unfold spec_l24Not.f at H
 refine Ret.intro Try.func85 rfl (Nat.le_of_ble_eq_true rfl) rfl ?_
 rw [tm1]
 refine Evr.sr rfl (Opl.p1 (n := Opl.nil (Evr.sr rfl (Opl.p1 (n := Opl.len (xs := l0) (by exact hv0) K78 rfl rfl rfl rfl ?_)))))
 obtain ⟨c1, H⟩ := peel H
 obtain ⟨c2, H⟩ := peel H
 refine Opl.make (M := cBool) (m := (l0.length : Int)) false (by exact rfl) rfl rfl K78 T4 rfl (by omega) (by show ((l0.length : Int)).toNat * 1 ≤ 281474976710656; omega) (by omega) rfl rfl rfl ?_
 rintro pv1 S h1 u1 w1
 refine Opl.p1 (n := Opl.nil (Evr.seq (Evr.sr rfl (Opl.p1 (n := Opl.nil (Evr.block ?_))))))
 refine Evr.loop (Evr.rounds (n := k) (Inv := fun n tm S => n ≤ k ∧ ∃ (x3_1 : List Bool) (x4_1 : Int) (pv2 : PV), spec_l24Not.l0 n l0 x3_1 x4_1 = some r ∧ Has tm [(0, v0), (3, pv2), (4, .lit (.int .i64 x4_1))] ∧ Vec cBool x3_1 pv2 S) ?_ ?_ ?_)
 · exact ⟨Nat.le_refl _, _, _, _, H, ⟨rfl, rfl, rfl, trivial⟩, h1⟩
 ·
  rintro tm S ⟨_, _, _, _, H, -⟩
  simp [spec_l24Not.l0] at H
 ·
  rintro n1 ih1 tm S ⟨hle, x3_1, x4_1, pv2, H, hh, h2⟩
  simp only [spec_l24Not.l0] at H
  rw [hh.eq]
  refine Evr.seq (Evr.sr rfl (Opl.p1 (n := Opl.p1 (n := Opl.len (xs := l0) (by exact hv0) K78 rfl rfl rfl rfl (Opl.p1 (n := Opl.nil ?_))))))
  by_cases c3 : x4_1 < (l0.length : Int)
  case neg =>
   rw [if_neg c3] at H
   have e2 : (decide (x4_1 < (l0.length : Int))) = false := by simpa using c3
   try rw [e2]
   refine Evr.condF rfl (Evr.exit rfl (Evr.sr rfl (Opl.p1 (n := Opl.p1 (n := Opl.nil ?_)))))
   obtain rfl := Option.some.inj H
   refine Evr.ret1 Try.func85 rfl ?_
   show Vec _ _ pv2 _
   exact h2
  rw [if_pos c3] at H
  have e1 : (decide (x4_1 < (l0.length : Int))) = true := by simpa using c3
  try rw [e1]
  refine Evr.condT rfl (Evr.skip (Evr.seq (Evr.block (Evr.regionN rfl (Opl.p1 (n := Opl.p1 (n := Opl.p1 (n := Opl.p1 (n := ?_)))))))))
  obtain ⟨c4, H⟩ := peel H
  obtain ⟨c5, H⟩ := peel H
  refine Opl.idx (M := cBool) (xs := l0) (j := x4_1) false (by exact hv0) rfl (by omega) (by omega) K78 Z4 rfl rfl ?_
  rintro p1 q1 h3
  obtain rfl : p1 = [.lit (.bool (rdOf false l0 x4_1))] := h3
  refine Opl.lda (.lit (.bool (rdOf false l0 x4_1))) rfl T4 rfl rfl rfl rfl (Opl.p1 (n := Opl.idv (M := cBool) (xs := x3_1) (j := x4_1) (v := pv2) h2 rfl rfl (by omega) (by omega) K78 Z4 rfl rfl ?_))
  rintro d1 z1 q2 h4 h5
  refine Opl.stv (M := cBool) (xs := x3_1) (j := x4_1) (y := !(rdOf false l0 x4_1)) (vs := [.lit (.bool (!(rdOf false l0 x4_1)))]) h4 h5 (by omega) (by omega) rfl rfl (by exact rfl) Z4 rfl rfl rfl rfl ?_
  rw [← q2]
  rintro S h6 u2
  refine Opl.nil (Evr.inBlock (Evr.regionN rfl (Opl.p1 (n := Opl.add (k := .i64) (a := x4_1) (b := 1) K3 rfl rfl rfl rfl (Opl.one (v := .lit (.int .i64 (wrap64 (x4_1 + 1)))) rfl rfl rfl (Opl.nil ?_))))))
  exact ih1 _ (by omega) _ _ ⟨by omega, _, _, _, H, ⟨rfl, rfl, rfl, trivial⟩, h6⟩
theorem spec_l4Ahead.ev {k : Nat} {l0 : List (List Int)} {v0 : PV} (hv0 : Sl (cSl (cInt .i64)) l0 v0) {l1 : List Bool} {v1 : PV} (hv1 : Sl cBool l1 v1) {r : (List Bool)} (H : spec_l4Ahead.f k l0 l1 = some r) : Ret Try.prog 87 [v0, v1] fun v S => Vec cBool r v S := by
 unfold spec_l4Ahead.f at H
 refine Ret.intro Try.func87 rfl (Nat.le_of_ble_eq_true rfl) rfl ?_
 rw [tm2]
 refine Evr.sr rfl (Opl.p1 (n := Opl.nil (Evr.sr rfl (Opl.p1 (n := Opl.len (xs := l0) (by exact hv0) K23 rfl rfl rfl rfl ?_)))))
 obtain ⟨c1, H⟩ := peel H
 obtain ⟨c2, H⟩ := peel H
 refine Opl.make (M := cBool) (m := (l0.length : Int)) false (by exact rfl) rfl rfl K78 T4 rfl (by omega) (by show ((l0.length : Int)).toNat * 1 ≤ 281474976710656; omega) (by omega) rfl rfl rfl ?_
 rintro pv1 S h1 u1 w1
 refine Opl.p1 (n := Opl.nil (Evr.seq (Evr.sr rfl (Opl.p1 (n := Opl.nil (Evr.block ?_))))))
 refine Evr.loop (Evr.rounds (n := k) (Inv := fun n tm S => n ≤ k ∧ ∃ (x5_1 : List Bool) (x6_1 : Int) (pv2 : PV), spec_l4Ahead.l0 n l0 l1 x5_1 x6_1 = some r ∧ Has tm [(0, v0), (1, v1), (5, pv2), (6, .lit (.int .i64 x6_1))] ∧ Vec cBool x5_1 pv2 S) ?_ ?_ ?_)
 · exact ⟨Nat.le_refl _, _, _, _, H, ⟨rfl, rfl, rfl, rfl, trivial⟩, h1⟩
 ·
  rintro tm S ⟨_, _, _, _, H, -⟩
  simp [spec_l4Ahead.l0] at H
 ·
  rintro n1 ih1 tm S ⟨hle, x5_1, x6_1, pv2, H, hh, h2⟩
  simp only [spec_l4Ahead.l0] at H
  rw [hh.eq]
  refine Evr.seq (Evr.sr rfl (Opl.p1 (n := Opl.p1 (n := Opl.len (xs := l0) (by exact hv0) K23 rfl rfl rfl rfl (Opl.p1 (n := Opl.nil ?_))))))
  by_cases c3 : x6_1 < (l0.length : Int)
  case neg =>
   rw [if_neg c3] at H
   have e6 : (decide (x6_1 < (l0.length : Int))) = false := by simpa using c3
   try rw [e6]
   refine Evr.condF rfl (Evr.exit rfl (Evr.sr rfl (Opl.p1 (n := Opl.p1 (n := Opl.nil ?_)))))
   obtain rfl := Option.some.inj H
   refine Evr.ret1 Try.func87 rfl ?_
   show Vec _ _ pv2 _
   exact h2
  rw [if_pos c3] at H
  have e1 : (decide (x6_1 < (l0.length : Int))) = true := by simpa using c3
  try rw [e1]
  refine Evr.condT rfl (Evr.skip (Evr.seq (Evr.block (Evr.sr rfl (Opl.p1 (n := Opl.nil (Evr.block ?_)))))))
  refine Evr.loop (Evr.rounds (n := n1) (Inv := fun n tm S => n ≤ n1 ∧ ∃ (x5_2 : List Bool) (x7_1 : Int) (pv3 : PV), spec_l4Ahead.l1 n l0 l1 x5_2 x6_1 x7_1 = some r ∧ Has tm [(0, v0), (1, v1), (5, pv3), (6, .lit (.int .i64 x6_1)), (7, .lit (.int .i64 x7_1))] ∧ Vec cBool x5_2 pv3 S) ?_ ?_ ?_)
  · exact ⟨Nat.le_refl _, _, _, _, H, ⟨rfl, rfl, rfl, rfl, rfl, trivial⟩, h2⟩
  ·
   rintro tm S ⟨_, _, _, _, H, -⟩
   simp [spec_l4Ahead.l1] at H
  ·
   rintro n2 ih2 tm S ⟨hle, x5_2, x7_1, pv3, H, hh, h3⟩
   simp only [spec_l4Ahead.l1] at H
   rw [hh.eq]
   refine Evr.seq (Evr.sr rfl (Opl.p1 (n := Opl.p1 (n := Opl.p1 (n := ?_)))))
   obtain ⟨c4, H⟩ := peel H
   obtain ⟨c5, H⟩ := peel H
   refine Opl.idx (M := (cSl (cInt .i64))) (xs := l0) (j := x6_1) ([] : List Int) (by exact hv0) rfl (by omega) (by omega) K23 Z26 rfl rfl ?_
   rintro p1 q1 h4
   obtain ⟨pv4, rfl, h5⟩ := h4
   refine Opl.lda (pv4) rfl T26 rfl rfl rfl rfl (Opl.len (xs := (rd_Lint l0 x6_1)) (by exact h5) K26 rfl rfl rfl rfl (Opl.p1 (n := Opl.nil ?_)))
   by_cases c6 : x7_1 < ((rd_Lint l0 x6_1).length : Int)
   case neg =>
    rw [if_neg c6] at H
    have e5 : (decide (x7_1 < ((rd_Lint l0 x6_1).length : Int))) = false := by simpa using c6
    try rw [e5]
    refine Evr.condF rfl (Evr.exit rfl (Evr.inBlock (Evr.regionN rfl (Opl.p1 (n := Opl.add (k := .i64) (a := x6_1) (b := 1) K3 rfl rfl rfl rfl (Opl.one (v := .lit (.int .i64 (wrap64 (x6_1 + 1)))) rfl rfl rfl (Opl.nil ?_)))))))
    exact ih1 _ (by omega) _ _ ⟨by omega, _, _, _, H, ⟨rfl, rfl, rfl, rfl, trivial⟩, h3⟩
   rw [if_pos c6] at H
   have e2 : (decide (x7_1 < ((rd_Lint l0 x6_1).length : Int))) = true := by simpa using c6
   try rw [e2]
   refine Evr.condT rfl (Evr.skip (Evr.seq (Evr.block (Evr.sr rfl (Opl.p1 (n := Opl.p1 (n := Opl.p1 (n := ?_))))))))
   obtain ⟨c7, H⟩ := peel H
   obtain ⟨c8, H⟩ := peel H
   obtain ⟨c9, H⟩ := peel H
   refine Opl.idx (M := (cSl (cInt .i64))) (xs := l0) (j := x6_1) ([] : List Int) (by exact hv0) rfl (by omega) (by omega) K23 Z26 rfl rfl ?_
   rintro p2 q2 h6
   obtain ⟨pv5, rfl, h7⟩ := h6
   refine Opl.lda (pv5) rfl T26 rfl rfl rfl rfl (Opl.p1 (n := Opl.idx (M := (cInt .i64)) (xs := (rd_Lint l0 x6_1)) (j := x7_1) (0 : Int) (by exact h7) rfl (by omega) (by omega) K26 Z3 rfl rfl ?_))
   rintro p3 q3 h8
   obtain rfl : p3 = [.lit (.int .i64 (rd (rd_Lint l0 x6_1) x7_1))] := h8
   refine Opl.lda (.lit (.int .i64 (rd (rd_Lint l0 x6_1) x7_1))) rfl T3 rfl rfl rfl rfl (Opl.idx (M := cBool) (xs := l1) (j := (rd (rd_Lint l0 x6_1) x7_1)) false (by exact hv1) rfl (by omega) (by omega) K78 Z4 rfl rfl ?_)
   rintro p4 q4 h9
   obtain rfl : p4 = [.lit (.bool (rdOf false l1 (rd (rd_Lint l0 x6_1) x7_1)))] := h9
   refine Opl.lda (.lit (.bool (rdOf false l1 (rd (rd_Lint l0 x6_1) x7_1)))) rfl T4 rfl rfl rfl rfl (Opl.nil ?_)
   refine Evr.join (fun tm S => ∃ (kq1 : Nat) (x5_3 : List Bool) (pv6 : PV), spec_l4Ahead.l1 kq1 l0 l1 x5_3 x6_1 (wrap64 (x7_1 + 1)) = some r ∧ kq1 ≤ n2 ∧ Has tm [(0, v0), (1, v1), (5, pv6), (6, .lit (.int .i64 x6_1)), (7, .lit (.int .i64 x7_1))] ∧ Vec cBool x5_3 pv6 S) ?_ fun hk1 => ?_
   ·
    rintro tm S ⟨kq1, x5_3, pv6, H, hle, hh, h10⟩
    rw [hh.eq]
    refine Evr.inBlock (Evr.regionN rfl (Opl.p1 (n := Opl.add (k := .i64) (a := x7_1) (b := 1) K3 rfl rfl rfl rfl (Opl.one (v := .lit (.int .i64 (wrap64 (x7_1 + 1)))) rfl rfl rfl (Opl.nil ?_)))))
    exact ih2 _ (by omega) _ _ ⟨by omega, _, _, _, H, ⟨rfl, rfl, rfl, rfl, rfl, trivial⟩, h10⟩
   ·
    by_cases c10 : rdOf false l1 (rd (rd_Lint l0 x6_1) x7_1) = true
    case neg =>
     rw [if_neg c10] at H
     have e4 : (rdOf false l1 (rd (rd_Lint l0 x6_1) x7_1)) = false := by simpa using c10
     try rw [e4]
     refine Evr.condF rfl (Evr.skip ?_)
     exact hk1 _ _ ⟨_, _, _, H, by omega, ⟨rfl, rfl, rfl, rfl, rfl, trivial⟩, h3⟩
    rw [if_pos c10] at H
    have e3 : (rdOf false l1 (rd (rd_Lint l0 x6_1) x7_1)) = true := by simpa using c10
    try rw [e3]
    refine Evr.condT rfl (Evr.regionN rfl (Opl.p1 (n := Opl.p1 (n := ?_))))
    obtain ⟨c11, H⟩ := peel H
    refine Opl.idv (M := cBool) (xs := x5_2) (j := x6_1) (v := pv3) h3 rfl rfl (by omega) (by omega) K78 Z4 rfl rfl ?_
    rintro d1 z1 q5 h11 h12
    refine Opl.stv (M := cBool) (xs := x5_2) (j := x6_1) (y := true) (vs := [.lit (.bool true)]) h11 h12 (by omega) (by omega) rfl rfl (by exact rfl) Z4 rfl rfl rfl rfl ?_
    rw [← q5]
    rintro S h13 u2
    refine Opl.nil ?_
    exact hk1 _ _ ⟨_, _, _, H, by omega, ⟨rfl, rfl, rfl, rfl, rfl, trivial⟩, h13⟩
theorem spec_l24Stay.ev {k : Nat} {l0 : List (List Int)} {v0 : PV} (hv0 : Sl (cSl (cInt .i64)) l0 v0) {l1 : List Bool} {v1 : PV} (hv1 : Sl cBool l1 v1) {r : (List Bool)} (H : spec_l24Stay.f k l0 l1 = some r) : Ret Try.prog 89 [v0, v1] fun v S => Vec cBool r v S := by
 unfold spec_l24Stay.f at H
 refine Ret.intro Try.func89 rfl (Nat.le_of_ble_eq_true rfl) rfl ?_
 rw [tm2]
 refine Evr.sr rfl (Opl.p1 (n := Opl.nil (Evr.sr rfl (Opl.p1 (n := Opl.len (xs := l1) (by exact hv1) K78 rfl rfl rfl rfl ?_)))))
 obtain ⟨c1, H⟩ := peel H
 obtain ⟨c2, H⟩ := peel H
 refine Opl.make (M := cBool) (m := (l1.length : Int)) false (by exact rfl) rfl rfl K78 T4 rfl (by omega) (by show ((l1.length : Int)).toNat * 1 ≤ 281474976710656; omega) (by omega) rfl rfl rfl ?_
 rintro pv1 S h1 u1 w1
 refine Opl.p1 (n := Opl.nil (Evr.seq (Evr.sr rfl (Opl.p1 (n := Opl.nil (Evr.block ?_))))))
 refine Evr.loop (Evr.rounds (n := k) (Inv := fun n tm S => n ≤ k ∧ ∃ (x5_1 : List Bool) (x6_1 : Int) (pv2 : PV), spec_l24Stay.l0 n l0 l1 x5_1 x6_1 = some r ∧ Has tm [(0, v0), (1, v1), (5, pv2), (6, .lit (.int .i64 x6_1))] ∧ Vec cBool x5_1 pv2 S) ?_ ?_ ?_)
 · exact ⟨Nat.le_refl _, _, _, _, H, ⟨rfl, rfl, rfl, rfl, trivial⟩, h1⟩
 ·
  rintro tm S ⟨_, _, _, _, H, -⟩
  simp [spec_l24Stay.l0] at H
 ·
  rintro n1 ih1 tm S ⟨hle, x5_1, x6_1, pv2, H, hh, h2⟩
  simp only [spec_l24Stay.l0] at H
  rw [hh.eq]
  refine Evr.seq (Evr.sr rfl (Opl.p1 (n := Opl.p1 (n := Opl.len (xs := l1) (by exact hv1) K78 rfl rfl rfl rfl (Opl.p1 (n := Opl.nil ?_))))))
  by_cases c3 : x6_1 < (l1.length : Int)
  case pos =>
   rw [if_pos c3] at H
   have e1 : (decide (x6_1 < (l1.length : Int))) = true := by simpa using c3
   try rw [e1]
   refine Evr.condT rfl (Evr.skip (Evr.seq (Evr.block (Evr.regionN rfl (Opl.p1 (n := Opl.p1 (n := Opl.p1 (n := Opl.p1 (n := ?_)))))))))
   obtain ⟨c4, H⟩ := peel H
   obtain ⟨c5, H⟩ := peel H
   refine Opl.idx (M := cBool) (xs := l1) (j := x6_1) false (by exact hv1) rfl (by omega) (by omega) K78 Z4 rfl rfl ?_
   rintro p1 q1 h3
   obtain rfl : p1 = [.lit (.bool (rdOf false l1 x6_1))] := h3
   refine Opl.lda (.lit (.bool (rdOf false l1 x6_1))) rfl T4 rfl rfl rfl rfl (Opl.idv (M := cBool) (xs := x5_1) (j := x6_1) (v := pv2) h2 rfl rfl (by omega) (by omega) K78 Z4 rfl rfl ?_)
   rintro d1 z1 q2 h4 h5
   refine Opl.stv (M := cBool) (xs := x5_1) (j := x6_1) (y := (rdOf false l1 x6_1)) (vs := [.lit (.bool (rdOf false l1 x6_1))]) h4 h5 (by omega) (by omega) rfl rfl (by exact rfl) Z4 rfl rfl rfl rfl ?_
   rw [← q2]
   rintro S h6 u2
   refine Opl.nil (Evr.inBlock (Evr.regionN rfl (Opl.p1 (n := Opl.add (k := .i64) (a := x6_1) (b := 1) K3 rfl rfl rfl rfl (Opl.one (v := .lit (.int .i64 (wrap64 (x6_1 + 1)))) rfl rfl rfl (Opl.nil ?_))))))
   exact ih1 _ (by omega) _ _ ⟨by omega, _, _, _, H, ⟨rfl, rfl, rfl, rfl, trivial⟩, h6⟩
  rw [if_neg c3] at H
  have e2 : (decide (x6_1 < (l1.length : Int))) = false := by simpa using c3
  try rw [e2]
  refine Evr.condF rfl (Evr.exit rfl (Evr.seq (Evr.sr rfl (Opl.p1 (n := Opl.nil (Evr.block ?_))))))
  refine Evr.loop (Evr.rounds (n := n1) (Inv := fun n tm S => n ≤ n1 ∧ ∃ (x5_2 : List Bool) (x7_1 : Int) (pv3 : PV), spec_l24Stay.l1 n l0 l1 x5_2 x7_1 = some r ∧ Has tm [(0, v0), (1, v1), (5, pv3), (7, .lit (.int .i64 x7_1))] ∧ Vec cBool x5_2 pv3 S) ?_ ?_ ?_)
  · exact ⟨Nat.le_refl _, _, _, _, H, ⟨rfl, rfl, rfl, rfl, trivial⟩, h2⟩
  ·
   rintro tm S ⟨_, _, _, _, H, -⟩
   simp [spec_l24Stay.l1] at H
  ·
   rintro n2 ih2 tm S ⟨hle, x5_2, x7_1, pv3, H, hh, h7⟩
   simp only [spec_l24Stay.l1] at H
   rw [hh.eq]
   refine Evr.seq (Evr.sr rfl (Opl.p1 (n := Opl.p1 (n := Opl.len (xs := l1) (by exact hv1) K78 rfl rfl rfl rfl (Opl.p1 (n := Opl.nil ?_))))))
   by_cases c6 : x7_1 < (l1.length : Int)
   case neg =>
    rw [if_neg c6] at H
    have e8 : (decide (x7_1 < (l1.length : Int))) = false := by simpa using c6
    try rw [e8]
    refine Evr.condF rfl (Evr.exit rfl (Evr.sr rfl (Opl.p1 (n := Opl.p1 (n := Opl.nil ?_)))))
    obtain rfl := Option.some.inj H
    refine Evr.ret1 Try.func89 rfl ?_
    show Vec _ _ pv3 _
    exact h7
   rw [if_pos c6] at H
   have e3 : (decide (x7_1 < (l1.length : Int))) = true := by simpa using c6
   try rw [e3]
   refine Evr.condT rfl (Evr.skip (Evr.seq (Evr.block (Evr.sr rfl (Opl.p1 (n := Opl.p1 (n := ?_)))))))
   obtain ⟨t412, h_t412, H⟩ := Option.bind_eq_some_iff.1 H
   obtain ⟨pv4, h8, -, h9⟩ := Out.vec h7
   refine Opl.callv sBool (spec_l4Ahead.ev hv0 h9 h_t412) rfl rfl rfl (.cons (.refl _) (.cons h8 .nil)) ⟨hv0.plain, h9.plain, trivial⟩ (by decide) ?_
   rintro pv5 h10
   refine Opl.p1 (n := Opl.nil (Evr.sr rfl (Opl.p1 (n := Opl.nil (Evr.block ?_)))))
   refine Evr.loop (Evr.rounds (n := n2) (Inv := fun n tm S => n ≤ n2 ∧ ∃ (x5_3 : List Bool) (x9_1 : Int) (pv6 : PV), spec_l24Stay.l2 n l0 l1 x5_3 x7_1 t412 x9_1 = some r ∧ Has tm [(0, v0), (1, v1), (5, pv6), (7, .lit (.int .i64 x7_1)), (8, pv5), (9, .lit (.int .i64 x9_1))] ∧ Vec cBool x5_3 pv6 S) ?_ ?_ ?_)
   · exact ⟨Nat.le_refl _, _, _, _, H, ⟨rfl, rfl, rfl, rfl, rfl, rfl, trivial⟩, h7⟩
   ·
    rintro tm S ⟨_, _, _, _, H, -⟩
    simp [spec_l24Stay.l2] at H
   ·
    rintro n3 ih3 tm S ⟨hle, x5_3, x9_1, pv6, H, hh, h11⟩
    simp only [spec_l24Stay.l2] at H
    rw [hh.eq]
    refine Evr.seq (Evr.sr rfl (Opl.p1 (n := Opl.p1 (n := Opl.len (xs := l1) (by exact hv1) K78 rfl rfl rfl rfl (Opl.p1 (n := Opl.nil ?_))))))
    by_cases c7 : x9_1 < (l1.length : Int)
    case neg =>
     rw [if_neg c7] at H
     have e7 : (decide (x9_1 < (l1.length : Int))) = false := by simpa using c7
     try rw [e7]
     refine Evr.condF rfl (Evr.exit rfl (Evr.inBlock (Evr.regionN rfl (Opl.p1 (n := Opl.add (k := .i64) (a := x7_1) (b := 1) K3 rfl rfl rfl rfl (Opl.one (v := .lit (.int .i64 (wrap64 (x7_1 + 1)))) rfl rfl rfl (Opl.nil ?_)))))))
     exact ih2 _ (by omega) _ _ ⟨by omega, _, _, _, H, ⟨rfl, rfl, rfl, rfl, trivial⟩, h11⟩
    rw [if_pos c7] at H
    have e4 : (decide (x9_1 < (l1.length : Int))) = true := by simpa using c7
    try rw [e4]
    refine Evr.condT rfl (Evr.skip (Evr.seq (Evr.block ?_)))
    refine Evr.join (fun tm S => ∃ (kq1 : Nat) (x5_4 : List Bool) (pv7 : PV), spec_l24Stay.l2 kq1 l0 l1 x5_4 x7_1 t412 (wrap64 (x9_1 + 1)) = some r ∧ kq1 ≤ n3 ∧ Has tm [(0, v0), (1, v1), (5, pv7), (7, .lit (.int .i64 x7_1)), (8, pv5), (9, .lit (.int .i64 x9_1))] ∧ Vec cBool x5_4 pv7 S) ?_ fun hk1 => ?_
    ·
     rintro tm S ⟨kq1, x5_4, pv7, H, hle, hh, h12⟩
     rw [hh.eq]
     refine Evr.inBlock (Evr.regionN rfl (Opl.p1 (n := Opl.add (k := .i64) (a := x9_1) (b := 1) K3 rfl rfl rfl rfl (Opl.one (v := .lit (.int .i64 (wrap64 (x9_1 + 1)))) rfl rfl rfl (Opl.nil ?_)))))
     exact ih3 _ (by omega) _ _ ⟨by omega, _, _, _, H, ⟨rfl, rfl, rfl, rfl, rfl, rfl, trivial⟩, h12⟩
    ·
     refine Evr.regionN rfl (Opl.p1 (n := Opl.p1 (n := Opl.p1 (n := Opl.p1 (n := ?_)))))
     obtain ⟨c8, H⟩ := peel H
     obtain ⟨c9, H⟩ := peel H
     refine Opl.idv (M := cBool) (xs := x5_3) (j := x9_1) (v := pv6) h11 rfl rfl (by omega) (by omega) K78 Z4 rfl rfl ?_
     rintro d2 z2 q3 h13 h14
     refine Opl.ldv (M := cBool) (xs := x5_3) (j := x9_1) false h13 h14 (by omega) (by omega) rfl T4 rfl rfl rfl ?_
     rintro p2 q4 h15
     obtain rfl : p2 = [.lit (.bool (rdOf false x5_3 x9_1))] := h15
     refine ⟨.lit (.bool (rdOf false x5_3 x9_1)), rfl, ?_⟩
     refine Opl.p1 (n := ?_)
     by_cases c10 : rdOf false x5_3 x9_1 = true
     case neg =>
      rw [if_neg c10] at H
      have e6 : (rdOf false x5_3 x9_1) = false := by simpa using c10
      try rw [e6]
      refine Opl.skp rfl (Opl.skp rfl (Opl.skp rfl (Opl.skp rfl (Opl.p1 (n := Opl.idv (M := cBool) (xs := x5_3) (j := x9_1) (v := pv6) h11 rfl rfl (by omega) (by omega) K78 Z4 rfl rfl ?_)))))
      rintro d4 z4 q7 h20 h21
      refine Opl.stv (M := cBool) (xs := x5_3) (j := x9_1) (y := false) (vs := [.lit (.bool false)]) h20 h21 (by omega) (by omega) rfl rfl (by exact rfl) Z4 rfl rfl rfl rfl ?_
      rw [← q7]
      rintro S h22 u4
      refine Opl.nil ?_
      exact hk1 _ _ ⟨_, _, _, H, by omega, ⟨rfl, rfl, rfl, rfl, rfl, rfl, trivial⟩, h22⟩
     rw [if_pos c10] at H
     have e5 : (rdOf false x5_3 x9_1) = true := by simpa using c10
     try rw [e5]
     refine Opl.p1 (n := Opl.p1 (n := ?_))
     obtain ⟨c11, H⟩ := peel H
     refine Opl.idx (M := cBool) (xs := t412) (j := x9_1) false (by exact h10) rfl (by omega) (by omega) K78 Z4 rfl rfl ?_
     rintro p3 q5 h16
     obtain rfl : p3 = [.lit (.bool (rdOf false t412 x9_1))] := h16
     refine Opl.lda (.lit (.bool (rdOf false t412 x9_1))) rfl T4 rfl rfl rfl rfl (Opl.p1 (n := Opl.idv (M := cBool) (xs := x5_3) (j := x9_1) (v := pv6) h11 rfl rfl (by omega) (by omega) K78 Z4 rfl rfl ?_))
     rintro d3 z3 q6 h17 h18
     refine Opl.stv (M := cBool) (xs := x5_3) (j := x9_1) (y := (rdOf false t412 x9_1)) (vs := [.lit (.bool (rdOf false t412 x9_1))]) h17 h18 (by omega) (by omega) rfl rfl (by exact rfl) Z4 rfl rfl rfl rfl ?_
     rw [← q6]
     rintro S h19 u3
     refine Opl.nil ?_
     exact hk1 _ _ ⟨_, _, _, H, by omega, ⟨rfl, rfl, rfl, rfl, rfl, rfl, trivial⟩, h19⟩
theorem spec_l24Until.ev {k : Nat} {l0 : List (List Int)} {v0 : PV} (hv0 : Sl (cSl (cInt .i64)) l0 v0) {l1 : List Bool} {v1 : PV} (hv1 : Sl cBool l1 v1) {l2 : List Bool} {v2 : PV} (hv2 : Sl cBool l2 v2) {r : (List Bool)} (H : spec_l24Until.f k l0 l1 l2 = some r) : Ret Try.prog 88 [v0, v1, v2] fun v S => Vec cBool r v S := by
 unfold spec_l24Until.f at H
 refine Ret.intro Try.func88 rfl (Nat.le_of_ble_eq_true rfl) rfl ?_
 rw [tm3]
 refine Evr.sr rfl (Opl.p1 (n := Opl.nil (Evr.sr rfl (Opl.p1 (n := Opl.len (xs := l1) (by exact hv1) K78 rfl rfl rfl rfl ?_)))))
 obtain ⟨c1, H⟩ := peel H
 obtain ⟨c2, H⟩ := peel H
 refine Opl.make (M := cBool) (m := (l1.length : Int)) false (by exact rfl) rfl rfl K78 T4 rfl (by omega) (by show ((l1.length : Int)).toNat * 1 ≤ 281474976710656; omega) (by omega) rfl rfl rfl ?_
 rintro pv1 S h1 u1 w1
 refine Opl.p1 (n := Opl.nil (Evr.seq (Evr.sr rfl (Opl.p1 (n := Opl.nil (Evr.block ?_))))))
 refine Evr.loop (Evr.rounds (n := k) (Inv := fun n tm S => n ≤ k ∧ ∃ (x7_1 : List Bool) (x8_1 : Int) (pv2 : PV), spec_l24Until.l0 n l0 l1 l2 x7_1 x8_1 = some r ∧ Has tm [(0, v0), (1, v1), (2, v2), (7, pv2), (8, .lit (.int .i64 x8_1))] ∧ Vec cBool x7_1 pv2 S) ?_ ?_ ?_)
 · exact ⟨Nat.le_refl _, _, _, _, H, ⟨rfl, rfl, rfl, rfl, rfl, trivial⟩, h1⟩
 ·
  rintro tm S ⟨_, _, _, _, H, -⟩
  simp [spec_l24Until.l0] at H
 ·
  rintro n1 ih1 tm S ⟨hle, x7_1, x8_1, pv2, H, hh, h2⟩
  simp only [spec_l24Until.l0] at H
  rw [hh.eq]
  refine Evr.seq (Evr.sr rfl (Opl.p1 (n := Opl.p1 (n := Opl.len (xs := l1) (by exact hv1) K78 rfl rfl rfl rfl (Opl.p1 (n := Opl.nil ?_))))))
  by_cases c3 : x8_1 < (l1.length : Int)
  case pos =>
   rw [if_pos c3] at H
   have e1 : (decide (x8_1 < (l1.length : Int))) = true := by simpa using c3
   try rw [e1]
   refine Evr.condT rfl (Evr.skip (Evr.seq (Evr.block (Evr.regionN rfl (Opl.p1 (n := Opl.p1 (n := Opl.p1 (n := Opl.p1 (n := ?_)))))))))
   obtain ⟨c4, H⟩ := peel H
   obtain ⟨c5, H⟩ := peel H
   obtain ⟨c6, H⟩ := peel H
   refine Opl.idx (M := cBool) (xs := l2) (j := x8_1) false (by exact hv2) rfl (by omega) (by omega) K78 Z4 rfl rfl ?_
   rintro p1 q1 h3
   obtain rfl : p1 = [.lit (.bool (rdOf false l2 x8_1))] := h3
   refine Opl.lda (.lit (.bool (rdOf false l2 x8_1))) rfl T4 rfl rfl rfl rfl (Opl.idv (M := cBool) (xs := x7_1) (j := x8_1) (v := pv2) h2 rfl rfl (by omega) (by omega) K78 Z4 rfl rfl ?_)
   rintro d1 z1 q2 h4 h5
   refine Opl.stv (M := cBool) (xs := x7_1) (j := x8_1) (y := (rdOf false l2 x8_1)) (vs := [.lit (.bool (rdOf false l2 x8_1))]) h4 h5 (by omega) (by omega) rfl rfl (by exact rfl) Z4 rfl rfl rfl rfl ?_
   rw [← q2]
   rintro S h6 u2
   refine Opl.nil (Evr.inBlock (Evr.regionN rfl (Opl.p1 (n := Opl.add (k := .i64) (a := x8_1) (b := 1) K3 rfl rfl rfl rfl (Opl.one (v := .lit (.int .i64 (wrap64 (x8_1 + 1)))) rfl rfl rfl (Opl.nil ?_))))))
   exact ih1 _ (by omega) _ _ ⟨by omega, _, _, _, H, ⟨rfl, rfl, rfl, rfl, rfl, trivial⟩, h6⟩
  rw [if_neg c3] at H
  have e2 : (decide (x8_1 < (l1.length : Int))) = false := by simpa using c3
  try rw [e2]
  refine Evr.condF rfl (Evr.exit rfl (Evr.seq (Evr.sr rfl (Opl.p1 (n := Opl.nil (Evr.block ?_))))))
  refine Evr.loop (Evr.rounds (n := n1) (Inv := fun n tm S => n ≤ n1 ∧ ∃ (x7_2 : List Bool) (x9_1 : Int) (pv3 : PV), spec_l24Until.l1 n l0 l1 x7_2 x9_1 = some r ∧ Has tm [(0, v0), (1, v1), (7, pv3), (9, .lit (.int .i64 x9_1))] ∧ Vec cBool x7_2 pv3 S) ?_ ?_ ?_)
  · exact ⟨Nat.le_refl _, _, _, _, H, ⟨rfl, rfl, rfl, rfl, trivial⟩, h2⟩
  ·
   rintro tm S ⟨_, _, _, _, H, -⟩
   simp [spec_l24Until.l1] at H
  ·
   rintro n2 ih2 tm S ⟨hle, x7_2, x9_1, pv3, H, hh, h7⟩
   simp only [spec_l24Until.l1] at H
   rw [hh.eq]
   refine Evr.seq (Evr.sr rfl (Opl.p1 (n := Opl.p1 (n := Opl.len (xs := l1) (by exact hv1) K78 rfl rfl rfl rfl (Opl.p1 (n := Opl.nil ?_))))))
   by_cases c7 : x9_1 < (l1.length : Int)
   case neg =>
    rw [if_neg c7] at H
    have e10 : (decide (x9_1 < (l1.length : Int))) = false := by simpa using c7
    try rw [e10]
    refine Evr.condF rfl (Evr.exit rfl (Evr.sr rfl (Opl.p1 (n := Opl.p1 (n := Opl.nil ?_)))))
    obtain rfl := Option.some.inj H
    refine Evr.ret1 Try.func88 rfl ?_
    show Vec _ _ pv3 _
    exact h7
   rw [if_pos c7] at H
   have e3 : (decide (x9_1 < (l1.length : Int))) = true := by simpa using c7
   try rw [e3]
   refine Evr.condT rfl (Evr.skip (Evr.seq (Evr.block (Evr.sr rfl (Opl.p1 (n := Opl.p1 (n := ?_)))))))
   obtain ⟨t398, h_t398, H⟩ := Option.bind_eq_some_iff.1 H
   obtain ⟨pv4, h8, -, h9⟩ := Out.vec h7
   refine Opl.callv sBool (spec_l4Ahead.ev hv0 h9 h_t398) rfl rfl rfl (.cons (.refl _) (.cons h8 .nil)) ⟨hv0.plain, h9.plain, trivial⟩ (by decide) ?_
   rintro pv5 h10
   refine Opl.p1 (n := Opl.nil (Evr.sr rfl (Opl.p1 (n := Opl.nil (Evr.block ?_)))))
   refine Evr.loop (Evr.rounds (n := n2) (Inv := fun n tm S => n ≤ n2 ∧ ∃ (x7_3 : List Bool) (x11_1 : Int) (pv6 : PV), spec_l24Until.l2 n l0 l1 x7_3 x9_1 t398 x11_1 = some r ∧ Has tm [(0, v0), (1, v1), (7, pv6), (9, .lit (.int .i64 x9_1)), (10, pv5), (11, .lit (.int .i64 x11_1))] ∧ Vec cBool x7_3 pv6 S) ?_ ?_ ?_)
   · exact ⟨Nat.le_refl _, _, _, _, H, ⟨rfl, rfl, rfl, rfl, rfl, rfl, trivial⟩, h7⟩
   ·
    rintro tm S ⟨_, _, _, _, H, -⟩
    simp [spec_l24Until.l2] at H
   ·
    rintro n3 ih3 tm S ⟨hle, x7_3, x11_1, pv6, H, hh, h11⟩
    simp only [spec_l24Until.l2] at H
    rw [hh.eq]
    refine Evr.seq (Evr.sr rfl (Opl.p1 (n := Opl.p1 (n := Opl.len (xs := l1) (by exact hv1) K78 rfl rfl rfl rfl (Opl.p1 (n := Opl.nil ?_))))))
    by_cases c8 : x11_1 < (l1.length : Int)
    case neg =>
     rw [if_neg c8] at H
     have e9 : (decide (x11_1 < (l1.length : Int))) = false := by simpa using c8
     try rw [e9]
     refine Evr.condF rfl (Evr.exit rfl (Evr.inBlock (Evr.regionN rfl (Opl.p1 (n := Opl.add (k := .i64) (a := x9_1) (b := 1) K3 rfl rfl rfl rfl (Opl.one (v := .lit (.int .i64 (wrap64 (x9_1 + 1)))) rfl rfl rfl (Opl.nil ?_)))))))
     exact ih2 _ (by omega) _ _ ⟨by omega, _, _, _, H, ⟨rfl, rfl, rfl, rfl, trivial⟩, h11⟩
    rw [if_pos c8] at H
    have e4 : (decide (x11_1 < (l1.length : Int))) = true := by simpa using c8
    try rw [e4]
    refine Evr.condT rfl (Evr.skip (Evr.seq (Evr.block ?_)))
    refine Evr.join (fun tm S => ∃ (kq1 : Nat) (x7_4 : List Bool) (pv7 : PV), spec_l24Until.l2 kq1 l0 l1 x7_4 x9_1 t398 (wrap64 (x11_1 + 1)) = some r ∧ kq1 ≤ n3 ∧ Has tm [(0, v0), (1, v1), (7, pv7), (9, .lit (.int .i64 x9_1)), (10, pv5), (11, .lit (.int .i64 x11_1))] ∧ Vec cBool x7_4 pv7 S) ?_ fun hk1 => ?_
    ·
     rintro tm S ⟨kq1, x7_4, pv7, H, hle, hh, h12⟩
     rw [hh.eq]
     refine Evr.inBlock (Evr.regionN rfl (Opl.p1 (n := Opl.add (k := .i64) (a := x11_1) (b := 1) K3 rfl rfl rfl rfl (Opl.one (v := .lit (.int .i64 (wrap64 (x11_1 + 1)))) rfl rfl rfl (Opl.nil ?_)))))
     exact ih3 _ (by omega) _ _ ⟨by omega, _, _, _, H, ⟨rfl, rfl, rfl, rfl, rfl, rfl, trivial⟩, h12⟩
    ·
     refine Evr.regionN rfl (Opl.p1 (n := Opl.p1 (n := Opl.p1 (n := Opl.p1 (n := ?_)))))
     obtain ⟨c9, H⟩ := peel H
     obtain ⟨c10, H⟩ := peel H
     refine Opl.idv (M := cBool) (xs := x7_3) (j := x11_1) (v := pv6) h11 rfl rfl (by omega) (by omega) K78 Z4 rfl rfl ?_
     rintro d2 z2 q3 h13 h14
     refine Opl.ldv (M := cBool) (xs := x7_3) (j := x11_1) false h13 h14 (by omega) (by omega) rfl T4 rfl rfl rfl ?_
     rintro p2 q4 h15
     obtain rfl : p2 = [.lit (.bool (rdOf false x7_3 x11_1))] := h15
     refine ⟨.lit (.bool (rdOf false x7_3 x11_1)), rfl, ?_⟩
     refine Opl.p1 (n := ?_)
     by_cases c11 : rdOf false x7_3 x11_1 = true
     case pos =>
      rw [if_pos c11] at H
      have e5 : (rdOf false x7_3 x11_1) = true := by simpa using c11
      try rw [e5]
      refine Opl.skp rfl (Opl.skp rfl (Opl.skp rfl (Opl.skp rfl (Opl.skp rfl (Opl.skp rfl (Opl.skp rfl (Opl.skp rfl (Opl.skp rfl (Opl.skp rfl (Opl.p1 (n := Opl.idv (M := cBool) (xs := x7_3) (j := x11_1) (v := pv6) h11 rfl rfl (by omega) (by omega) K78 Z4 rfl rfl ?_)))))))))))
      rintro d3 z3 q5 h16 h17
      refine Opl.stv (M := cBool) (xs := x7_3) (j := x11_1) (y := true) (vs := [.lit (.bool true)]) h16 h17 (by omega) (by omega) rfl rfl (by exact rfl) Z4 rfl rfl rfl rfl ?_
      rw [← q5]
      rintro S h18 u3
      refine Opl.nil ?_
      exact hk1 _ _ ⟨_, _, _, H, by omega, ⟨rfl, rfl, rfl, rfl, rfl, rfl, trivial⟩, h18⟩
     rw [if_neg c11] at H
     have e6 : (rdOf false x7_3 x11_1) = false := by simpa using c11
     try rw [e6]
     refine Opl.p1 (n := Opl.p1 (n := Opl.idx (M := cBool) (xs := l1) (j := x11_1) false (by exact hv1) rfl (by omega) (by omega) K78 Z4 rfl rfl ?_))
     rintro p3 q6 h19
     obtain rfl : p3 = [.lit (.bool (rdOf false l1 x11_1))] := h19
     refine Opl.lda (.lit (.bool (rdOf false l1 x11_1))) rfl T4 rfl rfl rfl rfl (Opl.p1 (n := ?_))
     by_cases c12 : rdOf false l1 x11_1 = true
     case neg =>
      rw [if_neg c12] at H
      have e8 : (rdOf false l1 x11_1) = false := by simpa using c12
      try rw [e8]
      refine Opl.skp rfl (Opl.skp rfl (Opl.skp rfl (Opl.skp rfl (Opl.p1 (n := Opl.p1 (n := Opl.idv (M := cBool) (xs := x7_3) (j := x11_1) (v := pv6) h11 rfl rfl (by omega) (by omega) K78 Z4 rfl rfl ?_))))))
      rintro d5 z5 q9 h24 h25
      refine Opl.stv (M := cBool) (xs := x7_3) (j := x11_1) (y := false) (vs := [.lit (.bool false)]) h24 h25 (by omega) (by omega) rfl rfl (by exact rfl) Z4 rfl rfl rfl rfl ?_
      rw [← q9]
      rintro S h26 u5
      refine Opl.nil ?_
      exact hk1 _ _ ⟨_, _, _, H, by omega, ⟨rfl, rfl, rfl, rfl, rfl, rfl, trivial⟩, h26⟩
     rw [if_pos c12] at H
     have e7 : (rdOf false l1 x11_1) = true := by simpa using c12
     try rw [e7]
     refine Opl.p1 (n := Opl.p1 (n := ?_))
     obtain ⟨c13, H⟩ := peel H
     refine Opl.idx (M := cBool) (xs := t398) (j := x11_1) false (by exact h10) rfl (by omega) (by omega) K78 Z4 rfl rfl ?_
     rintro p4 q7 h20
     obtain rfl : p4 = [.lit (.bool (rdOf false t398 x11_1))] := h20
     refine Opl.lda (.lit (.bool (rdOf false t398 x11_1))) rfl T4 rfl rfl rfl rfl (Opl.p1 (n := Opl.p1 (n := Opl.idv (M := cBool) (xs := x7_3) (j := x11_1) (v := pv6) h11 rfl rfl (by omega) (by omega) K78 Z4 rfl rfl ?_)))
     rintro d4 z4 q8 h21 h22
     refine Opl.stv (M := cBool) (xs := x7_3) (j := x11_1) (y := (rdOf false t398 x11_1)) (vs := [.lit (.bool (rdOf false t398 x11_1))]) h21 h22 (by omega) (by omega) rfl rfl (by exact rfl) Z4 rfl rfl rfl rfl ?_
     rw [← q8]
     rintro S h23 u4
     refine Opl.nil ?_
     exact hk1 _ _ ⟨_, _, _, H, by omega, ⟨rfl, rfl, rfl, rfl, rfl, rfl, trivial⟩, h23⟩
theorem spec_l24All.ev {k : Nat} {l0 : List (List Int)} {v0 : PV} (hv0 : Sl (cSl (cInt .i64)) l0 v0) {l1 : List Bool} {v1 : PV} (hv1 : Sl cBool l1 v1) {l2 : List Bool} {v2 : PV} (hv2 : Sl cBool l2 v2) {r : (List Bool)} (H : spec_l24All.f k l0 l1 l2 = some r) : Ret Try.prog 90 [v0, v1, v2] fun v S => Vec cBool r v S := by
 unfold spec_l24All.f at H
 refine Ret.intro Try.func90 rfl (Nat.le_of_ble_eq_true rfl) rfl ?_
 rw [tm3]
 refine Evr.sr rfl (Opl.p1 (n := Opl.nil (Evr.sr rfl (Opl.p1 (n := ?_)))))
 obtain ⟨t419, h_t419, H⟩ := Option.bind_eq_some_iff.1 H
 refine Opl.call ((spec_l24Not.ev hv2 h_t419).mono fun _ _ h => Out.vec h) rfl rfl rfl rfl ⟨hv2.plain, trivial⟩ (by decide) ?_
 rintro pv1 h1
 refine Opl.p1 (n := Opl.nil (Evr.sr rfl (Opl.p1 (n := Opl.p1 (n := Opl.p1 (n := Opl.p1 (n := ?_)))))))
 obtain ⟨t422, h_t422, H⟩ := Option.bind_eq_some_iff.1 H
 refine Opl.call ((spec_l24Not.ev hv1 h_t422).mono fun _ _ h => Out.vec h) rfl rfl rfl rfl ⟨hv1.plain, trivial⟩ (by decide) ?_
 rintro pv2 h2
 obtain ⟨t425, h_t425, H⟩ := Option.bind_eq_some_iff.1 H
 refine Opl.call ((spec_l24Both.ev h1 h2 h_t425).mono fun _ _ h => Out.vec h) rfl rfl rfl rfl ⟨h1.plain, h2.plain, trivial⟩ (by decide) ?_
 rintro pv3 h3
 obtain ⟨t428, h_t428, H⟩ := Option.bind_eq_some_iff.1 H
 refine Opl.call ((spec_l24Until.ev hv0 h1 h3 h_t428).mono fun _ _ h => Out.vec h) rfl rfl rfl rfl ⟨hv0.plain, h1.plain, h3.plain, trivial⟩ (by decide) ?_
 rintro pv4 h4
 refine Opl.p1 (n := Opl.nil (Evr.sr rfl (Opl.p1 (n := Opl.p1 (n := ?_)))))
 obtain ⟨t431, h_t431, H⟩ := Option.bind_eq_some_iff.1 H
 refine Opl.call ((spec_l24Stay.ev hv0 h1 h_t431).mono fun _ _ h => Out.vec h) rfl rfl rfl rfl ⟨hv0.plain, h1.plain, trivial⟩ (by decide) ?_
 rintro pv5 h5
 refine Opl.p1 (n := Opl.nil (Evr.sr rfl (Opl.p1 (n := Opl.len (xs := l1) (by exact hv1) K78 rfl rfl rfl rfl ?_))))
 obtain ⟨c1, H⟩ := peel H
 obtain ⟨c2, H⟩ := peel H
 refine Opl.make (M := cBool) (m := (l1.length : Int)) false (by exact rfl) rfl rfl K78 T4 rfl (by omega) (by show ((l1.length : Int)).toNat * 1 ≤ 281474976710656; omega) (by omega) rfl rfl rfl ?_
 rintro pv6 S h6 u1 w1
 refine Opl.p1 (n := Opl.nil (Evr.seq (Evr.sr rfl (Opl.p1 (n := Opl.nil (Evr.block ?_))))))
 refine Evr.loop (Evr.rounds (n := k) (Inv := fun n tm S => n ≤ k ∧ ∃ (x10_1 : List Bool) (x11_1 : Int) (pv7 : PV), spec_l24All.l0 n l1 t428 t431 x10_1 x11_1 = some r ∧ Has tm [(1, v1), (8, pv4), (9, pv5), (10, pv7), (11, .lit (.int .i64 x11_1))] ∧ Vec cBool x10_1 pv7 S) ?_ ?_ ?_)
 · exact ⟨Nat.le_refl _, _, _, _, H, ⟨rfl, rfl, rfl, rfl, rfl, trivial⟩, h6⟩
 ·
  rintro tm S ⟨_, _, _, _, H, -⟩
  simp [spec_l24All.l0] at H
 ·
  rintro n1 ih1 tm S ⟨hle, x10_1, x11_1, pv7, H, hh, h7⟩
  simp only [spec_l24All.l0] at H
  rw [hh.eq]
  refine Evr.seq (Evr.sr rfl (Opl.p1 (n := Opl.p1 (n := Opl.len (xs := l1) (by exact hv1) K78 rfl rfl rfl rfl (Opl.p1 (n := Opl.nil ?_))))))
  by_cases c3 : x11_1 < (l1.length : Int)
  case neg =>
   rw [if_neg c3] at H
   have e4 : (decide (x11_1 < (l1.length : Int))) = false := by simpa using c3
   try rw [e4]
   refine Evr.condF rfl (Evr.exit rfl (Evr.sr rfl (Opl.p1 (n := Opl.p1 (n := Opl.nil ?_)))))
   obtain rfl := Option.some.inj H
   refine Evr.ret1 Try.func90 rfl ?_
   show Vec _ _ pv7 _
   exact h7
  rw [if_pos c3] at H
  have e1 : (decide (x11_1 < (l1.length : Int))) = true := by simpa using c3
  try rw [e1]
  refine Evr.condT rfl (Evr.skip (Evr.seq (Evr.block ?_)))
  refine Evr.join (fun tm S => ∃ (kq1 : Nat) (x10_2 : List Bool) (pv8 : PV), spec_l24All.l0 kq1 l1 t428 t431 x10_2 (wrap64 (x11_1 + 1)) = some r ∧ kq1 ≤ n1 ∧ Has tm [(1, v1), (8, pv4), (9, pv5), (10, pv8), (11, .lit (.int .i64 x11_1))] ∧ Vec cBool x10_2 pv8 S) ?_ fun hk1 => ?_
  ·
   rintro tm S ⟨kq1, x10_2, pv8, H, hle, hh, h8⟩
   rw [hh.eq]
   refine Evr.inBlock (Evr.regionN rfl (Opl.p1 (n := Opl.add (k := .i64) (a := x11_1) (b := 1) K3 rfl rfl rfl rfl (Opl.one (v := .lit (.int .i64 (wrap64 (x11_1 + 1)))) rfl rfl rfl (Opl.nil ?_)))))
   exact ih1 _ (by omega) _ _ ⟨by omega, _, _, _, H, ⟨rfl, rfl, rfl, rfl, rfl, trivial⟩, h8⟩
  ·
   refine Evr.regionN rfl (Opl.p1 (n := Opl.p1 (n := Opl.p1 (n := Opl.p1 (n := ?_)))))
   obtain ⟨c4, H⟩ := peel H
   obtain ⟨c5, H⟩ := peel H
   refine Opl.idx (M := cBool) (xs := t428) (j := x11_1) false (by exact h4) rfl (by omega) (by omega) K78 Z4 rfl rfl ?_
   rintro p1 q1 h9
   obtain rfl : p1 = [.lit (.bool (rdOf false t428 x11_1))] := h9
   refine Opl.lda (.lit (.bool (rdOf false t428 x11_1))) rfl T4 rfl rfl rfl rfl (Opl.p1 (n := Opl.p1 (n := ?_)))
   by_cases c6 : rdOf false t428 x11_1 = true
   case pos =>
    rw [if_pos c6] at H
    have e2 : (!(rdOf false t428 x11_1)) = false := by simpa using c6
    try rw [e2]
    refine Opl.skp rfl (Opl.skp rfl (Opl.skp rfl (Opl.skp rfl (Opl.skp rfl (Opl.p1 (n := ?_))))))
    obtain ⟨c7, H⟩ := peel H
    refine Opl.idv (M := cBool) (xs := x10_1) (j := x11_1) (v := pv7) h7 rfl rfl (by omega) (by omega) K78 Z4 rfl rfl ?_
    rintro d1 z1 q2 h10 h11
    refine Opl.stv (M := cBool) (xs := x10_1) (j := x11_1) (y := false) (vs := [.lit (.bool false)]) h10 h11 (by omega) (by omega) rfl rfl (by exact rfl) Z4 rfl rfl rfl rfl ?_
    rw [← q2]
    rintro S h12 u2
    refine Opl.nil ?_
    exact hk1 _ _ ⟨_, _, _, H, by omega, ⟨rfl, rfl, rfl, rfl, rfl, trivial⟩, h12⟩
   rw [if_neg c6] at H
   have e3 : (!(rdOf false t428 x11_1)) = true := by simpa using c6
   try rw [e3]
   refine Opl.p1 (n := Opl.p1 (n := ?_))
   obtain ⟨c8, H⟩ := peel H
   obtain ⟨c9, H⟩ := peel H
   refine Opl.idx (M := cBool) (xs := t431) (j := x11_1) false (by exact h5) rfl (by omega) (by omega) K78 Z4 rfl rfl ?_
   rintro p2 q3 h13
   obtain rfl : p2 = [.lit (.bool (rdOf false t431 x11_1))] := h13
   refine Opl.lda (.lit (.bool (rdOf false t431 x11_1))) rfl T4 rfl rfl rfl rfl (Opl.p1 (n := Opl.p1 (n := Opl.idv (M := cBool) (xs := x10_1) (j := x11_1) (v := pv7) h7 rfl rfl (by omega) (by omega) K78 Z4 rfl rfl ?_)))
   rintro d2 z2 q4 h14 h15
   refine Opl.stv (M := cBool) (xs := x10_1) (j := x11_1) (y := !(rdOf false t431 x11_1)) (vs := [.lit (.bool (!(rdOf false t431 x11_1)))]) h14 h15 (by omega) (by omega) rfl rfl (by exact rfl) Z4 rfl rfl rfl rfl ?_
   rw [← q4]
   rintro S h16 u3
   refine Opl.nil ?_
   exact hk1 _ _ ⟨_, _, _, H, by omega, ⟨rfl, rfl, rfl, rfl, rfl, trivial⟩, h16⟩
theorem spec_l24Row.ev {k : Nat} {a0_0 : Int} {a0_1 : Int} {a0_2 : Int} {a0_3 : Int} {l1 : List (List Bool)} {v1 : PV} (hv1 : Sl (cSl cBool) l1 v1) {l2 : List (List Int)} {v2 : PV} (hv2 : Sl (cSl (cInt .i64)) l2 v2) {l3 : List (List Int)} {v3 : PV} (hv3 : Sl (cSl (cInt .i64)) l3 v3) {r : (List Bool)} (H : spec_l24Row.f k a0_0 a0_1 a0_2 a0_3 l1 l2 l3 = some r) : Ret Try.prog 54 [.agg [.lit (.int .i64 a0_0), .lit (.int .i64 a0_1), .lit (.int .i64 a0_2), .lit (.int .i64 a0_3)], v1, v2, v3] fun v S => Vec cBool r v S := by
 unfold spec_l24Row.f at H
 refine Ret.intro Try.func54 rfl (Nat.le_of_ble_eq_true rfl) rfl ?_
 rw [tm4]
 refine Evr.sr rfl (Opl.box (cs := [.lit (.int .i64 a0_0), .lit (.int .i64 a0_1), .lit (.int .i64 a0_2), .lit (.int .i64 a0_3)]) rfl rfl rfl rfl ?_)
 rintro i1 S h1 u1 w1
 refine Opl.p1 (n := Opl.nil (Evr.seq (Evr.sr rfl (Opl.p1 (v := .ptr i1 0) (n := Opl.ldb (v := .lit (.int .i64 a0_0)) h1 rfl T3 rfl rfl rfl rfl (Opl.p1 (n := Opl.nil ?_)))))))
 by_cases c1 : a0_0 ≤ 1
 case pos =>
  rw [if_pos c1] at H
  have e1 : (decide (a0_0 ≤ 1)) = true := by simpa using c1
  try rw [e1]
  refine Evr.condT rfl (Evr.sr rfl (Opl.p1 (n := Opl.len (xs := l2) (by exact hv2) K23 rfl rfl rfl rfl ?_)))
  obtain ⟨c2, H⟩ := peel H
  obtain ⟨c3, H⟩ := peel H
  refine Opl.make (M := cBool) (m := (l2.length : Int)) false (by exact rfl) rfl rfl K78 T4 rfl (by omega) (by show ((l2.length : Int)).toNat * 1 ≤ 281474976710656; omega) (by omega) rfl rfl rfl ?_
  rintro pv1 S h2 u2 w2
  have ap1 := w2.box h1
  have h3 := u2.box h1 ap1
  refine Opl.p1 (n := Opl.nil (Evr.seq (Evr.sr rfl (Opl.p1 (n := Opl.nil (Evr.block ?_))))))
  refine Evr.loop (Evr.rounds (n := k) (Inv := fun n tm S => n ≤ k ∧ ∃ (x9_1 : List Bool) (x10_1 : Int) (i2 : Abs.Id) (pv2 : PV), spec_l24Row.l0 n l2 l3 x9_1 x10_1 a0_0 a0_1 a0_2 a0_3 = some r ∧ Has tm [(2, v2), (3, v3), (4, .ptr i2 0), (9, pv2), (10, .lit (.int .i64 x10_1))] ∧ Box (.ptr i2 0) [.lit (.int .i64 a0_0), .lit (.int .i64 a0_1), .lit (.int .i64 a0_2), .lit (.int .i64 a0_3)] S ∧ Vec cBool x9_1 pv2 S ∧ Ap (.ptr i2 0) pv2) ?_ ?_ ?_)
  · exact ⟨Nat.le_refl _, _, _, _, _, H, ⟨rfl, rfl, rfl, rfl, rfl, trivial⟩, h3, h2, ap1⟩
  ·
   rintro tm S ⟨_, _, _, _, _, H, -⟩
   simp [spec_l24Row.l0] at H
  ·
   rintro n1 ih1 tm S ⟨hle, x9_1, x10_1, i2, pv2, H, hh, h4, h5, ap2⟩
   simp only [spec_l24Row.l0] at H
   rw [hh.eq]
   refine Evr.seq (Evr.sr rfl (Opl.p1 (n := Opl.p1 (n := Opl.len (xs := l2) (by exact hv2) K23 rfl rfl rfl rfl (Opl.p1 (n := Opl.nil ?_))))))
   by_cases c4 : x10_1 < (l2.length : Int)
   case neg =>
    rw [if_neg c4] at H
    have e5 : (decide (x10_1 < (l2.length : Int))) = false := by simpa using c4
    try rw [e5]
    refine Evr.condF rfl (Evr.exit rfl (Evr.sr rfl (Opl.p1 (n := Opl.p1 (n := Opl.nil ?_)))))
    obtain rfl := Option.some.inj H
    refine Evr.ret1 Try.func54 rfl ?_
    show Vec _ _ pv2 _
    exact h5
   rw [if_pos c4] at H
   have e2 : (decide (x10_1 < (l2.length : Int))) = true := by simpa using c4
   try rw [e2]
   refine Evr.condT rfl (Evr.skip (Evr.seq (Evr.block ?_)))
   refine Evr.join (fun tm S => ∃ (kq1 : Nat) (x9_2 : List Bool) (i3 : Abs.Id) (pv3 : PV), spec_l24Row.l0 kq1 l2 l3 x9_2 (wrap64 (x10_1 + 1)) a0_0 a0_1 a0_2 a0_3 = some r ∧ kq1 ≤ n1 ∧ Has tm [(2, v2), (3, v3), (4, .ptr i3 0), (9, pv3), (10, .lit (.int .i64 x10_1))] ∧ Box (.ptr i3 0) [.lit (.int .i64 a0_0), .lit (.int .i64 a0_1), .lit (.int .i64 a0_2), .lit (.int .i64 a0_3)] S ∧ Vec cBool x9_2 pv3 S ∧ Ap (.ptr i3 0) pv3) ?_ fun hk1 => ?_
   ·
    rintro tm S ⟨kq1, x9_2, i3, pv3, H, hle, hh, h6, h7, ap3⟩
    rw [hh.eq]
    refine Evr.inBlock (Evr.regionN rfl (Opl.p1 (n := Opl.add (k := .i64) (a := x10_1) (b := 1) K3 rfl rfl rfl rfl (Opl.one (v := .lit (.int .i64 (wrap64 (x10_1 + 1)))) rfl rfl rfl (Opl.nil ?_)))))
    exact ih1 _ (by omega) _ _ ⟨by omega, _, _, _, _, H, ⟨rfl, rfl, rfl, rfl, rfl, trivial⟩, h6, h7, ap3⟩
   ·
    refine Evr.regionD rfl (by kernel_rfl) (Opl.p1 (n := Opl.p1 (n := Opl.p1 (v := .ptr i2 0) (n := Opl.ldb (v := .lit (.int .i64 a0_0)) h4 rfl T3 rfl rfl rfl rfl (Opl.p1 (n := Opl.p1 (n := ?_)))))))
    by_cases c5 : a0_0 = 0
    case pos =>
     rw [if_pos c5] at H
     have e3 : (a0_0 == 0) = true := by simpa using c5
     try rw [e3]
     refine Opl.skp rfl (Opl.skp rfl (Opl.skp rfl (Opl.skp rfl (Opl.skp rfl (Opl.skp rfl (Opl.skp rfl (Opl.skp rfl (Opl.skp rfl (Opl.p1 (n := ?_))))))))))
     obtain ⟨c6, H⟩ := peel H
     obtain ⟨c7, H⟩ := peel H
     refine Opl.idv (M := cBool) (xs := x9_1) (j := x10_1) (v := pv2) h5 rfl rfl (by omega) (by omega) K78 Z4 rfl rfl ?_
     rintro d1 z1 q1 h8 h9
     refine Opl.stv (M := cBool) (xs := x9_1) (j := x10_1) (y := true) (vs := [.lit (.bool true)]) h8 h9 (by omega) (by omega) rfl rfl (by exact rfl) Z4 rfl rfl rfl rfl ?_
     rw [← q1]
     rintro S h10 u3
     have h11 := u3.box h4 ap2
     refine Opl.nil ?_
     exact hk1 _ _ ⟨_, _, _, _, H, by omega, ⟨rfl, rfl, rfl, rfl, rfl, trivial⟩, h11, h10, ap2⟩
    rw [if_neg c5] at H
    have e4 : (a0_0 == 0) = false := by simpa using c5
    try rw [e4]
    refine Opl.p1 (n := Opl.p1 (n := ?_))
    obtain ⟨c8, H⟩ := peel H
    obtain ⟨c9, H⟩ := peel H
    obtain ⟨c10, H⟩ := peel H
    obtain ⟨c11, H⟩ := peel H
    obtain ⟨c12, H⟩ := peel H
    refine Opl.idx (M := (cSl (cInt .i64))) (xs := l3) (j := x10_1) ([] : List Int) (by exact hv3) rfl (by omega) (by omega) K23 Z26 rfl rfl ?_
    rintro p1 q2 h12
    obtain ⟨pv4, rfl, h13⟩ := h12
    refine Opl.lda (pv4) rfl T26 rfl rfl rfl rfl (Opl.p1 (v := .ptr i2 1) (n := Opl.ldb (v := .lit (.int .i64 a0_1)) h4 rfl T3 rfl rfl rfl rfl (Opl.idx (M := (cInt .i64)) (xs := (rd_Lint l3 x10_1)) (j := a0_1) (0 : Int) (by exact h13) rfl (by omega) (by omega) K26 Z3 rfl rfl ?_)))
    rintro p2 q3 h14
    obtain rfl : p2 = [.lit (.int .i64 (rd (rd_Lint l3 x10_1) a0_1))] := h14
    refine Opl.lda (.lit (.int .i64 (rd (rd_Lint l3 x10_1) a0_1))) rfl T3 rfl rfl rfl rfl (Opl.p1 (n := Opl.p1 (n := Opl.idv (M := cBool) (xs := x9_1) (j := x10_1) (v := pv2) h5 rfl rfl (by omega) (by omega) K78 Z4 rfl rfl ?_)))
    rintro d2 z2 q4 h15 h16
    refine Opl.stv (M := cBool) (xs := x9_1) (j := x10_1) (y := (rd (rd_Lint l3 x10_1) a0_1) == 1) (vs := [.lit (.bool ((rd (rd_Lint l3 x10_1) a0_1) == 1))]) h15 h16 (by omega) (by omega) rfl rfl (by exact rfl) Z4 rfl rfl rfl rfl ?_
    rw [← q4]
    rintro S h17 u4
    have h18 := u4.box h4 ap2
    refine Opl.nil ?_
    exact hk1 _ _ ⟨_, _, _, _, H, by omega, ⟨rfl, rfl, rfl, rfl, rfl, trivial⟩, h18, h17, ap2⟩
 rw [if_neg c1] at H
 have e6 : (decide (a0_0 ≤ 1)) = false := by simpa using c1
 try rw [e6]
 refine Evr.condF rfl (Evr.skip (Evr.sr rfl (Opl.p1 (n := Opl.p1 (v := .ptr i1 2) (n := Opl.ldb (v := .lit (.int .i64 a0_2)) h1 rfl T3 rfl rfl rfl rfl ?_)))))
 obtain ⟨c13, H⟩ := peel H
 obtain ⟨c14, H⟩ := peel H
 obtain ⟨c15, H⟩ := peel H
 obtain ⟨c16, H⟩ := peel H
 refine Opl.idx (M := (cSl cBool)) (xs := l1) (j := a0_2) ([] : List Bool) (by exact hv1) rfl (by omega) (by omega) K77 Z78 rfl rfl ?_
 rintro p3 q5 h19
 obtain ⟨pv5, rfl, h20⟩ := h19
 refine Opl.lda (pv5) rfl T78 rfl rfl rfl rfl (Opl.p1 (n := Opl.nil (Evr.sr rfl (Opl.p1 (n := Opl.p1 (v := .ptr i1 3) (n := Opl.ldb (v := .lit (.int .i64 a0_3)) h1 rfl T3 rfl rfl rfl rfl (Opl.idx (M := (cSl cBool)) (xs := l1) (j := a0_3) ([] : List Bool) (by exact hv1) rfl (by omega) (by omega) K77 Z78 rfl rfl ?_)))))))
 rintro p4 q6 h21
 obtain ⟨pv6, rfl, h22⟩ := h21
 refine Opl.lda (pv6) rfl T78 rfl rfl rfl rfl (Opl.p1 (n := Opl.nil (Evr.seq (Evr.sr rfl (Opl.p1 (v := .ptr i1 0) (n := Opl.ldb (v := .lit (.int .i64 a0_0)) h1 rfl T3 rfl rfl rfl rfl (Opl.p1 (n := Opl.nil ?_))))))))
 by_cases c17 : a0_0 = 2
 case pos =>
  rw [if_pos c17] at H
  have e7 : (a0_0 == 2) = true := by simpa using c17
  try rw [e7]
  refine Evr.condT rfl (Evr.sr rfl (Opl.p1 (n := ?_)))
  obtain ⟨t451, h_t451, H⟩ := Option.bind_eq_some_iff.1 H
  refine Opl.calla (spec_l24Not.ev h20 h_t451) rfl rfl rfl rfl ⟨h20.plain, trivial⟩ rfl ?_
  rintro pv7 S h23 u5 w3
  have ap4 := w3.box h1
  have h24 := u5.box h1 ap4
  refine Opl.p1 (n := Opl.nil ?_)
  obtain rfl := Option.some.inj H
  refine Evr.ret1 Try.func54 rfl ?_
  show Vec _ _ pv7 _
  exact h23
 rw [if_neg c17] at H
 have e8 : (a0_0 == 2) = false := by simpa using c17
 try rw [e8]
 refine Evr.condF rfl (Evr.skip (Evr.seq (Evr.sr rfl (Opl.p1 (v := .ptr i1 0) (n := Opl.ldb (v := .lit (.int .i64 a0_0)) h1 rfl T3 rfl rfl rfl rfl (Opl.p1 (n := Opl.nil ?_)))))))
 by_cases c18 : a0_0 = 3
 case pos =>
  rw [if_pos c18] at H
  have e9 : (a0_0 == 3) = true := by simpa using c18
  try rw [e9]
  refine Evr.condT rfl (Evr.sr rfl (Opl.p1 (n := Opl.p1 (n := ?_))))
  obtain ⟨t454, h_t454, H⟩ := Option.bind_eq_some_iff.1 H
  refine Opl.calla (spec_l24Both.ev h20 h22 h_t454) rfl rfl rfl rfl ⟨h20.plain, h22.plain, trivial⟩ rfl ?_
  rintro pv8 S h25 u6 w4
  have ap5 := w4.box h1
  have h26 := u6.box h1 ap5
  refine Opl.p1 (n := Opl.nil ?_)
  obtain rfl := Option.some.inj H
  refine Evr.ret1 Try.func54 rfl ?_
  show Vec _ _ pv8 _
  exact h25
 rw [if_neg c18] at H
 have e10 : (a0_0 == 3) = false := by simpa using c18
 try rw [e10]
 refine Evr.condF rfl (Evr.skip (Evr.seq (Evr.sr rfl (Opl.p1 (v := .ptr i1 0) (n := Opl.ldb (v := .lit (.int .i64 a0_0)) h1 rfl T3 rfl rfl rfl rfl (Opl.p1 (n := Opl.nil ?_)))))))
 by_cases c19 : a0_0 = 4
 case pos =>
  rw [if_pos c19] at H
  have e11 : (a0_0 == 4) = true := by simpa using c19
  try rw [e11]
  refine Evr.condT rfl (Evr.sr rfl (Opl.p1 (n := ?_)))
  obtain ⟨t457, h_t457, H⟩ := Option.bind_eq_some_iff.1 H
  refine Opl.call ((spec_l24Not.ev h20 h_t457).mono fun _ _ h => Out.vec h) rfl rfl rfl rfl ⟨h20.plain, trivial⟩ (by decide) ?_
  rintro pv9 h27
  refine Opl.p1 (n := ?_)
  obtain ⟨t460, h_t460, H⟩ := Option.bind_eq_some_iff.1 H
  refine Opl.call ((spec_l24Not.ev h22 h_t460).mono fun _ _ h => Out.vec h) rfl rfl rfl rfl ⟨h22.plain, trivial⟩ (by decide) ?_
  rintro pv10 h28
  obtain ⟨t463, h_t463, H⟩ := Option.bind_eq_some_iff.1 H
  refine Opl.call ((spec_l24Both.ev h27 h28 h_t463).mono fun _ _ h => Out.vec h) rfl rfl rfl rfl ⟨h27.plain, h28.plain, trivial⟩ (by decide) ?_
  rintro pv11 h29
  obtain ⟨t466, h_t466, H⟩ := Option.bind_eq_some_iff.1 H
  refine Opl.calla (spec_l24Not.ev h29 h_t466) rfl rfl rfl rfl ⟨h29.plain, trivial⟩ rfl ?_
  rintro pv12 S h30 u7 w5
  have ap6 := w5.box h1
  have h31 := u7.box h1 ap6
  refine Opl.p1 (n := Opl.nil ?_)
  obtain rfl := Option.some.inj H
  refine Evr.ret1 Try.func54 rfl ?_
  show Vec _ _ pv12 _
  exact h30
 rw [if_neg c19] at H
 have e12 : (a0_0 == 4) = false := by simpa using c19
 try rw [e12]
 refine Evr.condF rfl (Evr.skip (Evr.seq (Evr.sr rfl (Opl.p1 (v := .ptr i1 0) (n := Opl.ldb (v := .lit (.int .i64 a0_0)) h1 rfl T3 rfl rfl rfl rfl (Opl.p1 (n := Opl.nil ?_)))))))
 by_cases c20 : a0_0 = 5
 case pos =>
  rw [if_pos c20] at H
  have e13 : (a0_0 == 5) = true := by simpa using c20
  try rw [e13]
  refine Evr.condT rfl (Evr.sr rfl (Opl.p1 (n := Opl.p1 (n := ?_))))
  obtain ⟨t469, h_t469, H⟩ := Option.bind_eq_some_iff.1 H
  refine Opl.calla (spec_l4Ahead.ev hv2 h20 h_t469) rfl rfl rfl rfl ⟨hv2.plain, h20.plain, trivial⟩ rfl ?_
  rintro pv13 S h32 u8 w6
  have ap7 := w6.box h1
  have h33 := u8.box h1 ap7
  refine Opl.p1 (n := Opl.nil ?_)
  obtain rfl := Option.some.inj H
  refine Evr.ret1 Try.func54 rfl ?_
  show Vec _ _ pv13 _
  exact h32
 rw [if_neg c20] at H
 have e14 : (a0_0 == 5) = false := by simpa using c20
 try rw [e14]
 refine Evr.condF rfl (Evr.skip (Evr.seq (Evr.sr rfl (Opl.p1 (v := .ptr i1 0) (n := Opl.ldb (v := .lit (.int .i64 a0_0)) h1 rfl T3 rfl rfl rfl rfl (Opl.p1 (n := Opl.nil ?_)))))))
 by_cases c21 : a0_0 = 6
 case pos =>
  rw [if_pos c21] at H
  have e15 : (a0_0 == 6) = true := by simpa using c21
  try rw [e15]
  refine Evr.condT rfl (Evr.sr rfl (Opl.p1 (n := Opl.p1 (n := Opl.p1 (n := ?_)))))
  obtain ⟨t472, h_t472, H⟩ := Option.bind_eq_some_iff.1 H
  refine Opl.calla (spec_l24Until.ev hv2 h20 h22 h_t472) rfl rfl rfl rfl ⟨hv2.plain, h20.plain, h22.plain, trivial⟩ rfl ?_
  rintro pv14 S h34 u9 w7
  have ap8 := w7.box h1
  have h35 := u9.box h1 ap8
  refine Opl.p1 (n := Opl.nil ?_)
  obtain rfl := Option.some.inj H
  refine Evr.ret1 Try.func54 rfl ?_
  show Vec _ _ pv14 _
  exact h34
 rw [if_neg c21] at H
 have e16 : (a0_0 == 6) = false := by simpa using c21
 try rw [e16]
 refine Evr.condF rfl (Evr.skip (Evr.seq (Evr.sr rfl (Opl.p1 (v := .ptr i1 0) (n := Opl.ldb (v := .lit (.int .i64 a0_0)) h1 rfl T3 rfl rfl rfl rfl (Opl.p1 (n := Opl.nil ?_)))))))
 by_cases c22 : a0_0 = 7
 case pos =>
  rw [if_pos c22] at H
  have e17 : (a0_0 == 7) = true := by simpa using c22
  try rw [e17]
  refine Evr.condT rfl (Evr.sr rfl (Opl.p1 (n := Opl.p1 (n := ?_))))
  obtain ⟨t475, h_t475, H⟩ := Option.bind_eq_some_iff.1 H
  refine Opl.calla (spec_l24Stay.ev hv2 h20 h_t475) rfl rfl rfl rfl ⟨hv2.plain, h20.plain, trivial⟩ rfl ?_
  rintro pv15 S h36 u10 w8
  have ap9 := w8.box h1
  have h37 := u10.box h1 ap9
  refine Opl.p1 (n := Opl.nil ?_)
  obtain rfl := Option.some.inj H
  refine Evr.ret1 Try.func54 rfl ?_
  show Vec _ _ pv15 _
  exact h36
 rw [if_neg c22] at H
 have e18 : (a0_0 == 7) = false := by simpa using c22
 try rw [e18]
 refine Evr.condF rfl (Evr.skip (Evr.seq (Evr.sr rfl (Opl.p1 (v := .ptr i1 0) (n := Opl.ldb (v := .lit (.int .i64 a0_0)) h1 rfl T3 rfl rfl rfl rfl (Opl.p1 (n := Opl.nil ?_)))))))
 by_cases c23 : a0_0 = 8
 case pos =>
  rw [if_pos c23] at H
  have e19 : (a0_0 == 8) = true := by simpa using c23
  try rw [e19]
  refine Evr.condT rfl (Evr.sr rfl (Opl.p1 (n := Opl.p1 (n := ?_))))
  obtain ⟨t478, h_t478, H⟩ := Option.bind_eq_some_iff.1 H
  refine Opl.call ((spec_l24Not.ev h20 h_t478).mono fun _ _ h => Out.vec h) rfl rfl rfl rfl ⟨h20.plain, trivial⟩ (by decide) ?_
  rintro pv16 h38
  obtain ⟨t481, h_t481, H⟩ := Option.bind_eq_some_iff.1 H
  refine Opl.call ((spec_l4Ahead.ev hv2 h38 h_t481).mono fun _ _ h => Out.vec h) rfl rfl rfl rfl ⟨hv2.plain, h38.plain, trivial⟩ (by decide) ?_
  rintro pv17 h39
  obtain ⟨t484, h_t484, H⟩ := Option.bind_eq_some_iff.1 H
  refine Opl.calla (spec_l24Not.ev h39 h_t484) rfl rfl rfl rfl ⟨h39.plain, trivial⟩ rfl ?_
  rintro pv18 S h40 u11 w9
  have ap10 := w9.box h1
  have h41 := u11.box h1 ap10
  refine Opl.p1 (n := Opl.nil ?_)
  obtain rfl := Option.some.inj H
  refine Evr.ret1 Try.func54 rfl ?_
  show Vec _ _ pv18 _
  exact h40
 rw [if_neg c23] at H
 have e20 : (a0_0 == 8) = false := by simpa using c23
 try rw [e20]
 refine Evr.condF rfl (Evr.skip (Evr.seq (Evr.sr rfl (Opl.p1 (v := .ptr i1 0) (n := Opl.ldb (v := .lit (.int .i64 a0_0)) h1 rfl T3 rfl rfl rfl rfl (Opl.p1 (n := Opl.nil ?_)))))))
 by_cases c24 : a0_0 = 9
 case pos =>
  rw [if_pos c24] at H
  have e21 : (a0_0 == 9) = true := by simpa using c24
  try rw [e21]
  refine Evr.condT rfl (Evr.sr rfl (Opl.p1 (n := Opl.p1 (n := Opl.p1 (n := ?_)))))
  obtain ⟨t487, h_t487, H⟩ := Option.bind_eq_some_iff.1 H
  refine Opl.calla (spec_l24All.ev hv2 h20 h22 h_t487) rfl rfl rfl rfl ⟨hv2.plain, h20.plain, h22.plain, trivial⟩ rfl ?_
  rintro pv19 S h42 u12 w10
  have ap11 := w10.box h1
  have h43 := u12.box h1 ap11
  refine Opl.p1 (n := Opl.nil ?_)
  obtain rfl := Option.some.inj H
  refine Evr.ret1 Try.func54 rfl ?_
  show Vec _ _ pv19 _
  exact h42
 rw [if_neg c24] at H
 have e22 : (a0_0 == 9) = false := by simpa using c24
 try rw [e22]
 refine Evr.condF rfl (Evr.skip (Evr.sr rfl (Opl.p1 (n := Opl.len (xs := l2) (by exact hv2) K23 rfl rfl rfl rfl ?_))))
 obtain ⟨c25, H⟩ := peel H
 obtain ⟨c26, H⟩ := peel H
 refine Opl.make (M := cBool) (m := (l2.length : Int)) false (by exact rfl) rfl rfl K78 T4 rfl (by omega) (by show ((l2.length : Int)).toNat * 1 ≤ 281474976710656; omega) (by omega) rfl rfl rfl ?_
 rintro pv20 S h44 u13 w11
 have ap12 := w11.box h1
 have h45 := u13.box h1 ap12
 refine Opl.p1 (n := Opl.nil (Evr.seq (Evr.sr rfl (Opl.p1 (n := Opl.nil (Evr.block ?_))))))
 refine Evr.loop (Evr.rounds (n := k) (Inv := fun n tm S => n ≤ k ∧ ∃ (x13_1 : List Bool) (x14_1 : Int) (pv21 : PV), spec_l24Row.l1 n l2 (rd_Lbool l1 a0_2) x13_1 x14_1 = some r ∧ Has tm [(2, v2), (11, pv5), (13, pv21), (14, .lit (.int .i64 x14_1))] ∧ Vec cBool x13_1 pv21 S) ?_ ?_ ?_)
 · exact ⟨Nat.le_refl _, _, _, _, H, ⟨rfl, rfl, rfl, rfl, trivial⟩, h44⟩
 ·
  rintro tm S ⟨_, _, _, _, H, -⟩
  simp [spec_l24Row.l1] at H
 ·
  rintro n2 ih2 tm S ⟨hle, x13_1, x14_1, pv21, H, hh, h46⟩
  simp only [spec_l24Row.l1] at H
  rw [hh.eq]
  refine Evr.seq (Evr.sr rfl (Opl.p1 (n := Opl.p1 (n := Opl.len (xs := l2) (by exact hv2) K23 rfl rfl rfl rfl (Opl.p1 (n := Opl.nil ?_))))))
  by_cases c27 : x14_1 < (l2.length : Int)
  case pos =>
   rw [if_pos c27] at H
   have e23 : (decide (x14_1 < (l2.length : Int))) = true := by simpa using c27
   try rw [e23]
   refine Evr.condT rfl (Evr.skip (Evr.seq (Evr.block (Evr.regionN rfl (Opl.p1 (n := Opl.p1 (n := ?_)))))))
   obtain ⟨c28, H⟩ := peel H
   obtain ⟨c29, H⟩ := peel H
   refine Opl.idv (M := cBool) (xs := x13_1) (j := x14_1) (v := pv21) h46 rfl rfl (by omega) (by omega) K78 Z4 rfl rfl ?_
   rintro d3 z3 q7 h47 h48
   refine Opl.stv (M := cBool) (xs := x13_1) (j := x14_1) (y := true) (vs := [.lit (.bool true)]) h47 h48 (by omega) (by omega) rfl rfl (by exact rfl) Z4 rfl rfl rfl rfl ?_
   rw [← q7]
   rintro S h49 u14
   refine Opl.nil (Evr.inBlock (Evr.regionN rfl (Opl.p1 (n := Opl.add (k := .i64) (a := x14_1) (b := 1) K3 rfl rfl rfl rfl (Opl.one (v := .lit (.int .i64 (wrap64 (x14_1 + 1)))) rfl rfl rfl (Opl.nil ?_))))))
   exact ih2 _ (by omega) _ _ ⟨by omega, _, _, _, H, ⟨rfl, rfl, rfl, rfl, trivial⟩, h49⟩
  rw [if_neg c27] at H
  have e24 : (decide (x14_1 < (l2.length : Int))) = false := by simpa using c27
  try rw [e24]
  refine Evr.condF rfl (Evr.exit rfl (Evr.sr rfl (Opl.p1 (n := Opl.p1 (n := Opl.p1 (n := ?_))))))
  obtain ⟨t494, h_t494, H⟩ := Option.bind_eq_some_iff.1 H
  refine Opl.call ((spec_l24Not.ev h20 h_t494).mono fun _ _ h => Out.vec h) rfl rfl rfl rfl ⟨h20.plain, trivial⟩ (by decide) ?_
  rintro pv22 h50
  obtain ⟨t497, h_t497, H⟩ := Option.bind_eq_some_iff.1 H
  obtain ⟨pv23, h51, -, h52⟩ := Out.vec h46
  refine Opl.callv sBool (spec_l24Until.ev hv2 h52 h50 h_t497) rfl rfl rfl (.cons (.refl _) (.cons h51 (.cons (.refl _) .nil))) ⟨hv2.plain, h52.plain, h50.plain, trivial⟩ (by decide) ?_
  rintro pv24 h53
  obtain ⟨t500, h_t500, H⟩ := Option.bind_eq_some_iff.1 H
  refine Opl.calla (spec_l24Not.ev h53 h_t500) rfl rfl rfl rfl ⟨h53.plain, trivial⟩ rfl ?_
  rintro pv25 S h54 u15 w12
  have ap13 := w12.vec h46
  have h55 := u15.vec h46 ap13
  refine Opl.p1 (n := Opl.nil ?_)
  obtain rfl := Option.some.inj H
  refine Evr.ret1 Try.func54 rfl ?_
  show Vec _ _ pv25 _
  exact h54
theorem spec_l4List.ev {k : Nat} {l0 : List Bool} {v0 : PV} (hv0 : Sl cBool l0 v0) {r : (List Int)} (H : spec_l4List.f k l0 = some r) : Ret Try.prog 55 [v0] fun v S => Vec (cInt .i64) r v S := by
 unfold spec_l4List.f at H
 refine Ret.intro Try.func55 rfl (Nat.le_of_ble_eq_true rfl) rfl ?_
 rw [tm1]
 refine Evr.sr rfl (Opl.p1 (n := Opl.nil (Evr.sr rfl (Opl.lits (M := (cInt .i64)) (ys := []) [] K26 T3 rfl rfl rfl trivial rfl (by decide) rfl rfl rfl ?_))))
 rintro pv1 S h1 u1 w1
 refine Opl.p1 (n := Opl.nil (Evr.seq (Evr.sr rfl (Opl.p1 (n := Opl.nil (Evr.block ?_))))))
 refine Evr.loop (Evr.rounds (n := k) (Inv := fun n tm S => n ≤ k ∧ ∃ (x3_1 : List Int) (x4_1 : Int) (pv2 : PV), spec_l4List.l0 n l0 x3_1 x4_1 = some r ∧ Has tm [(0, v0), (3, pv2), (4, .lit (.int .i64 x4_1))] ∧ Vec (cInt .i64) x3_1 pv2 S) ?_ ?_ ?_)
 · exact ⟨Nat.le_refl _, _, _, _, H, ⟨rfl, rfl, rfl, trivial⟩, h1⟩
 ·
  rintro tm S ⟨_, _, _, _, H, -⟩
  simp [spec_l4List.l0] at H
 ·
  rintro n1 ih1 tm S ⟨hle, x3_1, x4_1, pv2, H, hh, h2⟩
  simp only [spec_l4List.l0] at H
  rw [hh.eq]
  refine Evr.seq (Evr.sr rfl (Opl.p1 (n := Opl.p1 (n := Opl.len (xs := l0) (by exact hv0) K78 rfl rfl rfl rfl (Opl.p1 (n := Opl.nil ?_))))))
  by_cases c1 : x4_1 < (l0.length : Int)
  case neg =>
   rw [if_neg c1] at H
   have e4 : (decide (x4_1 < (l0.length : Int))) = false := by simpa using c1
   try rw [e4]
   refine Evr.condF rfl (Evr.exit rfl (Evr.sr rfl (Opl.p1 (n := Opl.p1 (n := Opl.nil ?_)))))
   obtain rfl := Option.some.inj H
   refine Evr.ret1 Try.func55 rfl ?_
   show Vec _ _ pv2 _
   exact h2
  rw [if_pos c1] at H
  have e1 : (decide (x4_1 < (l0.length : Int))) = true := by simpa using c1
  try rw [e1]
  refine Evr.condT rfl (Evr.skip (Evr.seq (Evr.block (Evr.sr rfl (Opl.p1 (n := Opl.p1 (n := ?_)))))))
  obtain ⟨c2, H⟩ := peel H
  refine Opl.idx (M := cBool) (xs := l0) (j := x4_1) false (by exact hv0) rfl (by omega) (by omega) K78 Z4 rfl rfl ?_
  rintro p1 q1 h3
  obtain rfl : p1 = [.lit (.bool (rdOf false l0 x4_1))] := h3
  refine Opl.lda (.lit (.bool (rdOf false l0 x4_1))) rfl T4 rfl rfl rfl rfl (Opl.nil ?_)
  refine Evr.join (fun tm S => ∃ (kq1 : Nat) (x3_2 : List Int) (pv3 : PV), spec_l4List.l0 kq1 l0 x3_2 (wrap64 (x4_1 + 1)) = some r ∧ kq1 ≤ n1 ∧ Has tm [(0, v0), (3, pv3), (4, .lit (.int .i64 x4_1))] ∧ Vec (cInt .i64) x3_2 pv3 S) ?_ fun hk1 => ?_
  ·
   rintro tm S ⟨kq1, x3_2, pv3, H, hle, hh, h4⟩
   rw [hh.eq]
   refine Evr.inBlock (Evr.regionN rfl (Opl.p1 (n := Opl.add (k := .i64) (a := x4_1) (b := 1) K3 rfl rfl rfl rfl (Opl.one (v := .lit (.int .i64 (wrap64 (x4_1 + 1)))) rfl rfl rfl (Opl.nil ?_)))))
   exact ih1 _ (by omega) _ _ ⟨by omega, _, _, _, H, ⟨rfl, rfl, rfl, trivial⟩, h4⟩
  ·
   by_cases c3 : rdOf false l0 x4_1 = true
   case neg =>
    rw [if_neg c3] at H
    have e3 : (rdOf false l0 x4_1) = false := by simpa using c3
    try rw [e3]
    refine Evr.condF rfl (Evr.skip ?_)
    exact hk1 _ _ ⟨_, _, _, H, by omega, ⟨rfl, rfl, rfl, trivial⟩, h2⟩
   rw [if_pos c3] at H
   have e2 : (rdOf false l0 x4_1) = true := by simpa using c3
   try rw [e2]
   refine Evr.condT rfl (Evr.regionN rfl (Opl.p1 (n := Opl.p1 (n := Opl.lits (M := (cInt .i64)) (ys := [x4_1]) [.tmp 17] K26 T3 rfl rfl rfl (by exact ⟨rfl, trivial⟩) rfl (by decide) rfl rfl rfl ?_))))
   rintro pv4 S h5 u2 w2
   have ap1 := w2.vec h2
   have h6 := u2.vec h2 ap1
   obtain ⟨c4, H⟩ := peel H
   refine Opl.app (M := (cInt .i64)) (xs := x3_1) (ys := [x4_1]) (v := pv2) h6 (.vec h5) (oInt .i64) rfl rfl K26 T3 rfl rfl (by (try simp only [List.length_cons, List.length_nil]); omega) (by show (_ + _) * 8 ≤ 140737488355328; (try simp only [List.length_cons, List.length_nil]); omega) rfl rfl rfl rfl rfl ?_
   rintro pv5 S h7 u3 w3
   have ap2 := w3.vec h5
   have h8 := u3.vec h5 ap1.symm
   refine Opl.p1 (n := Opl.nil ?_)
   exact hk1 _ _ ⟨_, _, _, H, by omega, ⟨rfl, rfl, rfl, trivial⟩, h7⟩
theorem spec_TreesOn.ev {k : Nat} {l0_0 : List (List Int)} {v0_0 : PV} (hv0_0 : Sl (cSl (cInt .i64)) l0_0 v0_0) {a0_1 : Int} {l0_2 : List (List Int)} {v0_2 : PV} (hv0_2 : Sl (cSl (cInt .i64)) l0_2 v0_2) {a1 : Int} {l2 : List ITree} {v2 : PV} (hv2 : Sl cITree l2 v2) {r : (List Int)} (H : spec_TreesOn.f k l0_0 a0_1 l0_2 a1 l2 = some r) : Ret Try.prog 21 [.agg [v0_0, .lit (.int .i64 a0_1), v0_2], .lit (.int .i64 a1), v2] fun v S => Vec (cInt .i64) r v S := by
 unfold spec_TreesOn.f at H
 refine Ret.intro Try.func21 rfl (Nat.le_of_ble_eq_true rfl) rfl ?_
 rw [tm3]
 refine Evr.sr rfl (Opl.box (cs := [v0_0, .lit (.int .i64 a0_1), v0_2]) rfl rfl rfl rfl ?_)
 rintro i1 S h1 u1 w1
 refine Opl.p1 (n := Opl.nil (Evr.seq (Evr.seq ?_)))
 refine Evr.join (fun tm S => ∃ (kq1 : Nat) (x18_1 : Bool) (i2 : Abs.Id), spec_TreesOn.j0 kq1 l2 x18_1 l0_0 a0_1 l0_2 = some r ∧ Has tm [(2, v2), (3, .ptr i2 0), (18, .lit (.bool x18_1))] ∧ Box (.ptr i2 0) [v0_0, .lit (.int .i64 a0_1), v0_2] S) ?_ fun hk1 => ?_
 ·
  rintro tm S ⟨kq1, x18_1, i2, H, hh, h2⟩
  rw [hh.eq]
  obtain _ | k1 := kq1
  · simp [spec_TreesOn.j0] at H
  simp only [spec_TreesOn.j0] at H
  by_cases c1 : x18_1 = true
  case pos =>
   rw [if_pos c1] at H
   obtain rfl : x18_1 = true := by simpa using c1
   refine Evr.condT rfl (Evr.sr rfl (Opl.p1 (n := Opl.nil ?_)))
   obtain rfl := Option.some.inj H
   refine Evr.ret1 Try.func21 rfl ?_
   show Vec _ _ (.lit (.slice none 0 0)) _
   exact .nil
  rw [if_neg c1] at H
  obtain rfl : x18_1 = false := by simpa using c1
  refine Evr.condF rfl (Evr.skip (Evr.sr rfl (Opl.lits (M := (cSl cBool)) (ys := []) [] K77 T78 rfl rfl rfl trivial rfl (by decide) rfl rfl rfl ?_)))
  rintro pv1 S h3 u2 w2
  have ap1 := w2.box h2
  have h4 := u2.box h2 ap1
  refine Opl.p1 (n := Opl.nil (Evr.seq (Evr.sr rfl (Opl.p1 (n := Opl.nil (Evr.block ?_))))))
  refine Evr.loop (Evr.rounds (n := k1) (Inv := fun n tm S => n ≤ k1 ∧ ∃ (x7_1 : List (List Bool)) (x8_1 : Int) (i3 : Abs.Id) (pv2 : PV), spec_TreesOn.l0 n l2 x7_1 x8_1 l0_0 a0_1 l0_2 = some r ∧ Has tm [(2, v2), (3, .ptr i3 0), (7, pv2), (8, .lit (.int .i64 x8_1))] ∧ Box (.ptr i3 0) [v0_0, .lit (.int .i64 a0_1), v0_2] S ∧ Vec (cSl cBool) x7_1 pv2 S ∧ Ap (.ptr i3 0) pv2) ?_ ?_ ?_)
  · exact ⟨Nat.le_refl _, _, _, _, _, H, ⟨rfl, rfl, rfl, rfl, trivial⟩, h4, h3, ap1⟩
  ·
   rintro tm S ⟨_, _, _, _, _, H, -⟩
   simp [spec_TreesOn.l0] at H
  ·
   rintro n1 ih1 tm S ⟨hle, x7_1, x8_1, i3, pv2, H, hh, h5, h6, ap2⟩
   simp only [spec_TreesOn.l0] at H
   rw [hh.eq]
   refine Evr.seq (Evr.sr rfl (Opl.p1 (n := Opl.p1 (n := Opl.len (xs := l2) (by exact hv2) K45 rfl rfl rfl rfl (Opl.p1 (n := Opl.nil ?_))))))
   by_cases c2 : x8_1 < (l2.length : Int)
   case neg =>
    rw [if_neg c2] at H
    have e2 : (decide (x8_1 < (l2.length : Int))) = false := by simpa using c2
    try rw [e2]
    refine Evr.condF rfl (Evr.exit rfl (Evr.sr rfl (Opl.p1 (n := Opl.p1 (n := Opl.lenv (xs := x7_1) (by exact h6) K77 rfl rfl rfl rfl (Opl.subi (k := .i64) (a := (x7_1.length : Int)) (b := 1) K3 rfl rfl rfl rfl ?_))))))
    obtain ⟨c5, H⟩ := peel H
    obtain ⟨c6, H⟩ := peel H
    refine Opl.idv (M := (cSl cBool)) (xs := x7_1) (j := (wrap64 ((x7_1.length : Int) - 1))) (v := pv2) h6 rfl rfl (by omega) (by omega) K77 Z78 rfl rfl ?_
    rintro d1 z1 q2 h17 h18
    refine Opl.ldv (M := (cSl cBool)) (xs := x7_1) (j := (wrap64 ((x7_1.length : Int) - 1))) ([] : List Bool) h17 h18 (by omega) (by omega) rfl T78 rfl rfl rfl ?_
    rintro p2 q3 h19
    obtain ⟨pv7, rfl, h20⟩ := h19
    refine ⟨pv7, rfl, ?_⟩
    obtain ⟨t524, h_t524, H⟩ := Option.bind_eq_some_iff.1 H
    refine Opl.calla (spec_l4List.ev h20 h_t524) rfl rfl rfl rfl ⟨h20.plain, trivial⟩ rfl ?_
    rintro pv8 S h21 u5 w5
    have ap7 := w5.box h5
    have h22 := u5.box h5 ap7
    have ap8 := w5.vec h6
    have h23 := u5.vec h6 ap8
    refine Opl.one (v := pv8) rfl rfl rfl (Opl.nil ?_)
    obtain rfl := Option.some.inj H
    refine Evr.ret1 Try.func21 rfl ?_
    show Vec _ _ pv8 _
    exact h21
   rw [if_pos c2] at H
   have e1 : (decide (x8_1 < (l2.length : Int))) = true := by simpa using c2
   try rw [e1]
   refine Evr.condT rfl (Evr.skip (Evr.seq (Evr.block (Evr.regionD rfl (by kernel_rfl) (Opl.p1 (n := Opl.p1 (n := Opl.p1 (n := ?_))))))))
   obtain ⟨c3, H⟩ := peel H
   refine Opl.idx (M := cITree) (xs := l2) (j := x8_1) zITree (by exact hv2) rfl (by omega) (by omega) K45 Z80 rfl rfl ?_
   rintro p1 q1 h7
   obtain rfl := cITree_R (x := (rd_ITree l2 x8_1)) h7
   refine Opl.lda (.agg [.lit (.int .i64 ((rd_ITree l2 x8_1).f0)), .lit (.int .i64 ((rd_ITree l2 x8_1).f1)), .lit (.int .i64 ((rd_ITree l2 x8_1).f2)), .lit (.int .i64 ((rd_ITree l2 x8_1).f3))]) rfl T80 rfl rfl rfl rfl (Opl.p1 (n := Opl.p1 (v := .ptr i3 2) (n := Opl.ldb (v := v0_2) h5 rfl T23 rfl rfl rfl rfl (Opl.p1 (v := .ptr i3 0) (n := Opl.ldb (v := v0_0) h5 rfl T23 rfl rfl rfl rfl ?_)))))
   obtain ⟨t517, h_t517, H⟩ := Option.bind_eq_some_iff.1 H
   obtain ⟨pv3, h8, -, h9⟩ := Out.vec h6
   refine Opl.callv sBool (spec_l24Row.ev h9 hv0_2 hv0_0 h_t517) rfl rfl rfl (.cons (.refl _) (.cons h8 (.cons (.refl _) (.cons (.refl _) .nil)))) ⟨(.aggL ⟨(.lit _), (.lit _), (.lit _), (.lit _), trivial⟩), h9.plain, hv0_2.plain, hv0_0.plain, trivial⟩ (by decide) ?_
   rintro pv4 h10
   refine Opl.lits (M := (cSl cBool)) (ys := [t517]) [.tmp 36] K77 T78 rfl rfl rfl (by exact ⟨⟨_, by first | rfl | exact h10.cells, h10⟩, trivial⟩) rfl (by decide) rfl rfl rfl ?_
   rintro pv5 S h11 u3 w3
   have ap3 := w3.box h5
   have h12 := u3.box h5 ap3
   have ap4 := w3.vec h6
   have h13 := u3.vec h6 ap4
   obtain ⟨c4, H⟩ := peel H
   refine Opl.app (M := (cSl cBool)) (xs := x7_1) (ys := [t517]) (v := pv2) h13 (.vec h11) (oSl cBool) rfl rfl K77 T78 rfl rfl (by (try simp only [List.length_cons, List.length_nil]); omega) (by show (_ + _) * 24 ≤ 140737488355328; (try simp only [List.length_cons, List.length_nil]); omega) rfl rfl rfl rfl rfl ?_
   rintro pv6 S h14 u4 w4
   have ap5 := w4.box h12
   have h15 := u4.box h12 ap2
   have ap6 := w4.vec h11
   have h16 := u4.vec h11 ap4.symm
   refine Opl.p1 (n := Opl.nil (Evr.inBlock (Evr.regionN rfl (Opl.p1 (n := Opl.add (k := .i64) (a := x8_1) (b := 1) K3 rfl rfl rfl rfl (Opl.one (v := .lit (.int .i64 (wrap64 (x8_1 + 1)))) rfl rfl rfl (Opl.nil ?_)))))))
   exact ih1 _ (by omega) _ _ ⟨by omega, _, _, _, _, H, ⟨rfl, rfl, rfl, rfl, trivial⟩, h15, h14, ap5⟩
 ·
  refine Evr.regionN rfl (Opl.ldb (v := .agg [v0_0, .lit (.int .i64 a0_1), v0_2]) h1 rfl T43 rfl rfl rfl rfl (Opl.p1 (n := ?_)))
  obtain ⟨t511, h_t511, H⟩ := Option.bind_eq_some_iff.1 H
  refine Opl.callc (spec_GraphValid.ev hv0_0 hv0_2 h_t511) rfl rfl rfl rfl ⟨(.aggL ⟨hv0_0.plain, (.lit _), hv0_2.plain, trivial⟩), (.lit _), trivial⟩ (by decide) (Opl.p1 (n := Opl.p1 (n := ?_)))
  by_cases c7 : t511 = true
  case neg =>
   rw [if_neg c7] at H
   have e4 : (!t511) = true := by simpa using c7
   try rw [e4]
   refine Opl.skp rfl (Opl.skp rfl (Opl.skp rfl (Opl.skp rfl (Opl.p1 (n := Opl.nil ?_)))))
   exact hk1 _ _ ⟨_, _, _, H, ⟨rfl, rfl, (by first | rfl | (show PV.lit (.bool _) = _; congr 2; simp_all)), trivial⟩, h1⟩
  rw [if_pos c7] at H
  have e3 : (!t511) = false := by simpa using c7
  try rw [e3]
  refine Opl.p1 (n := Opl.p1 (n := ?_))
  obtain ⟨t512, h_t512, H⟩ := Option.bind_eq_some_iff.1 H
  refine Opl.callc (spec_TreesValid.ev hv2 h_t512) rfl rfl rfl rfl ⟨hv2.plain, (.lit _), trivial⟩ (by decide) (Opl.p1 (n := Opl.p1 (n := Opl.nil ?_)))
  exact hk1 _ _ ⟨_, _, _, H, ⟨rfl, rfl, (by first | rfl | (show PV.lit (.bool _) = _; congr 2; simp_all)), trivial⟩, h1⟩
end Go.Proofs.Ytikjlbanfbkhmaa.PA
