/- Walks of Go functions: each is shown to answer as the Lean function beside it tells, under the conditions that its theorem names. -/
import Derived.Test.YtigbbefdndcmbaaProg
import Derived.KernelRfl
import Derived.Below
import Derived.Deep.Draws
import Derived.Deep.AppendLies
import Derived.Maps.AppendAt
import Derived.OwnWalk
import Derived.Laws.BytesArg
import Derived.Laws.MakeOwn
import Derived.Laws.OwnMore
import Derived.Deep.OwnRows
import Derived.Tactics
import Derived.Lib.ConvBytes
import Derived.Laws.Slices
import Derived.WalkKit
import Derived.RowKit3
import Derived.Deep.LoopGhost
import Derived.Deep.QuietTactic
import Derived.BigQuiet
import Derived.WideLaws
import Derived.Deep.DeepCutAuto
import Derived.Deep.CutBlock
import Derived.Deep.RegionHeld3
import Derived.Laws.Rows
import Derived.Lib.AppendStr
import Derived.ArgAppend
import Derived.Laws.IdiomCopy
import Derived.OrdersHeld
import Derived.Laws.BitsLemmas
import Derived.RowKit
import Derived.Laws.StructEq
import Derived.Lib.SliceRun
import Derived.WalkSpells
import Derived.ChangeArms
import Derived.ChangeSlices
import Derived.Deep.Slices
import Derived.Attr
import Derived.Laws.Append
import Derived.Laws.AppendOwn
import Derived.Laws.Entries
import Derived.Calls
import Derived.Laws.Sem
import Derived.Test.YtigbbefdndcmbaaKP8860966450
namespace Go.Proofs.Ytigbbefdndcmbaa.PA
open Go Go.Abs Go.RowKit Go.Proofs Go.Proofs.YtigbbefdndcmbaaW.PrintWords Go.Proofs.YtigbbefdndcmbaaW.PrintLast Go.Proofs.YtigbbefdndcmbaaW.PrintMore
set_option maxRecDepth 100000
set_option maxHeartbeats 4000000
set_option linter.unusedVariables false
set_option linter.unusedSimpArgs false
theorem spec_l11Abs.ev {a0 : Int} {r : Int} (H : spec_l11Abs.f a0 = some r) : Ret Try.prog 70 [.lit (.int .i64 a0)] fun v S => v = .lit (.int .i64 r) := by
 unfold spec_l11Abs.f at H
 refine Ret.intro Try.func70 rfl (Nat.le_of_ble_eq_true rfl) rfl ?_
 rw [tm1]
 refine Evr.sr rfl (Opl.p1 (n := Opl.nil (Evr.seq (Evr.sr rfl (Opl.p1 (n := Opl.p1 (n := Opl.nil ?_)))))))
 by_cases c1 : a0 < 0
 case neg =>
  rw [if_neg c1] at H
  have e2 : (decide (a0 < 0)) = false := by simpa using c1
  try rw [e2]
  refine Evr.condF rfl (Evr.skip (Evr.sr rfl (Opl.p1 (n := Opl.p1 (n := Opl.nil ?_)))))
  obtain rfl := Option.some.inj H
  refine Evr.ret1 Try.func70 rfl ?_
  show (.lit (.int .i64 a0) : PV) = _
  first | rfl | (simp only [go_sem]; rfl)
 rw [if_pos c1] at H
 have e1 : (decide (a0 < 0)) = true := by simpa using c1
 try rw [e1]
 refine Evr.condT rfl (Evr.sr rfl (Opl.p1 (n := Opl.one (v := .lit (.int .i64 (wrap64 (-a0)))) rfl rfl (by simp only [go_sem, Int.zero_sub, w64]; rfl) (Opl.one (v := .lit (.int .i64 (wrap64 (-a0)))) rfl rfl rfl (Opl.nil ?_)))))
 obtain rfl := Option.some.inj H
 refine Evr.ret1 Try.func70 rfl ?_
 show (.lit (.int .i64 (wrap64 (-a0))) : PV) = _
 first | rfl | (simp only [go_sem]; rfl)
theorem spec_l1In.ev {a0 : Int} {a1 : Int} {a2 : Int} {r : Bool} (H : spec_l1In.f a0 a1 a2 = some r) : Ret Try.prog 31 [.lit (.int .i64 a0), .lit (.int .i64 a1), .lit (.int .i64 a2)] fun v S => v = .lit (.bool r) := by
 unfold spec_l1In.f at H
 refine Ret.intro Try.func31 rfl (Nat.le_of_ble_eq_true rfl) rfl ?_
 rw [tm3]
 refine Evr.sr rfl (Opl.p1 (n := Opl.nil (Evr.sr rfl (Opl.p1 (n := Opl.p1 (n := Opl.p1 (n := Opl.p1 (n := ?_))))))))
 by_cases c1 : a0 ≥ a1
 case neg =>
  rw [if_neg c1] at H
  have e2 : (decide (a0 ≥ a1)) = false := by simpa using c1
  try rw [e2]
  refine Opl.skp rfl (Opl.skp rfl (Opl.skp rfl (Opl.p1 (n := Opl.p1 (n := Opl.nil ?_)))))
  obtain rfl := Option.some.inj H
  refine Evr.ret1 Try.func31 rfl ?_
  show (.lit (.bool false) : PV) = _
  first | rfl | (simp only [go_sem]; rfl)
 rw [if_pos c1] at H
 have e1 : (decide (a0 ≥ a1)) = true := by simpa using c1
 try rw [e1]
 refine Opl.p1 (n := Opl.p1 (n := Opl.p1 (n := Opl.p1 (n := Opl.p1 (n := Opl.nil ?_)))))
 obtain rfl := Option.some.inj H
 refine Evr.ret1 Try.func31 rfl ?_
 show (.lit (.bool (decide (a0 ≤ a2))) : PV) = _
 first | rfl | (simp only [go_sem]; rfl)
theorem spec_l11Lit.ev {a0 : Int} {a1 : Int} {r : Bool} (H : spec_l11Lit.f a0 a1 = some r) : Ret Try.prog 32 [.lit (.int .i64 a0), .lit (.int .i64 a1)] fun v S => v = .lit (.bool r) := by
 unfold spec_l11Lit.f at H
 refine Ret.intro Try.func32 rfl (Nat.le_of_ble_eq_true rfl) rfl ?_
 rw [tm2]
 refine Evr.sr rfl (Opl.p1 (n := Opl.nil (Evr.sr rfl (Opl.p1 (n := Opl.p1 (n := Opl.p1 (n := ?_)))))))
 by_cases c1 : a0 = 0
 case pos =>
  rw [if_pos c1] at H
  have e1 : (a0 != 0) = false := by simpa using c1
  try rw [e1]
  refine Opl.skp rfl (Opl.skp rfl (Opl.skp rfl (Opl.skp rfl (Opl.skp rfl (Opl.p1 (n := Opl.p1 (n := Opl.nil ?_)))))))
  obtain rfl := Option.some.inj H
  refine Evr.ret1 Try.func32 rfl ?_
  show (.lit (.bool false) : PV) = _
  first | rfl | (simp only [go_sem]; rfl)
 rw [if_neg c1] at H
 have e2 : (a0 != 0) = true := by simpa using c1
 try rw [e2]
 refine Opl.p1 (n := Opl.p1 (n := Opl.one (v := .lit (.int .i64 (wrap64 (-a1)))) rfl rfl (by simp only [go_sem, Int.zero_sub, w64]; rfl) (Opl.one (v := .lit (.int .i64 a1)) rfl rfl rfl ?_)))
 obtain ⟨t101, h_t101, H⟩ := Option.bind_eq_some_iff.1 H
 refine Opl.callc (spec_l1In.ev h_t101) rfl rfl rfl rfl ⟨(.lit _), (.lit _), (.lit _), trivial⟩ (by decide) (Opl.p1 (n := Opl.one (v := .lit (.bool t101)) rfl rfl rfl (Opl.nil ?_)))
 obtain rfl := Option.some.inj H
 refine Evr.ret1 Try.func32 rfl ?_
 show (.lit (.bool t101) : PV) = _
 first | rfl | (simp only [go_sem]; rfl)
theorem spec_ClauseValid.ev {k : Nat} {l0 : List Int} {v0 : PV} (hv0 : Sl (cInt .i64) l0 v0) {a1 : Int} {r : Bool} (H : spec_ClauseValid.f k l0 a1 = some r) : Ret Try.prog 38 [v0, .lit (.int .i64 a1)] fun v S => v = .lit (.bool r) := by
 unfold spec_ClauseValid.f at H
 refine Ret.intro Try.func38 rfl (Nat.le_of_ble_eq_true rfl) rfl ?_
 rw [tm2]
 refine Evr.sr rfl (Opl.p1 (n := Opl.nil (Evr.seq (Evr.sr rfl (Opl.p1 (n := Opl.nil (Evr.block ?_)))))))
 refine Evr.loop (Evr.rounds (n := k) (Inv := fun n tm S => n ≤ k ∧ ∃ (x5_1 : Int), spec_ClauseValid.l0 n l0 a1 x5_1 = some r ∧ Has tm [(0, v0), (1, .lit (.int .i64 a1)), (5, .lit (.int .i64 x5_1))]) ?_ ?_ ?_)
 · exact ⟨Nat.le_refl _, _, H, ⟨rfl, rfl, rfl, trivial⟩⟩
 ·
  rintro tm S ⟨_, _, H, -⟩
  simp [spec_ClauseValid.l0] at H
 ·
  rintro n1 ih1 tm S ⟨hle, x5_1, H, hh⟩
  simp only [spec_ClauseValid.l0] at H
  rw [hh.eq]
  refine Evr.seq (Evr.sr rfl (Opl.p1 (n := Opl.p1 (n := Opl.len (xs := l0) (by exact hv0) K22 rfl rfl rfl rfl (Opl.p1 (n := Opl.nil ?_))))))
  by_cases c1 : x5_1 < (l0.length : Int)
  case neg =>
   rw [if_neg c1] at H
   have e6 : (decide (x5_1 < (l0.length : Int))) = false := by simpa using c1
   try rw [e6]
   refine Evr.condF rfl (Evr.exit rfl (Evr.sr rfl (Opl.p1 (n := ?_))))
   obtain ⟨t271, h_t271, H⟩ := Option.bind_eq_some_iff.1 H
   refine Opl.callc (spec_l1In.ev h_t271) rfl rfl rfl rfl ⟨(.lit _), (.lit _), (.lit _), trivial⟩ (by decide) (Opl.p1 (n := Opl.nil ?_))
   obtain rfl := Option.some.inj H
   refine Evr.ret1 Try.func38 rfl ?_
   show (.lit (.bool t271) : PV) = _
   first | rfl | (simp only [go_sem]; rfl)
  rw [if_pos c1] at H
  have e1 : (decide (x5_1 < (l0.length : Int))) = true := by simpa using c1
  try rw [e1]
  refine Evr.condT rfl (Evr.skip (Evr.seq (Evr.block (Evr.seq ?_))))
  refine Evr.join (fun tm S => ∃ (kq1 : Nat) (x36_1 : Bool), spec_ClauseValid.j1 kq1 l0 a1 x5_1 x36_1 = some r ∧ kq1 ≤ n1 ∧ Has tm [(0, v0), (1, .lit (.int .i64 a1)), (5, .lit (.int .i64 x5_1)), (36, .lit (.bool x36_1))]) ?_ fun hk1 => ?_
  ·
   rintro tm S ⟨kq1, x36_1, H, hle, hh⟩
   rw [hh.eq]
   obtain _ | k1 := kq1
   · simp [spec_ClauseValid.j1] at H
   simp only [spec_ClauseValid.j1] at H
   by_cases c2 : x36_1 = true
   case pos =>
    rw [if_pos c2] at H
    obtain rfl : x36_1 = true := by simpa using c2
    refine Evr.condT rfl (Evr.sr rfl (Opl.p1 (n := Opl.nil ?_)))
    obtain rfl := Option.some.inj H
    refine Evr.ret1 Try.func38 rfl ?_
    show (.lit (.bool false) : PV) = _
    first | rfl | (simp only [go_sem]; rfl)
   rw [if_neg c2] at H
   obtain rfl : x36_1 = false := by simpa using c2
   refine Evr.condF rfl (Evr.skip (Evr.inBlock (Evr.regionN rfl (Opl.p1 (n := Opl.add (k := .i64) (a := x5_1) (b := 1) K3 rfl rfl rfl rfl (Opl.one (v := .lit (.int .i64 (wrap64 (x5_1 + 1)))) rfl rfl rfl (Opl.nil ?_)))))))
   exact ih1 _ (by omega) _ _ ⟨by omega, _, H, ⟨rfl, rfl, rfl, trivial⟩⟩
  ·
   refine Evr.regionD rfl (by kernel_rfl) (Opl.p1 (n := Opl.p1 (n := ?_)))
   obtain ⟨c3, H⟩ := peel H
   refine Opl.idx (M := (cInt .i64)) (xs := l0) (j := x5_1) (0 : Int) (by exact hv0) rfl (by omega) (by omega) K22 Z3 rfl rfl ?_
   rintro p1 q1 h1
   obtain rfl : p1 = [.lit (.int .i64 (rd l0 x5_1))] := h1
   refine Opl.lda (.lit (.int .i64 (rd l0 x5_1))) rfl T3 rfl rfl rfl rfl (Opl.p1 (n := ?_))
   obtain ⟨t266, h_t266, H⟩ := Option.bind_eq_some_iff.1 H
   refine Opl.callc (spec_l11Lit.ev h_t266) rfl rfl rfl rfl ⟨(.lit _), (.lit _), trivial⟩ (by decide) (Opl.p1 (n := Opl.p1 (n := ?_)))
   by_cases c4 : t266 = true
   case neg =>
    rw [if_neg c4] at H
    have e5 : (!t266) = true := by simpa using c4
    try rw [e5]
    refine Opl.skp rfl (Opl.skp rfl (Opl.skp rfl (Opl.skp rfl (Opl.skp rfl (Opl.skp rfl (Opl.skp rfl (Opl.skp rfl (Opl.skp rfl (Opl.skp rfl (Opl.skp rfl (Opl.skp rfl (Opl.skp rfl (Opl.skp rfl (Opl.skp rfl (Opl.skp rfl (Opl.p1 (n := Opl.nil ?_)))))))))))))))))
    exact hk1 _ _ ⟨_, _, H, by omega, ⟨rfl, rfl, rfl, (by first | rfl | (show PV.lit (.bool _) = _; congr 2; simp_all)), trivial⟩⟩
   rw [if_pos c4] at H
   have e2 : (!t266) = false := by simpa using c4
   try rw [e2]
   refine Opl.p1 (n := Opl.p1 (n := Opl.p1 (n := ?_)))
   by_cases c5 : x5_1 > 0
   case neg =>
    rw [if_neg c5] at H
    have e4 : (decide (x5_1 > 0)) = false := by simpa using c5
    try rw [e4]
    refine Opl.skp rfl (Opl.skp rfl (Opl.skp rfl (Opl.skp rfl (Opl.skp rfl (Opl.skp rfl (Opl.skp rfl (Opl.skp rfl (Opl.skp rfl (Opl.skp rfl (Opl.skp rfl (Opl.skp rfl (Opl.p1 (n := Opl.p1 (n := Opl.nil ?_))))))))))))))
    exact hk1 _ _ ⟨_, _, H, by omega, ⟨rfl, rfl, rfl, (by first | rfl | (show PV.lit (.bool _) = _; congr 2; simp_all)), trivial⟩⟩
   rw [if_pos c5] at H
   have e3 : (decide (x5_1 > 0)) = true := by simpa using c5
   try rw [e3]
   refine Opl.p1 (n := Opl.p1 (n := Opl.idx (M := (cInt .i64)) (xs := l0) (j := x5_1) (0 : Int) (by exact hv0) rfl (by omega) (by omega) K22 Z3 rfl rfl ?_))
   rintro p2 q2 h2
   obtain rfl : p2 = [.lit (.int .i64 (rd l0 x5_1))] := h2
   refine Opl.lda (.lit (.int .i64 (rd l0 x5_1))) rfl T3 rfl rfl rfl rfl ?_
   obtain ⟨t268, h_t268, H⟩ := Option.bind_eq_some_iff.1 H
   refine Opl.callc (spec_l11Abs.ev h_t268) rfl rfl rfl rfl ⟨(.lit _), trivial⟩ (by decide) (Opl.p1 (n := Opl.p1 (n := Opl.subi (k := .i64) (a := x5_1) (b := 1) K3 rfl rfl rfl rfl ?_)))
   obtain ⟨c6, H⟩ := peel H
   obtain ⟨c7, H⟩ := peel H
   refine Opl.idx (M := (cInt .i64)) (xs := l0) (j := (wrap64 (x5_1 - 1))) (0 : Int) (by exact hv0) rfl (by omega) (by omega) K22 Z3 rfl rfl ?_
   rintro p3 q3 h3
   obtain rfl : p3 = [.lit (.int .i64 (rd l0 (wrap64 (x5_1 - 1))))] := h3
   refine Opl.lda (.lit (.int .i64 (rd l0 (wrap64 (x5_1 - 1))))) rfl T3 rfl rfl rfl rfl ?_
   obtain ⟨t270, h_t270, H⟩ := Option.bind_eq_some_iff.1 H
   refine Opl.callc (spec_l11Abs.ev h_t270) rfl rfl rfl rfl ⟨(.lit _), trivial⟩ (by decide) (Opl.p1 (n := Opl.p1 (n := Opl.p1 (n := Opl.nil ?_))))
   exact hk1 _ _ ⟨_, _, H, by omega, ⟨rfl, rfl, rfl, (by first | rfl | (show PV.lit (.bool _) = _; congr 2; simp_all)), trivial⟩⟩
theorem spec_l11Clause.ev {k : Nat} {l0 : List Int} {v0 : PV} (hv0 : Sl (cInt .i64) l0 v0) {a1 : Int} {r : (List Int) × Bool} (H : spec_l11Clause.f k l0 a1 = some r) : Ret Try.prog 33 [v0, .lit (.int .i64 a1)] fun v S => Out (fun q => ∃ q1 q2, q = .tup [q1, q2] ∧ Sl (cInt .i64) r.1 q1 ∧ q2 = .lit (.bool r.2)) v S := by
 unfold spec_l11Clause.f at H
 refine Ret.intro Try.func33 rfl (Nat.le_of_ble_eq_true rfl) rfl ?_
 rw [tm2]
 refine Evr.sr rfl (Opl.p1 (n := Opl.p1 (n := Opl.nil (Evr.sr rfl (Opl.p1 (n := Opl.add (k := .i64) (a := a1) (b := 1) K3 rfl rfl rfl rfl ?_))))))
 obtain ⟨c1, H⟩ := peel H
 obtain ⟨c2, H⟩ := peel H
 refine Opl.make (M := (cInt .i64)) (m := (wrap64 (a1 + 1))) (0 : Int) (by exact rfl) rfl rfl K22 T3 rfl (by omega) (by show ((wrap64 (a1 + 1))).toNat * 8 ≤ 281474976710656; omega) (by omega) rfl rfl rfl ?_
 rintro pv1 S h1 u1 w1
 refine Opl.one (v := pv1) rfl rfl rfl (Opl.nil (Evr.seq (Evr.sr rfl (Opl.one (v := .lit (.int .i64 0)) rfl rfl rfl (Opl.nil (Evr.block ?_))))))
 refine Evr.loop (Evr.rounds (n := k) (Inv := fun n tm S => n ≤ k ∧ ∃ (x6_1 : List Int) (x7_1 : Int) (pv2 : PV), spec_l11Clause.l1 n x6_1 x7_1 l0 a1 = some r ∧ Has tm [(0, v0), (1, .lit (.int .i64 a1)), (6, pv2), (7, .lit (.int .i64 x7_1))] ∧ Vec (cInt .i64) x6_1 pv2 S) ?_ ?_ ?_)
 · exact ⟨Nat.le_refl _, _, _, _, H, ⟨rfl, rfl, rfl, rfl, trivial⟩, h1⟩
 ·
  rintro tm S ⟨_, _, _, _, H, -⟩
  simp [spec_l11Clause.l1] at H
 ·
  rintro n1 ih1 tm S ⟨hle, x6_1, x7_1, pv2, H, hh, h2⟩
  simp only [spec_l11Clause.l1] at H
  rw [hh.eq]
  refine Evr.seq (Evr.sr rfl (Opl.p1 (n := Opl.p1 (n := Opl.len (xs := l0) (by exact hv0) K22 rfl rfl rfl rfl (Opl.p1 (n := Opl.nil ?_))))))
  by_cases c3 : x7_1 < (l0.length : Int)
  case neg =>
   rw [if_neg c3] at H
   have e6 : (decide (x7_1 < (l0.length : Int))) = false := by simpa using c3
   try rw [e6]
   refine Evr.condF rfl (Evr.exit rfl (Evr.sr rfl (Opl.lits (M := (cInt .i64)) (ys := []) [] K22 T3 rfl rfl rfl trivial rfl (by decide) rfl rfl rfl ?_)))
   rintro pv4 S h16 u3 w2
   have ap1 := w2.vec h2
   have h17 := u3.vec h2 ap1
   refine Opl.p1 (n := Opl.nil (Evr.seq (Evr.sr rfl (Opl.p1 (n := Opl.nil (Evr.block ?_))))))
   refine Evr.loop (Evr.rounds (n := n1) (Inv := fun n tm S => n ≤ n1 ∧ ∃ (x9q4_1 : List Int) (x10q4_1 : Int) (pv5 : PV) (pv6 : PV), spec_l11Clause.l3 n x9q4_1 x10q4_1 a1 x6_1 = some r ∧ Has tm [(1, .lit (.int .i64 a1)), (6, pv5), (9, pv6), (10, .lit (.int .i64 x10q4_1))] ∧ Vec (cInt .i64) x6_1 pv5 S ∧ Vec (cInt .i64) x9q4_1 pv6 S ∧ Ap pv5 pv6) ?_ ?_ ?_)
   · exact ⟨Nat.le_refl _, _, _, _, _, H, ⟨rfl, rfl, rfl, rfl, trivial⟩, h17, h16, ap1⟩
   ·
    rintro tm S ⟨_, _, _, _, _, H, -⟩
    simp [spec_l11Clause.l3] at H
   ·
    rintro n2 ih2 tm S ⟨hle, x9q4_1, x10q4_1, pv5, pv6, H, hh, h18, h19, ap2⟩
    simp only [spec_l11Clause.l3] at H
    rw [hh.eq]
    refine Evr.seq (Evr.sr rfl (Opl.p1 (n := Opl.p1 (n := Opl.p1 (n := Opl.nil ?_)))))
    by_cases c18 : x10q4_1 ≤ a1
    case neg =>
     rw [if_neg c18] at H
     have e10 : (decide (x10q4_1 ≤ a1)) = false := by simpa using c18
     try rw [e10]
     refine Evr.condF rfl (Evr.exit rfl (Evr.sr rfl (Opl.p1 (n := Opl.p1 (n := Opl.p1 (n := Opl.nil ?_))))))
     obtain rfl := Option.some.inj H
     refine Evr.ret2 Try.func33 rfl ?_
     show Out _ (.tup [pv6, .lit (.bool true)]) _
     exact .tup2 (.vec h19) .lit
    rw [if_pos c18] at H
    have e7 : (decide (x10q4_1 ≤ a1)) = true := by simpa using c18
    try rw [e7]
    refine Evr.condT rfl (Evr.skip (Evr.seq (Evr.block (Evr.sr rfl (Opl.p1 (n := Opl.p1 (n := ?_)))))))
    obtain ⟨c19, H⟩ := peel H
    obtain ⟨c20, H⟩ := peel H
    refine Opl.idv (M := (cInt .i64)) (xs := x6_1) (j := x10q4_1) (v := pv5) h18 rfl rfl (by omega) (by omega) K22 Z3 rfl rfl ?_
    rintro d4 z4 q9 h20 h21
    refine Opl.ldv (M := (cInt .i64)) (xs := x6_1) (j := x10q4_1) (0 : Int) h20 h21 (by omega) (by omega) rfl T3 rfl rfl rfl ?_
    rintro p6 q10 h22
    obtain rfl : p6 = [.lit (.int .i64 (rd x6_1 x10q4_1))] := h22
    refine ⟨.lit (.int .i64 (rd x6_1 x10q4_1)), rfl, ?_⟩
    refine Opl.p1 (n := Opl.nil ?_)
    refine Evr.join (fun tm S => ∃ (kq2 : Nat) (x9q4_2 : List Int) (pv7 : PV) (pv8 : PV), spec_l11Clause.l3 kq2 x9q4_2 (wrap64 (x10q4_1 + 1)) a1 x6_1 = some r ∧ kq2 ≤ n2 ∧ Has tm [(1, .lit (.int .i64 a1)), (6, pv7), (9, pv8), (10, .lit (.int .i64 x10q4_1))] ∧ Vec (cInt .i64) x6_1 pv7 S ∧ Vec (cInt .i64) x9q4_2 pv8 S ∧ Ap pv7 pv8) ?_ fun hk2 => ?_
    ·
     rintro tm S ⟨kq2, x9q4_2, pv7, pv8, H, hle, hh, h23, h24, ap3⟩
     rw [hh.eq]
     refine Evr.inBlock (Evr.regionN rfl (Opl.p1 (n := Opl.add (k := .i64) (a := x10q4_1) (b := 1) K3 rfl rfl rfl rfl (Opl.one (v := .lit (.int .i64 (wrap64 (x10q4_1 + 1)))) rfl rfl rfl (Opl.nil ?_)))))
     exact ih2 _ (by omega) _ _ ⟨by omega, _, _, _, _, H, ⟨rfl, rfl, rfl, rfl, trivial⟩, h23, h24, ap3⟩
    ·
     by_cases c21 : (rd x6_1 x10q4_1) ≠ 0
     case neg =>
      rw [if_neg c21] at H
      have e9 : ((rd x6_1 x10q4_1) != 0) = false := by simpa using c21
      try rw [e9]
      refine Evr.condF rfl (Evr.skip ?_)
      exact hk2 _ _ ⟨_, _, _, _, H, by omega, ⟨rfl, rfl, rfl, rfl, trivial⟩, h18, h19, ap2⟩
     rw [if_pos c21] at H
     have e8 : ((rd x6_1 x10q4_1) != 0) = true := by simpa using c21
     try rw [e8]
     refine Evr.condT rfl (Evr.regionN rfl (Opl.p1 (n := Opl.p1 (n := Opl.p1 (n := ?_)))))
     obtain ⟨c22, H⟩ := peel H
     obtain ⟨c23, H⟩ := peel H
     obtain ⟨c24, H⟩ := peel H
     refine Opl.idv (M := (cInt .i64)) (xs := x6_1) (j := x10q4_1) (v := pv5) h18 rfl rfl (by omega) (by omega) K22 Z3 rfl rfl ?_
     rintro d5 z5 q11 h25 h26
     refine Opl.ldv (M := (cInt .i64)) (xs := x6_1) (j := x10q4_1) (0 : Int) h25 h26 (by omega) (by omega) rfl T3 rfl rfl rfl ?_
     rintro p7 q12 h27
     obtain rfl : p7 = [.lit (.int .i64 (rd x6_1 x10q4_1))] := h27
     refine ⟨.lit (.int .i64 (rd x6_1 x10q4_1)), rfl, ?_⟩
     refine Opl.liti (M := (cInt .i64)) (ys := [(rd x6_1 x10q4_1)]) [.tmp 63] K22 T3 rfl rfl rfl (by exact ⟨rfl, trivial⟩) rfl (by decide) rfl rfl ?_
     rintro pv10 h28
     refine Opl.app (M := (cInt .i64)) (xs := x9q4_1) (ys := [(rd x6_1 x10q4_1)]) (v := pv6) h19 (.sl h28) (oInt .i64) rfl rfl K22 T3 rfl rfl (by (try simp only [List.length_cons, List.length_nil]); omega) (by show (_ + _) * 8 ≤ 140737488355328; (try simp only [List.length_cons, List.length_nil]); omega) rfl rfl rfl rfl rfl ?_
     rintro pv11 S h29 u4 w3
     have ap4 := w3.vec h18
     have h30 := u4.vec h18 ap2
     refine Opl.p1 (n := Opl.nil ?_)
     exact hk2 _ _ ⟨_, _, _, _, H, by omega, ⟨rfl, rfl, rfl, rfl, trivial⟩, h30, h29, ap4⟩
  rw [if_pos c3] at H
  have e1 : (decide (x7_1 < (l0.length : Int))) = true := by simpa using c3
  try rw [e1]
  refine Evr.condT rfl (Evr.skip (Evr.seq (Evr.block (Evr.sr rfl (Opl.p1 (n := Opl.p1 (n := ?_)))))))
  obtain ⟨c4, H⟩ := peel H
  obtain ⟨c5, H⟩ := peel H
  refine Opl.idx (M := (cInt .i64)) (xs := l0) (j := x7_1) (0 : Int) (by exact hv0) rfl (by omega) (by omega) K22 Z3 rfl rfl ?_
  rintro p1 q1 h3
  obtain rfl : p1 = [.lit (.int .i64 (rd l0 x7_1))] := h3
  refine Opl.lda (.lit (.int .i64 (rd l0 x7_1))) rfl T3 rfl rfl rfl rfl ?_
  obtain ⟨r1, h_r1, H⟩ := Option.bind_eq_some_iff.1 H
  refine Opl.callc (spec_l11Abs.ev h_r1) rfl rfl rfl rfl ⟨(.lit _), trivial⟩ (by decide) (Opl.p1 (n := Opl.nil (Evr.seq (Evr.seq ?_))))
  refine Evr.join2 (fun tm S => ∃ (kq1 : Nat) (pv3 : PV), spec_l11Clause.j2 kq1 l0 a1 x6_1 x7_1 r1 = some r ∧ kq1 ≤ n1 ∧ Has tm [(0, v0), (1, .lit (.int .i64 a1)), (6, pv3), (7, .lit (.int .i64 x7_1)), (8, .lit (.int .i64 r1))] ∧ Vec (cInt .i64) x6_1 pv3 S) ?_ fun hk1 => ?_
  ·
   rintro tm S ⟨kq1, pv3, H, hle, hh, h4⟩
   rw [hh.eq]
   refine Evr.regionN rfl (Opl.p1 (n := Opl.p1 (n := Opl.p1 (n := Opl.p1 (n := ?_)))))
   obtain _ | k1 := kq1
   · simp [spec_l11Clause.j2] at H
   simp only [spec_l11Clause.j2] at H
   obtain ⟨c6, H⟩ := peel H
   obtain ⟨c7, H⟩ := peel H
   obtain ⟨c8, H⟩ := peel H
   obtain ⟨c9, H⟩ := peel H
   refine Opl.idx (M := (cInt .i64)) (xs := l0) (j := x7_1) (0 : Int) (by exact hv0) rfl (by omega) (by omega) K22 Z3 rfl rfl ?_
   rintro p2 q2 h5
   obtain rfl : p2 = [.lit (.int .i64 (rd l0 x7_1))] := h5
   refine Opl.lda (.lit (.int .i64 (rd l0 x7_1))) rfl T3 rfl rfl rfl rfl (Opl.idv (M := (cInt .i64)) (xs := x6_1) (j := r1) (v := pv3) h4 rfl rfl (by omega) (by omega) K22 Z3 rfl rfl ?_)
   rintro d1 z1 q3 h6 h7
   refine Opl.stv (M := (cInt .i64)) (xs := x6_1) (j := r1) (y := (rd l0 x7_1)) (vs := [.lit (.int .i64 (rd l0 x7_1))]) h6 h7 (by omega) (by omega) rfl rfl (by exact rfl) Z3 rfl rfl rfl rfl ?_
   rw [← q3]
   rintro S h8 u2
   refine Opl.nil (Evr.inBlock (Evr.regionN rfl (Opl.p1 (n := Opl.add (k := .i64) (a := x7_1) (b := 1) K3 rfl rfl rfl rfl (Opl.one (v := .lit (.int .i64 (wrap64 (x7_1 + 1)))) rfl rfl rfl (Opl.nil ?_))))))
   exact ih1 _ (by omega) _ _ ⟨by omega, _, _, _, H, ⟨rfl, rfl, rfl, rfl, trivial⟩, h8⟩
  ·
   refine Evr.regionD rfl (by kernel_rfl) (Opl.p1 (n := Opl.p1 (n := ?_)))
   obtain ⟨c10, H⟩ := peel H
   obtain ⟨c11, H⟩ := peel H
   refine Opl.idv (M := (cInt .i64)) (xs := x6_1) (j := r1) (v := pv2) h2 rfl rfl (by omega) (by omega) K22 Z3 rfl rfl ?_
   rintro d2 z2 q4 h9 h10
   refine Opl.ldv (M := (cInt .i64)) (xs := x6_1) (j := r1) (0 : Int) h9 h10 (by omega) (by omega) rfl T3 rfl rfl rfl ?_
   rintro p3 q5 h11
   obtain rfl : p3 = [.lit (.int .i64 (rd x6_1 r1))] := h11
   refine ⟨.lit (.int .i64 (rd x6_1 r1)), rfl, ?_⟩
   refine Opl.p1 (n := Opl.p1 (n := ?_))
   by_cases c12 : (rd x6_1 r1) ≠ 0
   case neg =>
    rw [if_neg c12] at H
    have e5 : ((rd x6_1 r1) != 0) = false := by simpa using c12
    try rw [e5]
    refine Opl.skp rfl (Opl.skp rfl (Opl.skp rfl (Opl.skp rfl (Opl.skp rfl (Opl.skp rfl (Opl.skp rfl (Opl.skp rfl (Opl.skp rfl (Opl.p1 (n := Opl.nil (Evr.condF rfl (Evr.skip ?_))))))))))))
    exact hk1 _ _ ⟨_, _, H, by omega, ⟨rfl, rfl, rfl, rfl, rfl, trivial⟩, h2⟩
   rw [if_pos c12] at H
   have e2 : ((rd x6_1 r1) != 0) = true := by simpa using c12
   try rw [e2]
   refine Opl.p1 (n := Opl.p1 (n := ?_))
   obtain ⟨c13, H⟩ := peel H
   obtain ⟨c14, H⟩ := peel H
   obtain ⟨c15, H⟩ := peel H
   obtain ⟨c16, H⟩ := peel H
   refine Opl.idv (M := (cInt .i64)) (xs := x6_1) (j := r1) (v := pv2) h2 rfl rfl (by omega) (by omega) K22 Z3 rfl rfl ?_
   rintro d3 z3 q6 h12 h13
   refine Opl.ldv (M := (cInt .i64)) (xs := x6_1) (j := r1) (0 : Int) h12 h13 (by omega) (by omega) rfl T3 rfl rfl rfl ?_
   rintro p4 q7 h14
   obtain rfl : p4 = [.lit (.int .i64 (rd x6_1 r1))] := h14
   refine ⟨.lit (.int .i64 (rd x6_1 r1)), rfl, ?_⟩
   refine Opl.p1 (n := Opl.p1 (n := Opl.idx (M := (cInt .i64)) (xs := l0) (j := x7_1) (0 : Int) (by exact hv0) rfl (by omega) (by omega) K22 Z3 rfl rfl ?_))
   rintro p5 q8 h15
   obtain rfl : p5 = [.lit (.int .i64 (rd l0 x7_1))] := h15
   refine Opl.lda (.lit (.int .i64 (rd l0 x7_1))) rfl T3 rfl rfl rfl rfl (Opl.p1 (n := Opl.p1 (n := Opl.nil ?_)))
   by_cases c17 : (rd x6_1 r1) ≠ (rd l0 x7_1)
   case neg =>
    rw [if_neg c17] at H
    have e4 : ((rd x6_1 r1) != (rd l0 x7_1)) = false := by simpa using c17
    try rw [e4]
    refine Evr.condF rfl (Evr.skip ?_)
    exact hk1 _ _ ⟨_, _, H, by omega, ⟨rfl, rfl, rfl, rfl, rfl, trivial⟩, h2⟩
   rw [if_pos c17] at H
   have e3 : ((rd x6_1 r1) != (rd l0 x7_1)) = true := by simpa using c17
   try rw [e3]
   refine Evr.condT rfl (Evr.sr rfl (Opl.p1 (n := Opl.p1 (n := Opl.nil ?_))))
   obtain rfl := Option.some.inj H
   refine Evr.ret2 Try.func33 rfl ?_
   show Out _ (.tup [.lit (.slice none 0 0), .lit (.bool false)]) _
   exact .tup2 (.sl .nil) .lit
theorem spec_l3Copy.ev {k : Nat} {l0 : List Int} {v0 : PV} (hv0 : Sl (cInt .i64) l0 v0) {r : (List Int)} (H : spec_l3Copy.f k l0 = some r) : Ret Try.prog 79 [v0] fun v S => Vec (cInt .i64) r v S := by
 unfold spec_l3Copy.f at H
 refine Ret.intro Try.func79 rfl (Nat.le_of_ble_eq_true rfl) rfl ?_
 rw [tm1]
 refine Evr.sr rfl (Opl.p1 (n := Opl.nil (Evr.sr rfl (Opl.lits (M := (cInt .i64)) (ys := []) [] K22 T3 rfl rfl rfl trivial rfl (by decide) rfl rfl rfl ?_))))
 rintro pv1 S h1 u1 w1
 refine Opl.p1 (n := Opl.nil (Evr.seq (Evr.sr rfl (Opl.p1 (n := Opl.nil (Evr.block ?_))))))
 refine Evr.loop (Evr.rounds (n := k) (Inv := fun n tm S => n ≤ k ∧ ∃ (x3_1 : List Int) (x4_1 : Int) (pv2 : PV), spec_l3Copy.l0 n l0 x3_1 x4_1 = some r ∧ Has tm [(0, v0), (3, pv2), (4, .lit (.int .i64 x4_1))] ∧ Vec (cInt .i64) x3_1 pv2 S) ?_ ?_ ?_)
 · exact ⟨Nat.le_refl _, _, _, _, H, ⟨rfl, rfl, rfl, trivial⟩, h1⟩
 ·
  rintro tm S ⟨_, _, _, _, H, -⟩
  simp [spec_l3Copy.l0] at H
 ·
  rintro n1 ih1 tm S ⟨hle, x3_1, x4_1, pv2, H, hh, h2⟩
  simp only [spec_l3Copy.l0] at H
  rw [hh.eq]
  refine Evr.seq (Evr.sr rfl (Opl.p1 (n := Opl.p1 (n := Opl.len (xs := l0) (by exact hv0) K22 rfl rfl rfl rfl (Opl.p1 (n := Opl.nil ?_))))))
  by_cases c1 : x4_1 < (l0.length : Int)
  case neg =>
   rw [if_neg c1] at H
   have e2 : (decide (x4_1 < (l0.length : Int))) = false := by simpa using c1
   try rw [e2]
   refine Evr.condF rfl (Evr.exit rfl (Evr.sr rfl (Opl.p1 (n := Opl.p1 (n := Opl.nil ?_)))))
   obtain rfl := Option.some.inj H
   refine Evr.ret1 Try.func79 rfl ?_
   show Vec _ _ pv2 _
   exact h2
  rw [if_pos c1] at H
  have e1 : (decide (x4_1 < (l0.length : Int))) = true := by simpa using c1
  try rw [e1]
  refine Evr.condT rfl (Evr.skip (Evr.seq (Evr.block (Evr.regionN rfl (Opl.p1 (n := Opl.p1 (n := Opl.p1 (n := ?_))))))))
  obtain ⟨c2, H⟩ := peel H
  obtain ⟨c3, H⟩ := peel H
  refine Opl.idx (M := (cInt .i64)) (xs := l0) (j := x4_1) (0 : Int) (by exact hv0) rfl (by omega) (by omega) K22 Z3 rfl rfl ?_
  rintro p1 q1 h3
  obtain rfl : p1 = [.lit (.int .i64 (rd l0 x4_1))] := h3
  refine Opl.lda (.lit (.int .i64 (rd l0 x4_1))) rfl T3 rfl rfl rfl rfl (Opl.lits (M := (cInt .i64)) (ys := [(rd l0 x4_1)]) [.tmp 16] K22 T3 rfl rfl rfl (by exact ⟨rfl, trivial⟩) rfl (by decide) rfl rfl rfl ?_)
  rintro pv3 S h4 u2 w2
  have ap1 := w2.vec h2
  have h5 := u2.vec h2 ap1
  refine Opl.app (M := (cInt .i64)) (xs := x3_1) (ys := [(rd l0 x4_1)]) (v := pv2) h5 (.vec h4) (oInt .i64) rfl rfl K22 T3 rfl rfl (by (try simp only [List.length_cons, List.length_nil]); omega) (by show (_ + _) * 8 ≤ 140737488355328; (try simp only [List.length_cons, List.length_nil]); omega) rfl rfl rfl rfl rfl ?_
  rintro pv4 S h6 u3 w3
  have ap2 := w3.vec h4
  have h7 := u3.vec h4 ap1.symm
  refine Opl.p1 (n := Opl.nil (Evr.inBlock (Evr.regionN rfl (Opl.p1 (n := Opl.add (k := .i64) (a := x4_1) (b := 1) K3 rfl rfl rfl rfl (Opl.one (v := .lit (.int .i64 (wrap64 (x4_1 + 1)))) rfl rfl rfl (Opl.nil ?_)))))))
  exact ih1 _ (by omega) _ _ ⟨by omega, _, _, _, H, ⟨rfl, rfl, rfl, trivial⟩, h6⟩
theorem spec_l11Join.ev {k : Nat} {l0 : List Int} {v0 : PV} (hv0 : Sl (cInt .i64) l0 v0) {l1 : List Int} {v1 : PV} (hv1 : Sl (cInt .i64) l1 v1) {r : (List Int)} (H : spec_l11Join.f k l0 l1 = some r) : Ret Try.prog 40 [v0, v1] fun v S => Vec (cInt .i64) r v S := by
 unfold spec_l11Join.f at H
 refine Ret.intro Try.func40 rfl (Nat.le_of_ble_eq_true rfl) rfl ?_
 rw [tm2]
 refine Evr.sr rfl (Opl.p1 (n := Opl.nil (Evr.sr rfl (Opl.p1 (n := ?_)))))
 obtain ⟨t280, h_t280, H⟩ := Option.bind_eq_some_iff.1 H
 refine Opl.calla (spec_l3Copy.ev hv0 h_t280) rfl rfl rfl rfl ⟨hv0.plain, trivial⟩ rfl ?_
 rintro pv1 S h1 u1 w1
 refine Opl.p1 (n := Opl.nil (Evr.seq (Evr.sr rfl (Opl.p1 (n := Opl.nil (Evr.block ?_))))))
 refine Evr.loop (Evr.rounds (n := k) (Inv := fun n tm S => n ≤ k ∧ ∃ (x5_1 : List Int) (x6_1 : Int) (pv2 : PV), spec_l11Join.l0 n l1 x5_1 x6_1 = some r ∧ Has tm [(1, v1), (5, pv2), (6, .lit (.int .i64 x6_1))] ∧ Vec (cInt .i64) x5_1 pv2 S) ?_ ?_ ?_)
 · exact ⟨Nat.le_refl _, _, _, _, H, ⟨rfl, rfl, rfl, trivial⟩, h1⟩
 ·
  rintro tm S ⟨_, _, _, _, H, -⟩
  simp [spec_l11Join.l0] at H
 ·
  rintro n1 ih1 tm S ⟨hle, x5_1, x6_1, pv2, H, hh, h2⟩
  simp only [spec_l11Join.l0] at H
  rw [hh.eq]
  refine Evr.seq (Evr.sr rfl (Opl.p1 (n := Opl.p1 (n := Opl.len (xs := l1) (by exact hv1) K22 rfl rfl rfl rfl (Opl.p1 (n := Opl.nil ?_))))))
  by_cases c1 : x6_1 < (l1.length : Int)
  case neg =>
   rw [if_neg c1] at H
   have e2 : (decide (x6_1 < (l1.length : Int))) = false := by simpa using c1
   try rw [e2]
   refine Evr.condF rfl (Evr.exit rfl (Evr.sr rfl (Opl.p1 (n := Opl.p1 (n := Opl.nil ?_)))))
   obtain rfl := Option.some.inj H
   refine Evr.ret1 Try.func40 rfl ?_
   show Vec _ _ pv2 _
   exact h2
  rw [if_pos c1] at H
  have e1 : (decide (x6_1 < (l1.length : Int))) = true := by simpa using c1
  try rw [e1]
  refine Evr.condT rfl (Evr.skip (Evr.seq (Evr.block (Evr.regionN rfl (Opl.p1 (n := Opl.p1 (n := Opl.p1 (n := ?_))))))))
  obtain ⟨c2, H⟩ := peel H
  obtain ⟨c3, H⟩ := peel H
  refine Opl.idx (M := (cInt .i64)) (xs := l1) (j := x6_1) (0 : Int) (by exact hv1) rfl (by omega) (by omega) K22 Z3 rfl rfl ?_
  rintro p1 q1 h3
  obtain rfl : p1 = [.lit (.int .i64 (rd l1 x6_1))] := h3
  refine Opl.lda (.lit (.int .i64 (rd l1 x6_1))) rfl T3 rfl rfl rfl rfl (Opl.lits (M := (cInt .i64)) (ys := [(rd l1 x6_1)]) [.tmp 19] K22 T3 rfl rfl rfl (by exact ⟨rfl, trivial⟩) rfl (by decide) rfl rfl rfl ?_)
  rintro pv3 S h4 u2 w2
  have ap1 := w2.vec h2
  have h5 := u2.vec h2 ap1
  refine Opl.app (M := (cInt .i64)) (xs := x5_1) (ys := [(rd l1 x6_1)]) (v := pv2) h5 (.vec h4) (oInt .i64) rfl rfl K22 T3 rfl rfl (by (try simp only [List.length_cons, List.length_nil]); omega) (by show (_ + _) * 8 ≤ 140737488355328; (try simp only [List.length_cons, List.length_nil]); omega) rfl rfl rfl rfl rfl ?_
  rintro pv4 S h6 u3 w3
  have ap2 := w3.vec h4
  have h7 := u3.vec h4 ap1.symm
  refine Opl.p1 (n := Opl.nil (Evr.inBlock (Evr.regionN rfl (Opl.p1 (n := Opl.add (k := .i64) (a := x6_1) (b := 1) K3 rfl rfl rfl rfl (Opl.one (v := .lit (.int .i64 (wrap64 (x6_1 + 1)))) rfl rfl rfl (Opl.nil ?_)))))))
  exact ih1 _ (by omega) _ _ ⟨by omega, _, _, _, H, ⟨rfl, rfl, rfl, trivial⟩, h6⟩
theorem spec_l11Without.ev {k : Nat} {l0 : List Int} {v0 : PV} (hv0 : Sl (cInt .i64) l0 v0) {a1 : Int} {r : (List Int)} (H : spec_l11Without.f k l0 a1 = some r) : Ret Try.prog 41 [v0, .lit (.int .i64 a1)] fun v S => Vec (cInt .i64) r v S := by
 unfold spec_l11Without.f at H
 refine Ret.intro Try.func41 rfl (Nat.le_of_ble_eq_true rfl) rfl ?_
 rw [tm2]
 refine Evr.sr rfl (Opl.p1 (n := Opl.nil (Evr.sr rfl (Opl.lits (M := (cInt .i64)) (ys := []) [] K22 T3 rfl rfl rfl trivial rfl (by decide) rfl rfl rfl ?_))))
 rintro pv1 S h1 u1 w1
 refine Opl.p1 (n := Opl.nil (Evr.seq (Evr.sr rfl (Opl.p1 (n := Opl.nil (Evr.block ?_))))))
 refine Evr.loop (Evr.rounds (n := k) (Inv := fun n tm S => n ≤ k ∧ ∃ (x5_1 : List Int) (x6_1 : Int) (pv2 : PV), spec_l11Without.l0 n l0 a1 x5_1 x6_1 = some r ∧ Has tm [(0, v0), (1, .lit (.int .i64 a1)), (5, pv2), (6, .lit (.int .i64 x6_1))] ∧ Vec (cInt .i64) x5_1 pv2 S) ?_ ?_ ?_)
 · exact ⟨Nat.le_refl _, _, _, _, H, ⟨rfl, rfl, rfl, rfl, trivial⟩, h1⟩
 ·
  rintro tm S ⟨_, _, _, _, H, -⟩
  simp [spec_l11Without.l0] at H
 ·
  rintro n1 ih1 tm S ⟨hle, x5_1, x6_1, pv2, H, hh, h2⟩
  simp only [spec_l11Without.l0] at H
  rw [hh.eq]
  refine Evr.seq (Evr.sr rfl (Opl.p1 (n := Opl.p1 (n := Opl.len (xs := l0) (by exact hv0) K22 rfl rfl rfl rfl (Opl.p1 (n := Opl.nil ?_))))))
  by_cases c1 : x6_1 < (l0.length : Int)
  case neg =>
   rw [if_neg c1] at H
   have e4 : (decide (x6_1 < (l0.length : Int))) = false := by simpa using c1
   try rw [e4]
   refine Evr.condF rfl (Evr.exit rfl (Evr.sr rfl (Opl.p1 (n := Opl.p1 (n := Opl.nil ?_)))))
   obtain rfl := Option.some.inj H
   refine Evr.ret1 Try.func41 rfl ?_
   show Vec _ _ pv2 _
   exact h2
  rw [if_pos c1] at H
  have e1 : (decide (x6_1 < (l0.length : Int))) = true := by simpa using c1
  try rw [e1]
  refine Evr.condT rfl (Evr.skip (Evr.seq (Evr.block (Evr.sr rfl (Opl.p1 (n := Opl.p1 (n := ?_)))))))
  obtain ⟨c2, H⟩ := peel H
  refine Opl.idx (M := (cInt .i64)) (xs := l0) (j := x6_1) (0 : Int) (by exact hv0) rfl (by omega) (by omega) K22 Z3 rfl rfl ?_
  rintro p1 q1 h3
  obtain rfl : p1 = [.lit (.int .i64 (rd l0 x6_1))] := h3
  refine Opl.lda (.lit (.int .i64 (rd l0 x6_1))) rfl T3 rfl rfl rfl rfl (Opl.p1 (n := Opl.p1 (n := Opl.nil ?_)))
  refine Evr.join (fun tm S => ∃ (kq1 : Nat) (x5_2 : List Int) (pv3 : PV), spec_l11Without.l0 kq1 l0 a1 x5_2 (wrap64 (x6_1 + 1)) = some r ∧ kq1 ≤ n1 ∧ Has tm [(0, v0), (1, .lit (.int .i64 a1)), (5, pv3), (6, .lit (.int .i64 x6_1))] ∧ Vec (cInt .i64) x5_2 pv3 S) ?_ fun hk1 => ?_
  ·
   rintro tm S ⟨kq1, x5_2, pv3, H, hle, hh, h4⟩
   rw [hh.eq]
   refine Evr.inBlock (Evr.regionN rfl (Opl.p1 (n := Opl.add (k := .i64) (a := x6_1) (b := 1) K3 rfl rfl rfl rfl (Opl.one (v := .lit (.int .i64 (wrap64 (x6_1 + 1)))) rfl rfl rfl (Opl.nil ?_)))))
   exact ih1 _ (by omega) _ _ ⟨by omega, _, _, _, H, ⟨rfl, rfl, rfl, rfl, trivial⟩, h4⟩
  ·
   by_cases c3 : (rd l0 x6_1) = a1
   case pos =>
    rw [if_pos c3] at H
    have e2 : ((rd l0 x6_1) != a1) = false := by simpa using c3
    try rw [e2]
    refine Evr.condF rfl (Evr.skip ?_)
    exact hk1 _ _ ⟨_, _, _, H, by omega, ⟨rfl, rfl, rfl, rfl, trivial⟩, h2⟩
   rw [if_neg c3] at H
   have e3 : ((rd l0 x6_1) != a1) = true := by simpa using c3
   try rw [e3]
   refine Evr.condT rfl (Evr.regionN rfl (Opl.p1 (n := Opl.p1 (n := Opl.p1 (n := ?_)))))
   obtain ⟨c4, H⟩ := peel H
   refine Opl.idx (M := (cInt .i64)) (xs := l0) (j := x6_1) (0 : Int) (by exact hv0) rfl (by omega) (by omega) K22 Z3 rfl rfl ?_
   rintro p2 q2 h5
   obtain rfl : p2 = [.lit (.int .i64 (rd l0 x6_1))] := h5
   refine Opl.lda (.lit (.int .i64 (rd l0 x6_1))) rfl T3 rfl rfl rfl rfl (Opl.lits (M := (cInt .i64)) (ys := [(rd l0 x6_1)]) [.tmp 24] K22 T3 rfl rfl rfl (by exact ⟨rfl, trivial⟩) rfl (by decide) rfl rfl rfl ?_)
   rintro pv4 S h6 u2 w2
   have ap1 := w2.vec h2
   have h7 := u2.vec h2 ap1
   refine Opl.app (M := (cInt .i64)) (xs := x5_1) (ys := [(rd l0 x6_1)]) (v := pv2) h7 (.vec h6) (oInt .i64) rfl rfl K22 T3 rfl rfl (by (try simp only [List.length_cons, List.length_nil]); omega) (by show (_ + _) * 8 ≤ 140737488355328; (try simp only [List.length_cons, List.length_nil]); omega) rfl rfl rfl rfl rfl ?_
   rintro pv5 S h8 u3 w3
   have ap2 := w3.vec h6
   have h9 := u3.vec h6 ap1.symm
   refine Opl.p1 (n := Opl.nil ?_)
   exact hk1 _ _ ⟨_, _, _, H, by omega, ⟨rfl, rfl, rfl, rfl, trivial⟩, h8⟩
theorem spec_l2Has.ev {k : Nat} {l0 : List Int} {v0 : PV} (hv0 : Sl (cInt .i64) l0 v0) {a1 : Int} {r : Bool} (H : spec_l2Has.f k l0 a1 = some r) : Ret Try.prog 39 [v0, .lit (.int .i64 a1)] fun v S => v = .lit (.bool r) := by
 unfold spec_l2Has.f at H
 refine Ret.intro Try.func39 rfl (Nat.le_of_ble_eq_true rfl) rfl ?_
 rw [tm2]
 refine Evr.sr rfl (Opl.p1 (n := Opl.nil (Evr.seq (Evr.sr rfl (Opl.p1 (n := Opl.nil (Evr.block ?_)))))))
 refine Evr.loop (Evr.rounds (n := k) (Inv := fun n tm S => n ≤ k ∧ ∃ (x5_1 : Int), spec_l2Has.l0 n l0 a1 x5_1 = some r ∧ Has tm [(0, v0), (1, .lit (.int .i64 a1)), (5, .lit (.int .i64 x5_1))]) ?_ ?_ ?_)
 · exact ⟨Nat.le_refl _, _, H, ⟨rfl, rfl, rfl, trivial⟩⟩
 ·
  rintro tm S ⟨_, _, H, -⟩
  simp [spec_l2Has.l0] at H
 ·
  rintro n1 ih1 tm S ⟨hle, x5_1, H, hh⟩
  simp only [spec_l2Has.l0] at H
  rw [hh.eq]
  refine Evr.seq (Evr.sr rfl (Opl.p1 (n := Opl.p1 (n := Opl.len (xs := l0) (by exact hv0) K22 rfl rfl rfl rfl (Opl.p1 (n := Opl.nil ?_))))))
  by_cases c1 : x5_1 < (l0.length : Int)
  case neg =>
   rw [if_neg c1] at H
   have e4 : (decide (x5_1 < (l0.length : Int))) = false := by simpa using c1
   try rw [e4]
   refine Evr.condF rfl (Evr.exit rfl (Evr.sr rfl (Opl.p1 (n := Opl.nil ?_))))
   obtain rfl := Option.some.inj H
   refine Evr.ret1 Try.func39 rfl ?_
   show (.lit (.bool false) : PV) = _
   first | rfl | (simp only [go_sem]; rfl)
  rw [if_pos c1] at H
  have e1 : (decide (x5_1 < (l0.length : Int))) = true := by simpa using c1
  try rw [e1]
  refine Evr.condT rfl (Evr.skip (Evr.seq (Evr.block (Evr.sr rfl (Opl.p1 (n := Opl.p1 (n := ?_)))))))
  obtain ⟨c2, H⟩ := peel H
  refine Opl.idx (M := (cInt .i64)) (xs := l0) (j := x5_1) (0 : Int) (by exact hv0) rfl (by omega) (by omega) K22 Z3 rfl rfl ?_
  rintro p1 q1 h1
  obtain rfl : p1 = [.lit (.int .i64 (rd l0 x5_1))] := h1
  refine Opl.lda (.lit (.int .i64 (rd l0 x5_1))) rfl T3 rfl rfl rfl rfl (Opl.p1 (n := Opl.p1 (n := Opl.nil ?_)))
  by_cases c3 : (rd l0 x5_1) = a1
  case pos =>
   rw [if_pos c3] at H
   have e2 : ((rd l0 x5_1) == a1) = true := by simpa using c3
   try rw [e2]
   refine Evr.condT rfl (Evr.sr rfl (Opl.p1 (n := Opl.nil ?_)))
   obtain rfl := Option.some.inj H
   refine Evr.ret1 Try.func39 rfl ?_
   show (.lit (.bool true) : PV) = _
   first | rfl | (simp only [go_sem]; rfl)
  rw [if_neg c3] at H
  have e3 : ((rd l0 x5_1) == a1) = false := by simpa using c3
  try rw [e3]
  refine Evr.condF rfl (Evr.skip (Evr.inBlock (Evr.regionN rfl (Opl.p1 (n := Opl.add (k := .i64) (a := x5_1) (b := 1) K3 rfl rfl rfl rfl (Opl.one (v := .lit (.int .i64 (wrap64 (x5_1 + 1)))) rfl rfl rfl (Opl.nil ?_)))))))
  exact ih1 _ (by omega) _ _ ⟨by omega, _, H, ⟨rfl, rfl, rfl, trivial⟩⟩
theorem spec_Resolved.ev {k : Nat} {l0 : List Int} {v0 : PV} (hv0 : Sl (cInt .i64) l0 v0) {l1 : List Int} {v1 : PV} (hv1 : Sl (cInt .i64) l1 v1) {a2 : Int} {r : (List Int) × Bool} (H : spec_Resolved.f k l0 l1 a2 = some r) : Ret Try.prog 13 [v0, v1, .lit (.int .i64 a2)] fun v S => Out (fun q => ∃ q1 q2, q = .tup [q1, q2] ∧ Sl (cInt .i64) r.1 q1 ∧ q2 = .lit (.bool r.2)) v S := by
 unfold spec_Resolved.f at H
 refine Ret.intro Try.func13 rfl (Nat.le_of_ble_eq_true rfl) rfl ?_
 rw [tm3]
 refine Evr.sr rfl (Opl.p1 (n := Opl.p1 (n := Opl.nil (Evr.seq (Evr.sr rfl (Opl.p1 (n := ?_)))))))
 obtain ⟨r1, h_r1, H⟩ := Option.bind_eq_some_iff.1 H
 refine Opl.callc (spec_ClauseValid.ev hv0 h_r1) rfl rfl rfl rfl ⟨hv0.plain, (.lit _), trivial⟩ (by decide) (Opl.p1 (n := Opl.p1 (n := ?_)))
 by_cases c1 : r1 = true
 case neg =>
  rw [if_neg c1] at H
  have e10 : (!r1) = true := by simpa using c1
  try rw [e10]
  refine Opl.skp rfl (Opl.skp rfl (Opl.skp rfl (Opl.p1 (n := Opl.p1 (n := Opl.skp rfl (Opl.skp rfl (Opl.p1 (n := Opl.p1 (n := Opl.skp rfl (Opl.skp rfl (Opl.skp rfl (Opl.skp rfl (Opl.p1 (n := Opl.p1 (n := Opl.skp rfl (Opl.skp rfl (Opl.skp rfl (Opl.skp rfl (Opl.skp rfl (Opl.p1 (n := Opl.nil (Evr.condT rfl (Evr.sr rfl (Opl.p1 (n := Opl.p1 (n := Opl.nil ?_))))))))))))))))))))))))))
  obtain rfl := Option.some.inj H
  refine Evr.ret2 Try.func13 rfl ?_
  show Out _ (.tup [.lit (.slice none 0 0), .lit (.bool false)]) _
  exact .tup2 (.sl .nil) .lit
 rw [if_pos c1] at H
 have e1 : (!r1) = false := by simpa using c1
 try rw [e1]
 refine Opl.p1 (n := ?_)
 obtain ⟨r2, h_r2, H⟩ := Option.bind_eq_some_iff.1 H
 refine Opl.callc (spec_ClauseValid.ev hv1 h_r2) rfl rfl rfl rfl ⟨hv1.plain, (.lit _), trivial⟩ (by decide) (Opl.p1 (n := Opl.p1 (n := Opl.p1 (n := ?_))))
 by_cases c2 : r2 = true
 case neg =>
  rw [if_neg c2] at H
  have e9 : (!r2) = true := by simpa using c2
  try rw [e9]
  refine Opl.skp rfl (Opl.skp rfl (Opl.p1 (n := Opl.p1 (n := Opl.skp rfl (Opl.skp rfl (Opl.skp rfl (Opl.skp rfl (Opl.p1 (n := Opl.p1 (n := Opl.skp rfl (Opl.skp rfl (Opl.skp rfl (Opl.skp rfl (Opl.skp rfl (Opl.p1 (n := Opl.nil (Evr.condT rfl (Evr.sr rfl (Opl.p1 (n := Opl.p1 (n := Opl.nil ?_)))))))))))))))))))))
  obtain rfl := Option.some.inj H
  refine Evr.ret2 Try.func13 rfl ?_
  show Out _ (.tup [.lit (.slice none 0 0), .lit (.bool false)]) _
  exact .tup2 (.sl .nil) .lit
 rw [if_pos c2] at H
 have e2 : (!r2) = false := by simpa using c2
 try rw [e2]
 refine Opl.p1 (n := Opl.p1 (n := Opl.p1 (n := Opl.p1 (n := ?_))))
 by_cases c3 : a2 < 1
 case pos =>
  rw [if_pos c3] at H
  have e3 : (decide (a2 < 1)) = true := by simpa using c3
  try rw [e3]
  refine Opl.skp rfl (Opl.skp rfl (Opl.skp rfl (Opl.skp rfl (Opl.p1 (n := Opl.p1 (n := Opl.skp rfl (Opl.skp rfl (Opl.skp rfl (Opl.skp rfl (Opl.skp rfl (Opl.p1 (n := Opl.nil (Evr.condT rfl (Evr.sr rfl (Opl.p1 (n := Opl.p1 (n := Opl.nil ?_)))))))))))))))))
  obtain rfl := Option.some.inj H
  refine Evr.ret2 Try.func13 rfl ?_
  show Out _ (.tup [.lit (.slice none 0 0), .lit (.bool false)]) _
  exact .tup2 (.sl .nil) .lit
 rw [if_neg c3] at H
 have e4 : (decide (a2 < 1)) = false := by simpa using c3
 try rw [e4]
 refine Opl.p1 (n := Opl.p1 (n := ?_))
 obtain ⟨r3, h_r3, H⟩ := Option.bind_eq_some_iff.1 H
 refine Opl.callc (spec_l2Has.ev hv0 h_r3) rfl rfl rfl rfl ⟨hv0.plain, (.lit _), trivial⟩ (by decide) (Opl.p1 (n := Opl.p1 (n := Opl.p1 (n := ?_))))
 by_cases c4 : r3 = true
 case neg =>
  rw [if_neg c4] at H
  have e8 : (!r3) = true := by simpa using c4
  try rw [e8]
  refine Opl.skp rfl (Opl.skp rfl (Opl.skp rfl (Opl.skp rfl (Opl.skp rfl (Opl.p1 (n := Opl.nil (Evr.condT rfl (Evr.sr rfl (Opl.p1 (n := Opl.p1 (n := Opl.nil ?_)))))))))))
  obtain rfl := Option.some.inj H
  refine Evr.ret2 Try.func13 rfl ?_
  show Out _ (.tup [.lit (.slice none 0 0), .lit (.bool false)]) _
  exact .tup2 (.sl .nil) .lit
 rw [if_pos c4] at H
 have e5 : (!r3) = false := by simpa using c4
 try rw [e5]
 refine Opl.p1 (n := Opl.p1 (n := Opl.one (v := .lit (.int .i64 (wrap64 (-a2)))) rfl rfl (by simp only [go_sem, Int.zero_sub, w64]; rfl) ?_))
 obtain ⟨r4, h_r4, H⟩ := Option.bind_eq_some_iff.1 H
 refine Opl.callc (spec_l2Has.ev hv1 h_r4) rfl rfl rfl rfl ⟨hv1.plain, (.lit _), trivial⟩ (by decide) (Opl.p1 (n := Opl.p1 (n := Opl.nil ?_)))
 by_cases c5 : r4 = true
 case neg =>
  rw [if_neg c5] at H
  have e7 : (!r4) = true := by simpa using c5
  try rw [e7]
  refine Evr.condT rfl (Evr.sr rfl (Opl.one (v := .lit (.slice none 0 0)) rfl rfl rfl (Opl.one (v := .lit (.bool false)) rfl rfl rfl (Opl.nil ?_))))
  obtain rfl := Option.some.inj H
  refine Evr.ret2 Try.func13 rfl ?_
  show Out _ (.tup [.lit (.slice none 0 0), .lit (.bool false)]) _
  exact .tup2 (.sl .nil) .lit
 rw [if_pos c5] at H
 have e6 : (!r4) = false := by simpa using c5
 try rw [e6]
 refine Evr.condF rfl (Evr.skip (Evr.sr rfl (Opl.one (v := v0) rfl rfl rfl (Opl.one (v := .lit (.int .i64 a2)) rfl rfl rfl ?_))))
 obtain ⟨r5, h_r5, H⟩ := Option.bind_eq_some_iff.1 H
 refine Opl.call ((spec_l11Without.ev hv0 h_r5).mono fun _ _ h => Out.vec h) rfl rfl rfl rfl ⟨hv0.plain, (.lit _), trivial⟩ (by decide) ?_
 rintro pv1 h1
 refine Opl.one (v := v1) rfl rfl rfl (Opl.one (v := .lit (.int .i64 a2)) rfl rfl rfl (Opl.one (v := .lit (.int .i64 (wrap64 (-a2)))) rfl rfl (by simp only [go_sem, Int.zero_sub, w64]; rfl) ?_))
 obtain ⟨r6, h_r6, H⟩ := Option.bind_eq_some_iff.1 H
 refine Opl.call ((spec_l11Without.ev hv1 h_r6).mono fun _ _ h => Out.vec h) rfl rfl rfl rfl ⟨hv1.plain, (.lit _), trivial⟩ (by decide) ?_
 rintro pv2 h2
 obtain ⟨r7, h_r7, H⟩ := Option.bind_eq_some_iff.1 H
 refine Opl.call ((spec_l11Join.ev h1 h2 h_r7).mono fun _ _ h => Out.vec h) rfl rfl rfl rfl ⟨h1.plain, h2.plain, trivial⟩ (by decide) ?_
 rintro pv3 h3
 obtain ⟨r8, h_r8, H⟩ := Option.bind_eq_some_iff.1 H
 refine Opl.call (spec_l11Clause.ev h3 h_r8) rfl rfl rfl rfl ⟨h3.plain, (.lit _), trivial⟩ (by decide) ?_
 rintro _ ⟨pv5, _, rfl, h5, rfl⟩
 refine Opl.p1 (v := pv5) (n := Opl.p1 (v := .lit (.bool r8.2)) (n := Opl.one (v := pv5) rfl rfl rfl (Opl.one (v := .lit (.bool r8.2)) rfl rfl rfl (Opl.nil ?_))))
 obtain rfl := Option.some.inj H
 refine Evr.ret2 Try.func13 rfl ?_
 show Out _ (.tup [pv5, .lit (.bool r8.2)]) _
 exact .tup2 (.sl h5) .lit
end Go.Proofs.Ytigbbefdndcmbaa.PA
