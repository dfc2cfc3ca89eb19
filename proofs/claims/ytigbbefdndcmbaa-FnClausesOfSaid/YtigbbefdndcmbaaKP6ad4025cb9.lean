/- Walks of Go functions: each is shown to answer as the Lean function beside it tells, under the conditions that its theorem names. -/
import Derived.Test.YtigbbefdndcmbaaProg
import Derived.KernelRfl
import Derived.Below
import Derived.Deep.Draws
import Derived.Deep.AppendLies
import Derived.Maps.AppendAt
import Derived.OwnWalk
import Derived.Laws.BytesArg
import Derived.Laws.MakeOwn
import Derived.Laws.OwnMore
import Derived.Deep.OwnRows
import Derived.Tactics
import Derived.Lib.ConvBytes
import Derived.Laws.Slices
import Derived.WalkKit
import Derived.RowKit3
import Derived.Deep.LoopGhost
import Derived.Deep.QuietTactic
import Derived.BigQuiet
import Derived.WideLaws
import Derived.Deep.DeepCutAuto
import Derived.Deep.CutBlock
import Derived.Deep.RegionHeld3
import Derived.Laws.Rows
import Derived.Lib.AppendStr
import Derived.ArgAppend
import Derived.Laws.IdiomCopy
import Derived.OrdersHeld
import Derived.Laws.BitsLemmas
import Derived.RowKit
import Derived.Laws.StructEq
import Derived.Lib.SliceRun
import Derived.WalkSpells
import Derived.ChangeArms
import Derived.ChangeSlices
import Derived.Deep.Slices
import Derived.Attr
import Derived.Laws.Append
import Derived.Laws.AppendOwn
import Derived.Laws.Entries
import Derived.Calls
import Derived.Laws.Sem
import Derived.Test.YtigbbefdndcmbaaKP3e46fb8f6d
namespace Go.Proofs.Ytigbbefdndcmbaa.PA
open Go Go.Abs Go.RowKit Go.Proofs Go.Proofs.YtigbbefdndcmbaaW.PrintWords Go.Proofs.YtigbbefdndcmbaaW.PrintLast Go.Proofs.YtigbbefdndcmbaaW.PrintMore
set_option maxRecDepth 100000
set_option maxHeartbeats 4000000
set_option linter.unusedVariables false
set_option linter.unusedSimpArgs false
theorem spec_l1In.ev {a0 : Int} {a1 : Int} {a2 : Int} {r : Bool} (H : spec_l1In.f a0 a1 a2 = some r) : Ret Try.prog 31 [.lit (.int .i64 a0), .lit (.int .i64 a1), .lit (.int .i64 a2)] fun v S => v = .lit (.bool r) := by
 unfold spec_l1In.f at H
 refine Ret.intro Try.func31 rfl (Nat.le_of_ble_eq_true rfl) rfl ?_
 rw [tm3]
 refine Evr.sr rfl (Opl.p1 (n := Opl.nil (Evr.sr rfl (Opl.p1 (n := Opl.p1 (n := Opl.p1 (n := Opl.p1 (n := ?_))))))))
 by_cases c1 : a0 ≥ a1
 case neg =>
  rw [if_neg c1] at H
  have e2 : (decide (a0 ≥ a1)) = false := by simpa using c1
  try rw [e2]
  refine Opl.skp rfl (Opl.skp rfl (Opl.skp rfl (Opl.p1 (n := Opl.p1 (n := Opl.nil ?_)))))
  obtain rfl := Option.some.inj H
  refine Evr.ret1 Try.func31 rfl ?_
  show (.lit (.bool false) : PV) = _
  first | rfl | (simp only [go_sem]; rfl)
 rw [if_pos c1] at H
 have e1 : (decide (a0 ≥ a1)) = true := by simpa using c1
 try rw [e1]
 refine Opl.p1 (n := Opl.p1 (n := Opl.p1 (n := Opl.p1 (n := Opl.p1 (n := Opl.nil ?_)))))
 obtain rfl := Option.some.inj H
 refine Evr.ret1 Try.func31 rfl ?_
 show (.lit (.bool (decide (a0 ≤ a2))) : PV) = _
 first | rfl | (simp only [go_sem]; rfl)
theorem spec_CircuitValid.ev {k : Nat} {a0_0 : Int} {l0_1 : List IAnd} {v0_1 : PV} (hv0_1 : Sl cIAnd l0_1 v0_1) {r : Bool} (H : spec_CircuitValid.f k a0_0 l0_1 = some r) : Ret Try.prog 45 [.agg [.lit (.int .i64 a0_0), v0_1]] fun v S => v = .lit (.bool r) := by
 unfold spec_CircuitValid.f at H
 refine Ret.intro Try.func45 rfl (Nat.le_of_ble_eq_true rfl) rfl ?_
 rw [tm1]
 refine Evr.sr rfl (Opl.box (cs := [.lit (.int .i64 a0_0), v0_1]) rfl rfl rfl rfl ?_)
 rintro i1 S h1 u1 w1
 refine Opl.p1 (n := Opl.nil (Evr.seq (Evr.seq ?_)))
 refine Evr.join (fun tm S => ∃ (kq1 : Nat) (x14_1 : Bool) (i2 : Abs.Id), spec_CircuitValid.j0 kq1 x14_1 a0_0 l0_1 = some r ∧ Has tm [(1, .ptr i2 0), (14, .lit (.bool x14_1))] ∧ Box (.ptr i2 0) [.lit (.int .i64 a0_0), v0_1] S) ?_ fun hk1 => ?_
 ·
  rintro tm S ⟨kq1, x14_1, i2, H, hh, h2⟩
  rw [hh.eq]
  obtain _ | k1 := kq1
  · simp [spec_CircuitValid.j0] at H
  simp only [spec_CircuitValid.j0] at H
  by_cases c1 : x14_1 = true
  case pos =>
   rw [if_pos c1] at H
   obtain rfl : x14_1 = true := by simpa using c1
   refine Evr.condT rfl (Evr.sr rfl (Opl.p1 (n := Opl.nil ?_)))
   obtain rfl := Option.some.inj H
   refine Evr.ret1 Try.func45 rfl ?_
   show (.lit (.bool false) : PV) = _
   first | rfl | (simp only [go_sem]; rfl)
  rw [if_neg c1] at H
  obtain rfl : x14_1 = false := by simpa using c1
  refine Evr.condF rfl (Evr.skip (Evr.seq (Evr.sr rfl (Opl.p1 (n := Opl.nil (Evr.block ?_))))))
  refine Evr.loop (Evr.rounds (n := k1) (Inv := fun n tm S => n ≤ k1 ∧ ∃ (x3_1 : Int) (i3 : Abs.Id), spec_CircuitValid.l0 n x3_1 a0_0 l0_1 = some r ∧ Has tm [(1, .ptr i3 0), (3, .lit (.int .i64 x3_1))] ∧ Box (.ptr i3 0) [.lit (.int .i64 a0_0), v0_1] S) ?_ ?_ ?_)
  · exact ⟨Nat.le_refl _, _, _, H, ⟨rfl, rfl, trivial⟩, h2⟩
  ·
   rintro tm S ⟨_, _, _, H, -⟩
   simp [spec_CircuitValid.l0] at H
  ·
   rintro n1 ih1 tm S ⟨hle, x3_1, i3, H, hh, h3⟩
   simp only [spec_CircuitValid.l0] at H
   rw [hh.eq]
   refine Evr.seq (Evr.sr rfl (Opl.p1 (n := Opl.p1 (v := .ptr i3 1) (n := Opl.ldb (v := v0_1) h3 rfl T40 rfl rfl rfl rfl (Opl.len (xs := l0_1) (by exact hv0_1) K40 rfl rfl rfl rfl (Opl.p1 (n := Opl.nil ?_)))))))
   by_cases c2 : x3_1 < (l0_1.length : Int)
   case neg =>
    rw [if_neg c2] at H
    have e6 : (decide (x3_1 < (l0_1.length : Int))) = false := by simpa using c2
    try rw [e6]
    refine Evr.condF rfl (Evr.exit rfl (Evr.sr rfl (Opl.p1 (n := Opl.nil ?_))))
    obtain rfl := Option.some.inj H
    refine Evr.ret1 Try.func45 rfl ?_
    show (.lit (.bool true) : PV) = _
    first | rfl | (simp only [go_sem]; rfl)
   rw [if_pos c2] at H
   have e1 : (decide (x3_1 < (l0_1.length : Int))) = true := by simpa using c2
   try rw [e1]
   refine Evr.condT rfl (Evr.skip (Evr.seq (Evr.block (Evr.sr rfl (Opl.p1 (v := .ptr i3 0) (n := Opl.ldb (v := .lit (.int .i64 a0_0)) h3 rfl T3 rfl rfl rfl rfl (Opl.add (k := .i64) (a := 1) (b := a0_0) K3 rfl rfl rfl rfl (Opl.one (v := .lit (.int .i64 x3_1)) rfl rfl rfl (Opl.add (k := .i64) (a := (wrap64 (1 + a0_0))) (b := x3_1) K3 rfl rfl rfl rfl (Opl.mul (k := .i64) (a := 2) (b := (wrap64 ((wrap64 (1 + a0_0)) + x3_1))) K3 rfl rfl rfl rfl (Opl.subi (k := .i64) (a := (wrap64 (2 * (wrap64 ((wrap64 (1 + a0_0)) + x3_1))))) (b := 1) K3 rfl rfl rfl rfl (Opl.one (v := .lit (.int .i64 (wrap64 ((wrap64 (2 * (wrap64 ((wrap64 (1 + a0_0)) + x3_1)))) - 1)))) rfl rfl rfl (Opl.nil (Evr.sr rfl (Opl.p1 (v := .ptr i3 1) (n := Opl.ldb (v := v0_1) h3 rfl T40 rfl rfl rfl rfl (Opl.one (v := .lit (.int .i64 x3_1)) rfl rfl rfl ?_)))))))))))))))))
   obtain ⟨c3, H⟩ := peel H
   refine Opl.idx (M := cIAnd) (xs := l0_1) (j := x3_1) zIAnd (by exact hv0_1) rfl (by omega) (by omega) K40 Z69 rfl rfl ?_
   rintro p1 q1 h4
   obtain rfl := cIAnd_R (x := (rd_IAnd l0_1 x3_1)) h4
   refine Opl.p1 (v := .fel ((.lit (.int .i64 ((rd_IAnd l0_1 x3_1).f0))) :: (.lit (.int .i64 ((rd_IAnd l0_1 x3_1).f1))) :: q1)) (n := Opl.lda (.lit (.int .i64 ((rd_IAnd l0_1 x3_1).f0))) rfl T3 rfl rfl rfl rfl (Opl.one (v := .lit (.int .i64 (wrap64 ((wrap64 (2 * (wrap64 ((wrap64 (1 + a0_0)) + x3_1)))) - 1)))) rfl rfl rfl ?_))
   obtain ⟨t353, h_t353, H⟩ := Option.bind_eq_some_iff.1 H
   refine Opl.callc (spec_l1In.ev h_t353) rfl rfl rfl rfl ⟨(.lit _), (.lit _), (.lit _), trivial⟩ (by decide) (Opl.p1 (n := Opl.one (v := .lit (.bool (!t353))) rfl rfl rfl ?_))
   by_cases c4 : t353 = true
   case neg =>
    rw [if_neg c4] at H
    have e5 : (!t353) = true := by simpa using c4
    try rw [e5]
    refine Opl.skp rfl (Opl.skp rfl (Opl.skp rfl (Opl.skp rfl (Opl.skp rfl (Opl.skp rfl (Opl.skp rfl (Opl.skp rfl (Opl.skp rfl (Opl.p1 (n := Opl.nil (Evr.condT rfl (Evr.sr rfl (Opl.one (v := .lit (.bool false)) rfl rfl rfl (Opl.nil ?_))))))))))))))
    obtain rfl := Option.some.inj H
    refine Evr.ret1 Try.func45 rfl ?_
    show (.lit (.bool false) : PV) = _
    first | rfl | (simp only [go_sem]; rfl)
   rw [if_pos c4] at H
   have e2 : (!t353) = false := by simpa using c4
   try rw [e2]
   refine Opl.p1 (v := .ptr i3 1) (n := Opl.ldb (v := v0_1) h3 rfl T40 rfl rfl rfl rfl (Opl.one (v := .lit (.int .i64 x3_1)) rfl rfl rfl (Opl.idx (M := cIAnd) (xs := l0_1) (j := x3_1) zIAnd (by exact hv0_1) rfl (by omega) (by omega) K40 Z69 rfl rfl ?_)))
   rintro p2 q2 h5
   obtain rfl := cIAnd_R (x := (rd_IAnd l0_1 x3_1)) h5
   refine Opl.p1 (v := .fel ((.lit (.int .i64 ((rd_IAnd l0_1 x3_1).f1))) :: q2)) (n := Opl.lda (.lit (.int .i64 ((rd_IAnd l0_1 x3_1).f1))) rfl T3 rfl rfl rfl rfl (Opl.one (v := .lit (.int .i64 (wrap64 ((wrap64 (2 * (wrap64 ((wrap64 (1 + a0_0)) + x3_1)))) - 1)))) rfl rfl rfl ?_))
   obtain ⟨t355, h_t355, H⟩ := Option.bind_eq_some_iff.1 H
   refine Opl.callc (spec_l1In.ev h_t355) rfl rfl rfl rfl ⟨(.lit _), (.lit _), (.lit _), trivial⟩ (by decide) (Opl.p1 (n := Opl.p1 (n := Opl.nil ?_)))
   by_cases c5 : t355 = true
   case neg =>
    rw [if_neg c5] at H
    have e4 : (!t355) = true := by simpa using c5
    try rw [e4]
    refine Evr.condT rfl (Evr.sr rfl (Opl.one (v := .lit (.bool false)) rfl rfl rfl (Opl.nil ?_)))
    obtain rfl := Option.some.inj H
    refine Evr.ret1 Try.func45 rfl ?_
    show (.lit (.bool false) : PV) = _
    first | rfl | (simp only [go_sem]; rfl)
   rw [if_pos c5] at H
   have e3 : (!t355) = false := by simpa using c5
   try rw [e3]
   refine Evr.condF rfl (Evr.skip (Evr.inBlock (Evr.regionN rfl (Opl.one (v := .lit (.int .i64 x3_1)) rfl rfl rfl (Opl.add (k := .i64) (a := x3_1) (b := 1) K3 rfl rfl rfl rfl (Opl.one (v := .lit (.int .i64 (wrap64 (x3_1 + 1)))) rfl rfl rfl (Opl.nil ?_)))))))
   exact ih1 _ (by omega) _ _ ⟨by omega, _, _, H, ⟨rfl, rfl, trivial⟩, h3⟩
 ·
  refine Evr.regionN rfl (Opl.p1 (v := .ptr i1 0) (n := Opl.ldb (v := .lit (.int .i64 a0_0)) h1 rfl T3 rfl rfl rfl rfl ?_))
  obtain ⟨t351, h_t351, H⟩ := Option.bind_eq_some_iff.1 H
  refine Opl.callc (spec_l1In.ev h_t351) rfl rfl rfl rfl ⟨(.lit _), (.lit _), (.lit _), trivial⟩ (by decide) (Opl.p1 (n := Opl.p1 (n := ?_)))
  by_cases c6 : t351 = true
  case neg =>
   rw [if_neg c6] at H
   have e8 : (!t351) = true := by simpa using c6
   try rw [e8]
   refine Opl.skp rfl (Opl.skp rfl (Opl.skp rfl (Opl.skp rfl (Opl.p1 (n := Opl.nil ?_)))))
   exact hk1 _ _ ⟨_, _, _, H, ⟨rfl, (by first | rfl | (show PV.lit (.bool _) = _; congr 2; simp_all)), trivial⟩, h1⟩
  rw [if_pos c6] at H
  have e7 : (!t351) = false := by simpa using c6
  try rw [e7]
  refine Opl.p1 (v := .ptr i1 1) (n := Opl.ldb (v := v0_1) h1 rfl T40 rfl rfl rfl rfl (Opl.len (xs := l0_1) (by exact hv0_1) K40 rfl rfl rfl rfl (Opl.p1 (n := Opl.p1 (n := Opl.nil ?_)))))
  exact hk1 _ _ ⟨_, _, _, H, ⟨rfl, (by first | rfl | (show PV.lit (.bool _) = _; congr 2; simp_all)), trivial⟩, h1⟩
theorem spec_l11Abs.ev {a0 : Int} {r : Int} (H : spec_l11Abs.f a0 = some r) : Ret Try.prog 70 [.lit (.int .i64 a0)] fun v S => v = .lit (.int .i64 r) := by
 unfold spec_l11Abs.f at H
 refine Ret.intro Try.func70 rfl (Nat.le_of_ble_eq_true rfl) rfl ?_
 rw [tm1]
 refine Evr.sr rfl (Opl.p1 (n := Opl.nil (Evr.seq (Evr.sr rfl (Opl.p1 (n := Opl.p1 (n := Opl.nil ?_)))))))
 by_cases c1 : a0 < 0
 case neg =>
  rw [if_neg c1] at H
  have e2 : (decide (a0 < 0)) = false := by simpa using c1
  try rw [e2]
  refine Evr.condF rfl (Evr.skip (Evr.sr rfl (Opl.p1 (n := Opl.p1 (n := Opl.nil ?_)))))
  obtain rfl := Option.some.inj H
  refine Evr.ret1 Try.func70 rfl ?_
  show (.lit (.int .i64 a0) : PV) = _
  first | rfl | (simp only [go_sem]; rfl)
 rw [if_pos c1] at H
 have e1 : (decide (a0 < 0)) = true := by simpa using c1
 try rw [e1]
 refine Evr.condT rfl (Evr.sr rfl (Opl.p1 (n := Opl.one (v := .lit (.int .i64 (wrap64 (-a0)))) rfl rfl (by simp only [go_sem, Int.zero_sub, w64]; rfl) (Opl.one (v := .lit (.int .i64 (wrap64 (-a0)))) rfl rfl rfl (Opl.nil ?_)))))
 obtain rfl := Option.some.inj H
 refine Evr.ret1 Try.func70 rfl ?_
 show (.lit (.int .i64 (wrap64 (-a0))) : PV) = _
 first | rfl | (simp only [go_sem]; rfl)
theorem spec_l11Clause.ev {k : Nat} {l0 : List Int} {v0 : PV} (hv0 : Sl (cInt .i64) l0 v0) {a1 : Int} {r : (List Int) × Bool} (H : spec_l11Clause.f k l0 a1 = some r) : Ret Try.prog 33 [v0, .lit (.int .i64 a1)] fun v S => Out (fun q => ∃ q1 q2, q = .tup [q1, q2] ∧ Sl (cInt .i64) r.1 q1 ∧ q2 = .lit (.bool r.2)) v S := by
 unfold spec_l11Clause.f at H
 refine Ret.intro Try.func33 rfl (Nat.le_of_ble_eq_true rfl) rfl ?_
 rw [tm2]
 refine Evr.sr rfl (Opl.p1 (n := Opl.p1 (n := Opl.nil (Evr.sr rfl (Opl.p1 (n := Opl.add (k := .i64) (a := a1) (b := 1) K3 rfl rfl rfl rfl ?_))))))
 obtain ⟨c1, H⟩ := peel H
 obtain ⟨c2, H⟩ := peel H
 refine Opl.make (M := (cInt .i64)) (m := (wrap64 (a1 + 1))) (0 : Int) (by exact rfl) rfl rfl K22 T3 rfl (by omega) (by show ((wrap64 (a1 + 1))).toNat * 8 ≤ 281474976710656; omega) (by omega) rfl rfl rfl ?_
 rintro pv1 S h1 u1 w1
 refine Opl.one (v := pv1) rfl rfl rfl (Opl.nil (Evr.seq (Evr.sr rfl (Opl.one (v := .lit (.int .i64 0)) rfl rfl rfl (Opl.nil (Evr.block ?_))))))
 refine Evr.loop (Evr.rounds (n := k) (Inv := fun n tm S => n ≤ k ∧ ∃ (x6_1 : List Int) (x7_1 : Int) (pv2 : PV), spec_l11Clause.l1 n x6_1 x7_1 l0 a1 = some r ∧ Has tm [(0, v0), (1, .lit (.int .i64 a1)), (6, pv2), (7, .lit (.int .i64 x7_1))] ∧ Vec (cInt .i64) x6_1 pv2 S) ?_ ?_ ?_)
 · exact ⟨Nat.le_refl _, _, _, _, H, ⟨rfl, rfl, rfl, rfl, trivial⟩, h1⟩
 ·
  rintro tm S ⟨_, _, _, _, H, -⟩
  simp [spec_l11Clause.l1] at H
 ·
  rintro n1 ih1 tm S ⟨hle, x6_1, x7_1, pv2, H, hh, h2⟩
  simp only [spec_l11Clause.l1] at H
  rw [hh.eq]
  refine Evr.seq (Evr.sr rfl (Opl.p1 (n := Opl.p1 (n := Opl.len (xs := l0) (by exact hv0) K22 rfl rfl rfl rfl (Opl.p1 (n := Opl.nil ?_))))))
  by_cases c3 : x7_1 < (l0.length : Int)
  case neg =>
   rw [if_neg c3] at H
   have e6 : (decide (x7_1 < (l0.length : Int))) = false := by simpa using c3
   try rw [e6]
   refine Evr.condF rfl (Evr.exit rfl (Evr.sr rfl (Opl.lits (M := (cInt .i64)) (ys := []) [] K22 T3 rfl rfl rfl trivial rfl (by decide) rfl rfl rfl ?_)))
   rintro pv4 S h16 u3 w2
   have ap1 := w2.vec h2
   have h17 := u3.vec h2 ap1
   refine Opl.p1 (n := Opl.nil (Evr.seq (Evr.sr rfl (Opl.p1 (n := Opl.nil (Evr.block ?_))))))
   refine Evr.loop (Evr.rounds (n := n1) (Inv := fun n tm S => n ≤ n1 ∧ ∃ (x9q4_1 : List Int) (x10q4_1 : Int) (pv5 : PV) (pv6 : PV), spec_l11Clause.l3 n x9q4_1 x10q4_1 a1 x6_1 = some r ∧ Has tm [(1, .lit (.int .i64 a1)), (6, pv5), (9, pv6), (10, .lit (.int .i64 x10q4_1))] ∧ Vec (cInt .i64) x6_1 pv5 S ∧ Vec (cInt .i64) x9q4_1 pv6 S ∧ Ap pv5 pv6) ?_ ?_ ?_)
   · exact ⟨Nat.le_refl _, _, _, _, _, H, ⟨rfl, rfl, rfl, rfl, trivial⟩, h17, h16, ap1⟩
   ·
    rintro tm S ⟨_, _, _, _, _, H, -⟩
    simp [spec_l11Clause.l3] at H
   ·
    rintro n2 ih2 tm S ⟨hle, x9q4_1, x10q4_1, pv5, pv6, H, hh, h18, h19, ap2⟩
    simp only [spec_l11Clause.l3] at H
    rw [hh.eq]
    refine Evr.seq (Evr.sr rfl (Opl.p1 (n := Opl.p1 (n := Opl.p1 (n := Opl.nil ?_)))))
    by_cases c18 : x10q4_1 ≤ a1
    case neg =>
     rw [if_neg c18] at H
     have e10 : (decide (x10q4_1 ≤ a1)) = false := by simpa using c18
     try rw [e10]
     refine Evr.condF rfl (Evr.exit rfl (Evr.sr rfl (Opl.p1 (n := Opl.p1 (n := Opl.p1 (n := Opl.nil ?_))))))
     obtain rfl := Option.some.inj H
     refine Evr.ret2 Try.func33 rfl ?_
     show Out _ (.tup [pv6, .lit (.bool true)]) _
     exact .tup2 (.vec h19) .lit
    rw [if_pos c18] at H
    have e7 : (decide (x10q4_1 ≤ a1)) = true := by simpa using c18
    try rw [e7]
    refine Evr.condT rfl (Evr.skip (Evr.seq (Evr.block (Evr.sr rfl (Opl.p1 (n := Opl.p1 (n := ?_)))))))
    obtain ⟨c19, H⟩ := peel H
    obtain ⟨c20, H⟩ := peel H
    refine Opl.idv (M := (cInt .i64)) (xs := x6_1) (j := x10q4_1) (v := pv5) h18 rfl rfl (by omega) (by omega) K22 Z3 rfl rfl ?_
    rintro d4 z4 q9 h20 h21
    refine Opl.ldv (M := (cInt .i64)) (xs := x6_1) (j := x10q4_1) (0 : Int) h20 h21 (by omega) (by omega) rfl T3 rfl rfl rfl ?_
    rintro p6 q10 h22
    obtain rfl : p6 = [.lit (.int .i64 (rd x6_1 x10q4_1))] := h22
    refine ⟨.lit (.int .i64 (rd x6_1 x10q4_1)), rfl, ?_⟩
    refine Opl.p1 (n := Opl.nil ?_)
    refine Evr.join (fun tm S => ∃ (kq2 : Nat) (x9q4_2 : List Int) (pv7 : PV) (pv8 : PV), spec_l11Clause.l3 kq2 x9q4_2 (wrap64 (x10q4_1 + 1)) a1 x6_1 = some r ∧ kq2 ≤ n2 ∧ Has tm [(1, .lit (.int .i64 a1)), (6, pv7), (9, pv8), (10, .lit (.int .i64 x10q4_1))] ∧ Vec (cInt .i64) x6_1 pv7 S ∧ Vec (cInt .i64) x9q4_2 pv8 S ∧ Ap pv7 pv8) ?_ fun hk2 => ?_
    ·
     rintro tm S ⟨kq2, x9q4_2, pv7, pv8, H, hle, hh, h23, h24, ap3⟩
     rw [hh.eq]
     refine Evr.inBlock (Evr.regionN rfl (Opl.p1 (n := Opl.add (k := .i64) (a := x10q4_1) (b := 1) K3 rfl rfl rfl rfl (Opl.one (v := .lit (.int .i64 (wrap64 (x10q4_1 + 1)))) rfl rfl rfl (Opl.nil ?_)))))
     exact ih2 _ (by omega) _ _ ⟨by omega, _, _, _, _, H, ⟨rfl, rfl, rfl, rfl, trivial⟩, h23, h24, ap3⟩
    ·
     by_cases c21 : (rd x6_1 x10q4_1) ≠ 0
     case neg =>
      rw [if_neg c21] at H
      have e9 : ((rd x6_1 x10q4_1) != 0) = false := by simpa using c21
      try rw [e9]
      refine Evr.condF rfl (Evr.skip ?_)
      exact hk2 _ _ ⟨_, _, _, _, H, by omega, ⟨rfl, rfl, rfl, rfl, trivial⟩, h18, h19, ap2⟩
     rw [if_pos c21] at H
     have e8 : ((rd x6_1 x10q4_1) != 0) = true := by simpa using c21
     try rw [e8]
     refine Evr.condT rfl (Evr.regionN rfl (Opl.p1 (n := Opl.p1 (n := Opl.p1 (n := ?_)))))
     obtain ⟨c22, H⟩ := peel H
     obtain ⟨c23, H⟩ := peel H
     obtain ⟨c24, H⟩ := peel H
     refine Opl.idv (M := (cInt .i64)) (xs := x6_1) (j := x10q4_1) (v := pv5) h18 rfl rfl (by omega) (by omega) K22 Z3 rfl rfl ?_
     rintro d5 z5 q11 h25 h26
     refine Opl.ldv (M := (cInt .i64)) (xs := x6_1) (j := x10q4_1) (0 : Int) h25 h26 (by omega) (by omega) rfl T3 rfl rfl rfl ?_
     rintro p7 q12 h27
     obtain rfl : p7 = [.lit (.int .i64 (rd x6_1 x10q4_1))] := h27
     refine ⟨.lit (.int .i64 (rd x6_1 x10q4_1)), rfl, ?_⟩
     refine Opl.liti (M := (cInt .i64)) (ys := [(rd x6_1 x10q4_1)]) [.tmp 63] K22 T3 rfl rfl rfl (by exact ⟨rfl, trivial⟩) rfl (by decide) rfl rfl ?_
     rintro pv10 h28
     refine Opl.app (M := (cInt .i64)) (xs := x9q4_1) (ys := [(rd x6_1 x10q4_1)]) (v := pv6) h19 (.sl h28) (oInt .i64) rfl rfl K22 T3 rfl rfl (by (try simp only [List.length_cons, List.length_nil]); omega) (by show (_ + _) * 8 ≤ 140737488355328; (try simp only [List.length_cons, List.length_nil]); omega) rfl rfl rfl rfl rfl ?_
     rintro pv11 S h29 u4 w3
     have ap4 := w3.vec h18
     have h30 := u4.vec h18 ap2
     refine Opl.p1 (n := Opl.nil ?_)
     exact hk2 _ _ ⟨_, _, _, _, H, by omega, ⟨rfl, rfl, rfl, rfl, trivial⟩, h30, h29, ap4⟩
  rw [if_pos c3] at H
  have e1 : (decide (x7_1 < (l0.length : Int))) = true := by simpa using c3
  try rw [e1]
  refine Evr.condT rfl (Evr.skip (Evr.seq (Evr.block (Evr.sr rfl (Opl.p1 (n := Opl.p1 (n := ?_)))))))
  obtain ⟨c4, H⟩ := peel H
  obtain ⟨c5, H⟩ := peel H
  refine Opl.idx (M := (cInt .i64)) (xs := l0) (j := x7_1) (0 : Int) (by exact hv0) rfl (by omega) (by omega) K22 Z3 rfl rfl ?_
  rintro p1 q1 h3
  obtain rfl : p1 = [.lit (.int .i64 (rd l0 x7_1))] := h3
  refine Opl.lda (.lit (.int .i64 (rd l0 x7_1))) rfl T3 rfl rfl rfl rfl ?_
  obtain ⟨r1, h_r1, H⟩ := Option.bind_eq_some_iff.1 H
  refine Opl.callc (spec_l11Abs.ev h_r1) rfl rfl rfl rfl ⟨(.lit _), trivial⟩ (by decide) (Opl.p1 (n := Opl.nil (Evr.seq (Evr.seq ?_))))
  refine Evr.join2 (fun tm S => ∃ (kq1 : Nat) (pv3 : PV), spec_l11Clause.j2 kq1 l0 a1 x6_1 x7_1 r1 = some r ∧ kq1 ≤ n1 ∧ Has tm [(0, v0), (1, .lit (.int .i64 a1)), (6, pv3), (7, .lit (.int .i64 x7_1)), (8, .lit (.int .i64 r1))] ∧ Vec (cInt .i64) x6_1 pv3 S) ?_ fun hk1 => ?_
  ·
   rintro tm S ⟨kq1, pv3, H, hle, hh, h4⟩
   rw [hh.eq]
   refine Evr.regionN rfl (Opl.p1 (n := Opl.p1 (n := Opl.p1 (n := Opl.p1 (n := ?_)))))
   obtain _ | k1 := kq1
   · simp [spec_l11Clause.j2] at H
   simp only [spec_l11Clause.j2] at H
   obtain ⟨c6, H⟩ := peel H
   obtain ⟨c7, H⟩ := peel H
   obtain ⟨c8, H⟩ := peel H
   obtain ⟨c9, H⟩ := peel H
   refine Opl.idx (M := (cInt .i64)) (xs := l0) (j := x7_1) (0 : Int) (by exact hv0) rfl (by omega) (by omega) K22 Z3 rfl rfl ?_
   rintro p2 q2 h5
   obtain rfl : p2 = [.lit (.int .i64 (rd l0 x7_1))] := h5
   refine Opl.lda (.lit (.int .i64 (rd l0 x7_1))) rfl T3 rfl rfl rfl rfl (Opl.idv (M := (cInt .i64)) (xs := x6_1) (j := r1) (v := pv3) h4 rfl rfl (by omega) (by omega) K22 Z3 rfl rfl ?_)
   rintro d1 z1 q3 h6 h7
   refine Opl.stv (M := (cInt .i64)) (xs := x6_1) (j := r1) (y := (rd l0 x7_1)) (vs := [.lit (.int .i64 (rd l0 x7_1))]) h6 h7 (by omega) (by omega) rfl rfl (by exact rfl) Z3 rfl rfl rfl rfl ?_
   rw [← q3]
   rintro S h8 u2
   refine Opl.nil (Evr.inBlock (Evr.regionN rfl (Opl.p1 (n := Opl.add (k := .i64) (a := x7_1) (b := 1) K3 rfl rfl rfl rfl (Opl.one (v := .lit (.int .i64 (wrap64 (x7_1 + 1)))) rfl rfl rfl (Opl.nil ?_))))))
   exact ih1 _ (by omega) _ _ ⟨by omega, _, _, _, H, ⟨rfl, rfl, rfl, rfl, trivial⟩, h8⟩
  ·
   refine Evr.regionD rfl (by kernel_rfl) (Opl.p1 (n := Opl.p1 (n := ?_)))
   obtain ⟨c10, H⟩ := peel H
   obtain ⟨c11, H⟩ := peel H
   refine Opl.idv (M := (cInt .i64)) (xs := x6_1) (j := r1) (v := pv2) h2 rfl rfl (by omega) (by omega) K22 Z3 rfl rfl ?_
   rintro d2 z2 q4 h9 h10
   refine Opl.ldv (M := (cInt .i64)) (xs := x6_1) (j := r1) (0 : Int) h9 h10 (by omega) (by omega) rfl T3 rfl rfl rfl ?_
   rintro p3 q5 h11
   obtain rfl : p3 = [.lit (.int .i64 (rd x6_1 r1))] := h11
   refine ⟨.lit (.int .i64 (rd x6_1 r1)), rfl, ?_⟩
   refine Opl.p1 (n := Opl.p1 (n := ?_))
   by_cases c12 : (rd x6_1 r1) ≠ 0
   case neg =>
    rw [if_neg c12] at H
    have e5 : ((rd x6_1 r1) != 0) = false := by simpa using c12
    try rw [e5]
    refine Opl.skp rfl (Opl.skp rfl (Opl.skp rfl (Opl.skp rfl (Opl.skp rfl (Opl.skp rfl (Opl.skp rfl (Opl.skp rfl (Opl.skp rfl (Opl.p1 (n := Opl.nil (Evr.condF rfl (Evr.skip ?_))))))))))))
    exact hk1 _ _ ⟨_, _, H, by omega, ⟨rfl, rfl, rfl, rfl, rfl, trivial⟩, h2⟩
   rw [if_pos c12] at H
   have e2 : ((rd x6_1 r1) != 0) = true := by simpa using c12
   try rw [e2]
   refine Opl.p1 (n := Opl.p1 (n := ?_))
   obtain ⟨c13, H⟩ := peel H
   obtain ⟨c14, H⟩ := peel H
   obtain ⟨c15, H⟩ := peel H
   obtain ⟨c16, H⟩ := peel H
   refine Opl.idv (M := (cInt .i64)) (xs := x6_1) (j := r1) (v := pv2) h2 rfl rfl (by omega) (by omega) K22 Z3 rfl rfl ?_
   rintro d3 z3 q6 h12 h13
   refine Opl.ldv (M := (cInt .i64)) (xs := x6_1) (j := r1) (0 : Int) h12 h13 (by omega) (by omega) rfl T3 rfl rfl rfl ?_
   rintro p4 q7 h14
   obtain rfl : p4 = [.lit (.int .i64 (rd x6_1 r1))] := h14
   refine ⟨.lit (.int .i64 (rd x6_1 r1)), rfl, ?_⟩
   refine Opl.p1 (n := Opl.p1 (n := Opl.idx (M := (cInt .i64)) (xs := l0) (j := x7_1) (0 : Int) (by exact hv0) rfl (by omega) (by omega) K22 Z3 rfl rfl ?_))
   rintro p5 q8 h15
   obtain rfl : p5 = [.lit (.int .i64 (rd l0 x7_1))] := h15
   refine Opl.lda (.lit (.int .i64 (rd l0 x7_1))) rfl T3 rfl rfl rfl rfl (Opl.p1 (n := Opl.p1 (n := Opl.nil ?_)))
   by_cases c17 : (rd x6_1 r1) ≠ (rd l0 x7_1)
   case neg =>
    rw [if_neg c17] at H
    have e4 : ((rd x6_1 r1) != (rd l0 x7_1)) = false := by simpa using c17
    try rw [e4]
    refine Evr.condF rfl (Evr.skip ?_)
    exact hk1 _ _ ⟨_, _, H, by omega, ⟨rfl, rfl, rfl, rfl, rfl, trivial⟩, h2⟩
   rw [if_pos c17] at H
   have e3 : ((rd x6_1 r1) != (rd l0 x7_1)) = true := by simpa using c17
   try rw [e3]
   refine Evr.condT rfl (Evr.sr rfl (Opl.p1 (n := Opl.p1 (n := Opl.nil ?_))))
   obtain rfl := Option.some.inj H
   refine Evr.ret2 Try.func33 rfl ?_
   show Out _ (.tup [.lit (.slice none 0 0), .lit (.bool false)]) _
   exact .tup2 (.sl .nil) .lit
theorem spec_l11Edge.ev {a0 : Int} {r : Int} (H : spec_l11Edge.f a0 = some r) : Ret Try.prog 81 [.lit (.int .i64 a0)] fun v S => v = .lit (.int .i64 r) := by
 unfold spec_l11Edge.f at H
 refine Ret.intro Try.func81 rfl (Nat.le_of_ble_eq_true rfl) rfl ?_
 rw [tm1]
 refine Evr.sr rfl (Opl.p1 (n := Opl.nil (Evr.seq (Evr.sr rfl (Opl.p1 (n := Opl.one (v := .lit (.int .i64 (Int.tmod a0 2))) rfl rfl (by simp only [go_sem]; rw [if_neg (by first | assumption | decide | omega)]; rfl) (Opl.p1 (n := Opl.nil ?_))))))))
 by_cases c1 : (Int.tmod a0 2) = 1
 case neg =>
  rw [if_neg c1] at H
  have e2 : ((Int.tmod a0 2) == 1) = false := by simpa using c1
  try rw [e2]
  refine Evr.condF rfl (Evr.skip (Evr.sr rfl (Opl.p1 (n := Opl.one (v := .lit (.int .i64 (wrap64 (Int.tdiv a0 2)))) rfl rfl (by simp only [go_sem]; rw [if_neg (by first | assumption | decide | omega)]; rfl) (Opl.one (v := .lit (.int .i64 (wrap64 (Int.tdiv a0 2)))) rfl rfl rfl (Opl.nil ?_))))))
  obtain rfl := Option.some.inj H
  refine Evr.ret1 Try.func81 rfl ?_
  show (.lit (.int .i64 (wrap64 (Int.tdiv a0 2))) : PV) = _
  first | rfl | (simp only [go_sem]; rfl)
 rw [if_pos c1] at H
 have e1 : ((Int.tmod a0 2) == 1) = true := by simpa using c1
 try rw [e1]
 refine Evr.condT rfl (Evr.sr rfl (Opl.p1 (n := Opl.one (v := .lit (.int .i64 (wrap64 (Int.tdiv a0 2)))) rfl rfl (by simp only [go_sem]; rw [if_neg (by first | assumption | decide | omega)]; rfl) (Opl.one (v := .lit (.int .i64 (wrap64 (-(wrap64 (Int.tdiv a0 2)))))) rfl rfl (by simp only [go_sem, Int.zero_sub, w64]; rfl) (Opl.one (v := .lit (.int .i64 (wrap64 (-(wrap64 (Int.tdiv a0 2)))))) rfl rfl rfl (Opl.nil ?_))))))
 obtain rfl := Option.some.inj H
 refine Evr.ret1 Try.func81 rfl ?_
 show (.lit (.int .i64 (wrap64 (-(wrap64 (Int.tdiv a0 2))))) : PV) = _
 first | rfl | (simp only [go_sem]; rfl)
theorem spec_l11Put.evb {k : Nat} {S0 : Sto} {a0_0 : Int} {l0_1 : List (List Int)} {v0_1 : PV} (hv0_1 : Vec (cSl (cInt .i64)) l0_1 v0_1 S0) {l1 : List Int} {v1 : PV} (hv1 : Sl (cInt .i64) l1 v1) {r : (Int × List (List Int))} (H : spec_l11Put.f k a0_0 l0_1 l1 = some r) : RetS Try.prog 48 [.agg [.lit (.int .i64 a0_0), v0_1], v1] S0 fun v S => ∃ v_0 v_1, v = .agg [v_0, v_1] ∧ v_0 = .lit (.int .i64 r.1) ∧ Vec (cSl (cInt .i64)) r.2 v_1 S ∧ OutT S0 (PV.id? v0_1).toList (PV.id? v_1).toList ∧ Same S0 S (PV.id? v0_1).toList := by
 have hs0 : Same S0 S0 (PV.id? v0_1).toList := .refl _ _
 unfold spec_l11Put.f at H
 refine RetS.intro Try.func48 rfl (Nat.le_of_ble_eq_true rfl) rfl ?_
 rw [tm2]
 refine Evr.sr rfl (Opl.box (cs := [.lit (.int .i64 a0_0), v0_1]) rfl rfl rfl rfl ?_)
 rintro i1 S h1 u1 w1
 have ap1 := w1.sameP hs0
 have h2 := u1.sameP hs0 ap1
 have ap2 := w1.vec hv0_1
 have h3 := u1.vec hv0_1 ap2
 refine Opl.alloc T37 rfl rfl rfl ?_
 rintro i2 S h4 u2 w2
 have ap3 := w2.sameP h2
 have h5 := u2.sameP h2 ap3
 have ap4 := w2.vec h3
 have h6 := u2.vec h3 ap4
 have ap5 := w2.box h1
 have h7 := u2.box h1 ap5
 refine Opl.nil (Evr.sr rfl (Opl.lits (M := (cInt .i64)) (ys := []) [] K22 T3 rfl rfl rfl trivial rfl (by decide) rfl rfl rfl ?_))
 rintro pv1 S h8 u3 w3
 have ap6 := w3.sameP h5
 have h9 := u3.sameP h5 ap6
 have ap7 := w3.vec h6
 have h10 := u3.vec h6 ap7
 have ap8 := w3.box h7
 have h11 := u3.box h7 ap8
 have ap9 := w3.box h4
 have h12 := u3.box h4 ap9
 refine Opl.p1 (n := Opl.nil (Evr.seq (Evr.sr rfl (Opl.p1 (n := Opl.nil (Evr.block ?_))))))
 refine Evr.loop (Evr.rounds (n := k) (Inv := fun n tm S => n ≤ k ∧ ∃ (x5_1 : List Int) (x6_1 : Int) (pv2 : PV) (i3 : Abs.Id) (i4 : Abs.Id) (pv3 : PV), spec_l11Put.l1 n x5_1 x6_1 a0_0 l0_1 l1 = some r ∧ Has tm [(1, v1), (2, .ptr i3 0), (4, .ptr i4 0), (5, pv3), (6, .lit (.int .i64 x6_1))] ∧ Vec (cSl (cInt .i64)) l0_1 pv2 S ∧ Box (.ptr i3 0) [.lit (.int .i64 a0_0), pv2] S ∧ Box (.ptr i4 0) [.lit (.int .i64 0), .lit (.slice none 0 0)] S ∧ Vec (cInt .i64) x5_1 pv3 S ∧ Same S0 S (PV.id? v0_1).toList ∧ OutT S0 (PV.id? v0_1).toList (PV.id? pv2).toList ∧ OutT S0 (PV.id? v0_1).toList (PV.ptr i3 0).id?.toList ∧ OutT S0 (PV.id? v0_1).toList (PV.ptr i4 0).id?.toList ∧ OutT S0 (PV.id? v0_1).toList (PV.id? pv3).toList ∧ Ap pv2 (.ptr i3 0) ∧ Ap pv2 (.ptr i4 0) ∧ Ap pv2 pv3 ∧ Ap (.ptr i3 0) (.ptr i4 0) ∧ Ap (.ptr i3 0) pv3 ∧ Ap (.ptr i4 0) pv3) ?_ ?_ ?_)
 · exact ⟨Nat.le_refl _, _, _, _, _, _, _, H, ⟨rfl, rfl, rfl, rfl, rfl, trivial⟩, h10, h11, h12, h8, h9, OutT.self, ap1, ap3, ap6, ap2, ap4, ap7, ap5, ap8, ap9⟩
 ·
  rintro tm S ⟨_, _, _, _, _, _, _, H, -⟩
  simp [spec_l11Put.l1] at H
 ·
  rintro n1 ih1 tm S ⟨hle, x5_1, x6_1, pv2, i3, i4, pv3, H, hh, h14, h13, h15, h16, h17, o1, o2, o3, o4, ap10, ap11, ap12, ap13, ap14, ap15⟩
  simp only [spec_l11Put.l1] at H
  rw [hh.eq]
  refine Evr.seq (Evr.sr rfl (Opl.p1 (n := Opl.p1 (n := Opl.len (xs := l1) (by exact hv1) K22 rfl rfl rfl rfl (Opl.p1 (n := Opl.nil ?_))))))
  by_cases c1 : x6_1 < (l1.length : Int)
  case neg =>
   rw [if_neg c1] at H
   have e6 : (decide (x6_1 < (l1.length : Int))) = false := by simpa using c1
   try rw [e6]
   refine Evr.condF rfl (Evr.exit rfl (Evr.seq (Evr.frz 5 h16 rfl ?_)))
   rintro pv9 S h37 u6
   have h38 := u6.vec h14 ap12
   have h39 := u6.box h13 ap14
   have h40 := u6.box h15 ap15
   have h41 := u6.sameP h17 o4
   refine Evr.regionN rfl (Opl.p1 (n := Opl.p1 (v := .ptr i3 0) (n := Opl.ldb (v := .lit (.int .i64 a0_0)) h39 rfl T3 rfl rfl rfl rfl ?_)))
   obtain ⟨r2, h_r2, H⟩ := Option.bind_eq_some_iff.1 H
   refine Opl.call (spec_l11Clause.ev h37 h_r2) rfl rfl rfl rfl ⟨h37.plain, (.lit _), trivial⟩ (by decide) ?_
   rintro _ ⟨pv11, _, rfl, h43, rfl⟩
   refine Opl.p1 (n := Opl.p1 (v := pv11) (n := Opl.p1 (v := .lit (.bool r2.2)) (n := Opl.p1 (n := Opl.p1 (n := Opl.nil (Evr.seq (Evr.sr rfl (Opl.p1 (n := Opl.nil ?_)))))))))
   by_cases c11 : r2.2 = true
   case neg =>
    rw [if_neg c11] at H
    have e8 : (r2.2) = false := by simpa using c11
    try rw [e8]
    refine Evr.condF rfl (Evr.skip (Evr.sr rfl (Opl.ldb (v := .agg [.lit (.int .i64 a0_0), pv2]) h39 rfl T37 rfl rfl rfl rfl (Opl.stb (vs := [.lit (.int .i64 a0_0), pv2]) h40 rfl rfl Z37 rfl (Nat.le_of_ble_eq_true rfl) (by simp only [List.all_cons, List.all_nil, Vec.one h38, Bool.and_true, Bool.true_and] <;> rfl) rfl rfl rfl ?_))))
    rintro S (h57 : Box (.ptr i4 0) [.lit (.int .i64 a0_0), pv2] _) u10
    have h58 := u10.vec h38 ap11
    have h59 := u10.box h39 ap13
    have h60 := u10.sameP h41 o3
    refine Opl.nil ?_
    obtain rfl := Option.some.inj H
    refine Evr.retb (v := .agg [.lit (.int .i64 a0_0), pv2]) Try.func48 rfl h57 rfl T37 rfl ?_
    exact ⟨_, _, rfl, (by first | rfl | (simp only [go_sem]; rfl)), h58, o1, h60⟩
   rw [if_pos c11] at H
   have e7 : (r2.2) = true := by simpa using c11
   try rw [e7]
   refine Evr.condT rfl (Evr.regionN rfl (Opl.p1 (v := .ptr i3 1) (n := Opl.ldb (v := pv2) h39 rfl T35 rfl rfl rfl rfl (Opl.p1 (n := Opl.liti (M := (cSl (cInt .i64))) (ys := [r2.1]) [.tmp 45] K35 T22 rfl rfl rfl (by exact ⟨⟨_, by first | rfl | exact h43.cells, h43⟩, trivial⟩) rfl (by decide) rfl rfl ?_)))))
   rintro pv13 h44
   obtain ⟨c12, H⟩ := peel H
   refine Opl.app (M := (cSl (cInt .i64))) (xs := l0_1) (ys := [r2.1]) (v := pv2) h38 (.sl h44) (oSl (cInt .i64)) rfl rfl K35 T22 rfl rfl (by (try simp only [List.length_cons, List.length_nil]); omega) (by show (_ + _) * 24 ≤ 140737488355328; (try simp only [List.length_cons, List.length_nil]); omega) rfl rfl rfl rfl rfl ?_
   rintro pv14 S h45 u7 w6
   have ap26 := w6.box h39
   have h46 := u7.box h39 ap10.symm
   have ap27 := w6.box h40
   have h47 := u7.box h40 ap11.symm
   have ap28 := w6.sameP h41
   have h48 := u7.sameP h41 o1
   refine Opl.p1 (v := .ptr i3 1) (n := Opl.stb (vs := [pv14]) h46 rfl (by exact Vec.cells h45) Z35 rfl (Nat.le_of_ble_eq_true rfl) (by simp only [List.all_cons, List.all_nil, Vec.one h45, Bool.and_true, Bool.true_and] <;> rfl) rfl rfl rfl ?_)
   rintro S (h49 : Box (.ptr i3 0) [.lit (.int .i64 a0_0), pv14] _) u8
   have h50 := u8.box h47 ap13.symm
   have h51 := u8.sameP h48 o2
   have h52 := u8.vec h45 ap26.symm
   refine Opl.nil (Evr.sr rfl (Opl.ldb (v := .agg [.lit (.int .i64 a0_0), pv14]) h49 rfl T37 rfl rfl rfl rfl (Opl.stb (vs := [.lit (.int .i64 a0_0), pv14]) h50 rfl rfl Z37 rfl (Nat.le_of_ble_eq_true rfl) (by simp only [List.all_cons, List.all_nil, Vec.one h52, Bool.and_true, Bool.true_and] <;> rfl) rfl rfl rfl ?_)))
   rintro S (h53 : Box (.ptr i4 0) [.lit (.int .i64 a0_0), pv14] _) u9
   have h54 := u9.box h49 ap13
   have h55 := u9.sameP h51 o3
   have h56 := u9.vec h52 ap27.symm
   refine Opl.nil ?_
   obtain rfl := Option.some.inj H
   refine Evr.retb (v := .agg [.lit (.int .i64 a0_0), pv14]) Try.func48 rfl h53 rfl T37 rfl ?_
   exact ⟨_, _, rfl, (by first | rfl | (simp only [go_sem]; rfl)), h56, ap28, h55⟩
  rw [if_pos c1] at H
  have e1 : (decide (x6_1 < (l1.length : Int))) = true := by simpa using c1
  try rw [e1]
  refine Evr.condT rfl (Evr.skip (Evr.seq (Evr.block (Evr.seq (Evr.sr rfl (Opl.p1 (n := Opl.p1 (n := ?_))))))))
  obtain ⟨c2, H⟩ := peel H
  obtain ⟨c3, H⟩ := peel H
  refine Opl.idx (M := (cInt .i64)) (xs := l1) (j := x6_1) (0 : Int) (by exact hv1) rfl (by omega) (by omega) K22 Z3 rfl rfl ?_
  rintro p1 q1 h18
  obtain rfl : p1 = [.lit (.int .i64 (rd l1 x6_1))] := h18
  refine Opl.lda (.lit (.int .i64 (rd l1 x6_1))) rfl T3 rfl rfl rfl rfl (Opl.p1 (n := Opl.nil ?_))
  by_cases c4 : (rd l1 x6_1) = 1
  case pos =>
   rw [if_pos c4] at H
   have e2 : ((rd l1 x6_1) == 1) = true := by simpa using c4
   try rw [e2]
   refine Evr.condT rfl (Evr.sr rfl (Opl.ldb (v := .agg [.lit (.int .i64 a0_0), pv2]) h13 rfl T37 rfl rfl rfl rfl (Opl.stb (vs := [.lit (.int .i64 a0_0), pv2]) h15 rfl rfl Z37 rfl (Nat.le_of_ble_eq_true rfl) (by simp only [List.all_cons, List.all_nil, Vec.one h14, Bool.and_true, Bool.true_and] <;> rfl) rfl rfl rfl ?_)))
   rintro S (h19 : Box (.ptr i4 0) [.lit (.int .i64 a0_0), pv2] _) u4
   have h20 := u4.vec h14 ap11
   have h21 := u4.box h13 ap13
   have h22 := u4.vec h16 ap15.symm
   have h23 := u4.sameP h17 o3
   refine Opl.nil ?_
   obtain rfl := Option.some.inj H
   refine Evr.retb (v := .agg [.lit (.int .i64 a0_0), pv2]) Try.func48 rfl h19 rfl T37 rfl ?_
   exact ⟨_, _, rfl, (by first | rfl | (simp only [go_sem]; rfl)), h20, o1, h23⟩
  rw [if_neg c4] at H
  have e3 : ((rd l1 x6_1) == 1) = false := by simpa using c4
  try rw [e3]
  refine Evr.condF rfl (Evr.skip (Evr.sr rfl (Opl.p1 (n := Opl.p1 (n := ?_)))))
  obtain ⟨c5, H⟩ := peel H
  obtain ⟨c6, H⟩ := peel H
  refine Opl.idx (M := (cInt .i64)) (xs := l1) (j := x6_1) (0 : Int) (by exact hv1) rfl (by omega) (by omega) K22 Z3 rfl rfl ?_
  rintro p2 q2 h24
  obtain rfl : p2 = [.lit (.int .i64 (rd l1 x6_1))] := h24
  refine Opl.lda (.lit (.int .i64 (rd l1 x6_1))) rfl T3 rfl rfl rfl rfl (Opl.p1 (n := Opl.nil ?_))
  refine Evr.join (fun tm S => ∃ (kq1 : Nat) (x5_2 : List Int) (pv4 : PV) (i5 : Abs.Id) (i6 : Abs.Id) (pv5 : PV), spec_l11Put.l1 kq1 x5_2 (wrap64 (x6_1 + 1)) a0_0 l0_1 l1 = some r ∧ kq1 ≤ n1 ∧ Has tm [(1, v1), (2, .ptr i5 0), (4, .ptr i6 0), (5, pv5), (6, .lit (.int .i64 x6_1))] ∧ Vec (cSl (cInt .i64)) l0_1 pv4 S ∧ Box (.ptr i5 0) [.lit (.int .i64 a0_0), pv4] S ∧ Box (.ptr i6 0) [.lit (.int .i64 0), .lit (.slice none 0 0)] S ∧ Vec (cInt .i64) x5_2 pv5 S ∧ Same S0 S (PV.id? v0_1).toList ∧ OutT S0 (PV.id? v0_1).toList (PV.id? pv4).toList ∧ OutT S0 (PV.id? v0_1).toList (PV.ptr i5 0).id?.toList ∧ OutT S0 (PV.id? v0_1).toList (PV.ptr i6 0).id?.toList ∧ OutT S0 (PV.id? v0_1).toList (PV.id? pv5).toList ∧ Ap pv4 (.ptr i5 0) ∧ Ap pv4 (.ptr i6 0) ∧ Ap pv4 pv5 ∧ Ap (.ptr i5 0) (.ptr i6 0) ∧ Ap (.ptr i5 0) pv5 ∧ Ap (.ptr i6 0) pv5) ?_ fun hk1 => ?_
  ·
   rintro tm S ⟨kq1, x5_2, pv4, i5, i6, pv5, H, hle, hh, h26, h25, h27, h28, h29, o5, o6, o7, o8, ap16, ap17, ap18, ap19, ap20, ap21⟩
   rw [hh.eq]
   refine Evr.inBlock (Evr.regionN rfl (Opl.p1 (n := Opl.add (k := .i64) (a := x6_1) (b := 1) K3 rfl rfl rfl rfl (Opl.one (v := .lit (.int .i64 (wrap64 (x6_1 + 1)))) rfl rfl rfl (Opl.nil ?_)))))
   exact ih1 _ (by omega) _ _ ⟨by omega, _, _, _, _, _, _, H, ⟨rfl, rfl, rfl, rfl, rfl, trivial⟩, h26, h25, h27, h28, h29, o5, o6, o7, o8, ap16, ap17, ap18, ap19, ap20, ap21⟩
  ·
   by_cases c7 : (rd l1 x6_1) > 1
   case neg =>
    rw [if_neg c7] at H
    have e5 : (decide ((rd l1 x6_1) > 1)) = false := by simpa using c7
    try rw [e5]
    refine Evr.condF rfl (Evr.skip ?_)
    exact hk1 _ _ ⟨_, _, _, _, _, _, H, by omega, ⟨rfl, rfl, rfl, rfl, rfl, trivial⟩, h14, h13, h15, h16, h17, o1, o2, o3, o4, ap10, ap11, ap12, ap13, ap14, ap15⟩
   rw [if_pos c7] at H
   have e4 : (decide ((rd l1 x6_1) > 1)) = true := by simpa using c7
   try rw [e4]
   refine Evr.condT rfl (Evr.regionN rfl (Opl.p1 (n := Opl.p1 (n := Opl.p1 (n := ?_)))))
   obtain ⟨c8, H⟩ := peel H
   obtain ⟨c9, H⟩ := peel H
   refine Opl.idx (M := (cInt .i64)) (xs := l1) (j := x6_1) (0 : Int) (by exact hv1) rfl (by omega) (by omega) K22 Z3 rfl rfl ?_
   rintro p3 q3 h30
   obtain rfl : p3 = [.lit (.int .i64 (rd l1 x6_1))] := h30
   refine Opl.lda (.lit (.int .i64 (rd l1 x6_1))) rfl T3 rfl rfl rfl rfl ?_
   obtain ⟨r1, h_r1, H⟩ := Option.bind_eq_some_iff.1 H
   refine Opl.callc (spec_l11Edge.ev h_r1) rfl rfl rfl rfl ⟨(.lit _), trivial⟩ (by decide) (Opl.liti (M := (cInt .i64)) (ys := [r1]) [.tmp 32] K22 T3 rfl rfl rfl (by exact ⟨rfl, trivial⟩) rfl (by decide) rfl rfl ?_)
   rintro pv7 h31
   obtain ⟨c10, H⟩ := peel H
   refine Opl.app (M := (cInt .i64)) (xs := x5_1) (ys := [r1]) (v := pv3) h16 (.sl h31) (oInt .i64) rfl rfl K22 T3 rfl rfl (by (try simp only [List.length_cons, List.length_nil]); omega) (by show (_ + _) * 8 ≤ 140737488355328; (try simp only [List.length_cons, List.length_nil]); omega) rfl rfl rfl rfl rfl ?_
   rintro pv8 S h32 u5 w5
   have ap22 := w5.vec h14
   have h33 := u5.vec h14 ap12
   have ap23 := w5.box h13
   have h34 := u5.box h13 ap14
   have ap24 := w5.box h15
   have h35 := u5.box h15 ap15
   have ap25 := w5.sameP h17
   have h36 := u5.sameP h17 o4
   refine Opl.p1 (n := Opl.nil ?_)
   exact hk1 _ _ ⟨_, _, _, _, _, _, H, by omega, ⟨rfl, rfl, rfl, rfl, rfl, trivial⟩, h33, h34, h35, h32, h36, o1, o2, o3, ap25, ap10, ap11, ap22, ap13, ap23, ap24⟩
theorem spec_l7Nodes.ev {a0_0 : Int} {l0_1 : List IAnd} {v0_1 : PV} (hv0_1 : Sl cIAnd l0_1 v0_1) {r : Int} (H : spec_l7Nodes.f a0_0 l0_1 = some r) : Ret Try.prog 47 [.agg [.lit (.int .i64 a0_0), v0_1]] fun v S => v = .lit (.int .i64 r) := by
 unfold spec_l7Nodes.f at H
 refine Ret.intro Try.func47 rfl (Nat.le_of_ble_eq_true rfl) rfl ?_
 rw [tm1]
 refine Evr.sr rfl (Opl.box (cs := [.lit (.int .i64 a0_0), v0_1]) rfl rfl rfl rfl ?_)
 rintro i1 S h1 u1 w1
 refine Opl.p1 (n := Opl.nil (Evr.sr rfl (Opl.p1 (v := .ptr i1 0) (n := Opl.ldb (v := .lit (.int .i64 a0_0)) h1 rfl T3 rfl rfl rfl rfl (Opl.add (k := .i64) (a := 1) (b := a0_0) K3 rfl rfl rfl rfl (Opl.p1 (v := .ptr i1 1) (n := Opl.ldb (v := v0_1) h1 rfl T40 rfl rfl rfl rfl (Opl.len (xs := l0_1) (by exact hv0_1) K40 rfl rfl rfl rfl (Opl.add (k := .i64) (a := (wrap64 (1 + a0_0))) (b := (l0_1.length : Int)) K3 rfl rfl rfl rfl (Opl.one (v := .lit (.int .i64 (wrap64 ((wrap64 (1 + a0_0)) + (l0_1.length : Int))))) rfl rfl rfl (Opl.nil ?_)))))))))))
 obtain rfl := Option.some.inj H
 refine Evr.ret1 Try.func47 rfl ?_
 show (.lit (.int .i64 (wrap64 ((wrap64 (1 + a0_0)) + (l0_1.length : Int)))) : PV) = _
 first | rfl | (simp only [go_sem]; rfl)
theorem spec_l7Edge.ev {a0_0 : Int} {l0_1 : List IAnd} {v0_1 : PV} (hv0_1 : Sl cIAnd l0_1 v0_1) {a1 : Int} {r : Bool} (H : spec_l7Edge.f a0_0 l0_1 a1 = some r) : Ret Try.prog 46 [.agg [.lit (.int .i64 a0_0), v0_1], .lit (.int .i64 a1)] fun v S => v = .lit (.bool r) := by
 unfold spec_l7Edge.f at H
 refine Ret.intro Try.func46 rfl (Nat.le_of_ble_eq_true rfl) rfl ?_
 rw [tm2]
 refine Evr.sr rfl (Opl.box (cs := [.lit (.int .i64 a0_0), v0_1]) rfl rfl rfl rfl ?_)
 rintro i1 S h1 u1 w1
 refine Opl.p1 (n := Opl.nil (Evr.sr rfl (Opl.p1 (n := Opl.ldb (v := .agg [.lit (.int .i64 a0_0), v0_1]) h1 rfl T42 rfl rfl rfl rfl ?_))))
 obtain ⟨t358, h_t358, H⟩ := Option.bind_eq_some_iff.1 H
 refine Opl.callc (spec_l7Nodes.ev hv0_1 h_t358) rfl rfl rfl rfl ⟨(.aggL ⟨(.lit _), hv0_1.plain, trivial⟩), trivial⟩ (by decide) (Opl.mul (k := .i64) (a := 2) (b := t358) K3 rfl rfl rfl rfl (Opl.subi (k := .i64) (a := (wrap64 (2 * t358))) (b := 1) K3 rfl rfl rfl rfl ?_))
 obtain ⟨t359, h_t359, H⟩ := Option.bind_eq_some_iff.1 H
 refine Opl.callc (spec_l1In.ev h_t359) rfl rfl rfl rfl ⟨(.lit _), (.lit _), (.lit _), trivial⟩ (by decide) (Opl.one (v := .lit (.bool t359)) rfl rfl rfl (Opl.nil ?_))
 obtain rfl := Option.some.inj H
 refine Evr.ret1 Try.func46 rfl ?_
 show (.lit (.bool t359) : PV) = _
 first | rfl | (simp only [go_sem]; rfl)
theorem spec_l7Not.ev {a0 : Int} {r : Int} (H : spec_l7Not.f a0 = some r) : Ret Try.prog 49 [.lit (.int .i64 a0)] fun v S => v = .lit (.int .i64 r) := by
 unfold spec_l7Not.f at H
 refine Ret.intro Try.func49 rfl (Nat.le_of_ble_eq_true rfl) rfl ?_
 rw [tm1]
 refine Evr.sr rfl (Opl.p1 (n := Opl.nil (Evr.seq (Evr.sr rfl (Opl.p1 (n := Opl.p1 (n := Opl.nil ?_)))))))
 by_cases c1 : a0 < 0
 case pos =>
  rw [if_pos c1] at H
  have e1 : (decide (a0 < 0)) = true := by simpa using c1
  try rw [e1]
  refine Evr.condT rfl (Evr.sr rfl (Opl.p1 (n := Opl.nil ?_)))
  obtain rfl := Option.some.inj H
  refine Evr.ret1 Try.func49 rfl ?_
  show (.lit (.int .i64 (-1)) : PV) = _
  first | rfl | (simp only [go_sem]; rfl)
 rw [if_neg c1] at H
 have e2 : (decide (a0 < 0)) = false := by simpa using c1
 try rw [e2]
 refine Evr.condF rfl (Evr.skip (Evr.sr rfl (Opl.p1 (n := Opl.one (v := .lit (.int .i64 (wrap64 (Int.tdiv a0 2)))) rfl rfl (by simp only [go_sem]; rw [if_neg (by first | assumption | decide | omega)]; rfl) (Opl.mul (k := .i64) (a := (wrap64 (Int.tdiv a0 2))) (b := 2) K3 rfl rfl rfl rfl (Opl.add (k := .i64) (a := (wrap64 ((wrap64 (Int.tdiv a0 2)) * 2))) (b := 1) K3 rfl rfl rfl rfl (Opl.one (v := .lit (.int .i64 a0)) rfl rfl rfl (Opl.one (v := .lit (.int .i64 (Int.tmod a0 2))) rfl rfl (by simp only [go_sem]; rw [if_neg (by first | assumption | decide | omega)]; rfl) (Opl.subi (k := .i64) (a := (wrap64 ((wrap64 ((wrap64 (Int.tdiv a0 2)) * 2)) + 1))) (b := (Int.tmod a0 2)) K3 rfl rfl rfl rfl (Opl.one (v := .lit (.int .i64 (wrap64 ((wrap64 ((wrap64 ((wrap64 (Int.tdiv a0 2)) * 2)) + 1)) - (Int.tmod a0 2))))) rfl rfl rfl (Opl.nil ?_)))))))))))
 obtain rfl := Option.some.inj H
 refine Evr.ret1 Try.func49 rfl ?_
 show (.lit (.int .i64 (wrap64 ((wrap64 ((wrap64 ((wrap64 (Int.tdiv a0 2)) * 2)) + 1)) - (Int.tmod a0 2)))) : PV) = _
 first | rfl | (simp only [go_sem]; rfl)
theorem spec_ClausesOf.ev {k : Nat} {a0_0 : Int} {l0_1 : List IAnd} {v0_1 : PV} (hv0_1 : Sl cIAnd l0_1 v0_1) {a1 : Int} {r : (Int × List (List Int)) × Bool} (H : spec_ClausesOf.f k a0_0 l0_1 a1 = some r) : Ret Try.prog 16 [.agg [.lit (.int .i64 a0_0), v0_1], .lit (.int .i64 a1)] fun v S => Out (fun q => ∃ q1 q2, q = .tup [q1, q2] ∧ (∃ q11 q12, q1 = .agg [q11, q12] ∧ q11 = .lit (.int .i64 r.1.1) ∧ Sl (cSl (cInt .i64)) r.1.2 q12) ∧ q2 = .lit (.bool r.2)) v S := by
 unfold spec_ClausesOf.f at H
 refine Ret.intro Try.func16 rfl (Nat.le_of_ble_eq_true rfl) rfl ?_
 rw [tm2]
 refine Evr.sr rfl (Opl.box (cs := [.lit (.int .i64 a0_0), v0_1]) rfl rfl rfl rfl ?_)
 rintro i1 S h1 u1 w1
 refine Opl.alloc T37 rfl rfl rfl ?_
 rintro i2 S h2 u2 w2
 have ap1 := w2.box h1
 have h3 := u2.box h1 ap1
 refine Opl.p1 (n := Opl.nil (Evr.seq (Evr.sr rfl (Opl.ldb (v := .agg [.lit (.int .i64 a0_0), v0_1]) h3 rfl T42 rfl rfl rfl rfl ?_))))
 obtain ⟨r1, h_r1, H⟩ := Option.bind_eq_some_iff.1 H
 refine Opl.callc (spec_CircuitValid.ev hv0_1 h_r1) rfl rfl rfl rfl ⟨(.aggL ⟨(.lit _), hv0_1.plain, trivial⟩), trivial⟩ (by decide) (Opl.p1 (n := Opl.p1 (n := ?_)))
 by_cases c1 : r1 = true
 case neg =>
  rw [if_neg c1] at H
  have e6 : (!r1) = true := by simpa using c1
  try rw [e6]
  refine Opl.skp rfl (Opl.skp rfl (Opl.skp rfl (Opl.skp rfl (Opl.p1 (n := Opl.nil (Evr.condT rfl (Evr.sr rfl (Opl.p1 (v := .agg [.lit (.int .i64 0), .lit (.slice none 0 0)]) (n := Opl.stb (vs := [.lit (.int .i64 0), .lit (.slice none 0 0)]) h2 rfl rfl Z37 rfl (Nat.le_of_ble_eq_true rfl) rfl rfl rfl rfl ?_)))))))))
  rintro S (h58 : Box (.ptr i2 0) [.lit (.int .i64 0), .lit (.slice none 0 0)] _) u14
  have h59 := u14.box h3 ap1
  refine Opl.p1 (n := Opl.nil ?_)
  obtain rfl := Option.some.inj H
  refine Evr.ret_ct (v0 := .agg [.lit (.int .i64 0), .lit (.slice none 0 0)]) Try.func16 rfl h58 rfl T37 rfl ?_
  show Out _ (.tup [.agg [.lit (.int .i64 0), .lit (.slice none 0 0)], .lit (.bool false)]) _
  exact .tup2 (.agg2 .lit (.sl .nil)) .lit
 rw [if_pos c1] at H
 have e1 : (!r1) = false := by simpa using c1
 try rw [e1]
 refine Opl.ldb (v := .agg [.lit (.int .i64 a0_0), v0_1]) h3 rfl T42 rfl rfl rfl rfl (Opl.p1 (n := ?_))
 obtain ⟨r2, h_r2, H⟩ := Option.bind_eq_some_iff.1 H
 refine Opl.callc (spec_l7Edge.ev hv0_1 h_r2) rfl rfl rfl rfl ⟨(.aggL ⟨(.lit _), hv0_1.plain, trivial⟩), (.lit _), trivial⟩ (by decide) (Opl.p1 (n := Opl.p1 (n := Opl.nil ?_)))
 by_cases c2 : r2 = true
 case neg =>
  rw [if_neg c2] at H
  have e5 : (!r2) = true := by simpa using c2
  try rw [e5]
  refine Evr.condT rfl (Evr.sr rfl (Opl.p1 (v := .agg [.lit (.int .i64 0), .lit (.slice none 0 0)]) (n := Opl.stb (vs := [.lit (.int .i64 0), .lit (.slice none 0 0)]) h2 rfl rfl Z37 rfl (Nat.le_of_ble_eq_true rfl) rfl rfl rfl rfl ?_)))
  rintro S (h56 : Box (.ptr i2 0) [.lit (.int .i64 0), .lit (.slice none 0 0)] _) u13
  have h57 := u13.box h3 ap1
  refine Opl.p1 (n := Opl.nil ?_)
  obtain rfl := Option.some.inj H
  refine Evr.ret_ct (v0 := .agg [.lit (.int .i64 0), .lit (.slice none 0 0)]) Try.func16 rfl h56 rfl T37 rfl ?_
  show Out _ (.tup [.agg [.lit (.int .i64 0), .lit (.slice none 0 0)], .lit (.bool false)]) _
  exact .tup2 (.agg2 .lit (.sl .nil)) .lit
 rw [if_pos c2] at H
 have e2 : (!r2) = false := by simpa using c2
 try rw [e2]
 refine Evr.condF rfl (Evr.skip (Evr.sr rfl (Opl.ldb (v := .agg [.lit (.int .i64 a0_0), v0_1]) h3 rfl T42 rfl rfl rfl rfl ?_)))
 obtain ⟨r3, h_r3, H⟩ := Option.bind_eq_some_iff.1 H
 refine Opl.callc (spec_l7Nodes.ev hv0_1 h_r3) rfl rfl rfl rfl ⟨(.aggL ⟨(.lit _), hv0_1.plain, trivial⟩), trivial⟩ (by decide) (Opl.subi (k := .i64) (a := r3) (b := 1) K3 rfl rfl rfl rfl (Opl.p1 (v := .agg [.lit (.int .i64 (wrap64 (r3 - 1))), .lit (.slice none 0 0)]) (n := Opl.alloc T37 rfl rfl rfl ?_)))
 rintro i3 S h4 u3 w3
 have ap2 := w3.box h3
 have h5 := u3.box h3 ap2
 have ap3 := w3.box h2
 have h6 := u3.box h2 ap3
 refine Opl.stb (vs := [.lit (.int .i64 (wrap64 (r3 - 1))), .lit (.slice none 0 0)]) h4 rfl rfl Z37 rfl (Nat.le_of_ble_eq_true rfl) rfl rfl rfl rfl ?_
 rintro S (h7 : Box (.ptr i3 0) [.lit (.int .i64 (wrap64 (r3 - 1))), .lit (.slice none 0 0)] _) u4
 have h8 := u4.box h5 ap2
 have h9 := u4.box h6 ap3
 refine Opl.nil (Evr.seq (Evr.sr rfl (Opl.one (v := .lit (.int .i64 0)) rfl rfl rfl (Opl.nil (Evr.block ?_)))))
 refine Evr.loop (Evr.rounds (n := k) (Inv := fun n tm S => n ≤ k ∧ ∃ (x6b0_1 : Int) (x6b1_1 : List (List Int)) (x7_1 : Int) (i4 : Abs.Id) (i5 : Abs.Id) (pv1 : PV) (i6 : Abs.Id), spec_ClausesOf.l1 n x6b0_1 x6b1_1 x7_1 a0_0 l0_1 a1 = some r ∧ Has tm [(1, .lit (.int .i64 a1)), (2, .ptr i4 0), (4, .ptr i5 0), (6, .ptr i6 0), (7, .lit (.int .i64 x7_1))] ∧ Box (.ptr i4 0) [.lit (.int .i64 a0_0), v0_1] S ∧ Box (.ptr i5 0) [.lit (.int .i64 0), .lit (.slice none 0 0)] S ∧ Vec (cSl (cInt .i64)) x6b1_1 pv1 S ∧ Box (.ptr i6 0) [.lit (.int .i64 x6b0_1), pv1] S ∧ Ap (.ptr i4 0) (.ptr i5 0) ∧ Ap (.ptr i4 0) pv1 ∧ Ap (.ptr i4 0) (.ptr i6 0) ∧ Ap (.ptr i5 0) pv1 ∧ Ap (.ptr i5 0) (.ptr i6 0) ∧ Ap pv1 (.ptr i6 0)) ?_ ?_ ?_)
 · exact ⟨Nat.le_refl _, _, _, _, _, _, _, _, H, ⟨rfl, rfl, rfl, rfl, rfl, trivial⟩, h8, h9, .nil, h7, ap1, Ap.nil.symm, ap2, Ap.nil.symm, ap3, .nil⟩
 ·
  rintro tm S ⟨_, _, _, _, _, _, _, _, H, -⟩
  simp [spec_ClausesOf.l1] at H
 ·
  rintro n1 ih1 tm S ⟨hle, x6b0_1, x6b1_1, x7_1, i4, i5, pv1, i6, H, hh, h10, h11, h13, h12, ap4, ap5, ap6, ap7, ap8, ap9⟩
  simp only [spec_ClausesOf.l1] at H
  rw [hh.eq]
  refine Evr.seq (Evr.sr rfl (Opl.p1 (n := Opl.p1 (v := .ptr i4 1) (n := Opl.ldb (v := v0_1) h10 rfl T40 rfl rfl rfl rfl (Opl.len (xs := l0_1) (by exact hv0_1) K40 rfl rfl rfl rfl (Opl.p1 (n := Opl.nil ?_)))))))
  by_cases c3 : x7_1 < (l0_1.length : Int)
  case neg =>
   rw [if_neg c3] at H
   have e4 : (decide (x7_1 < (l0_1.length : Int))) = false := by simpa using c3
   try rw [e4]
   refine Evr.condF rfl (Evr.exit rfl (Evr.sr rfl (Opl.ldb (v := .agg [.lit (.int .i64 x6b0_1), pv1]) h12 rfl T37 rfl rfl rfl rfl (Opl.p1 (n := Opl.liti (M := (cInt .i64)) (ys := [a1]) [.tmp 71] K22 T3 rfl rfl rfl (by exact ⟨rfl, trivial⟩) rfl (by decide) rfl rfl ?_)))))
   rintro pv12 h46
   obtain ⟨r9, h_r9, H⟩ := Option.bind_eq_some_iff.1 H
   refine Opl.calls (spec_l11Put.evb h13 h46 h_r9) rfl rfl rfl rfl rfl ?_
   rintro _ S ⟨_, pv13, rfl, rfl, h47, o4, u11⟩
   have h49 := u11.box h10 ap5.apT
   have h50 := u11.box h11 ap7.apT
   have h51 := u11.box h12 ap9.symm.apT
   have ap19 := OutT.apb o4 h10 ap5
   have ap20 := OutT.apb o4 h11 ap7
   have ap21 := OutT.apb o4 h12 ap9.symm
   refine Opl.stb (vs := [.lit (.int .i64 r9.1), pv13]) h50 rfl rfl Z37 rfl (Nat.le_of_ble_eq_true rfl) (by simp only [List.all_cons, List.all_nil, Vec.one h47, Bool.and_true, Bool.true_and] <;> rfl) rfl rfl rfl ?_
   rintro S (h52 : Box (.ptr i5 0) [.lit (.int .i64 r9.1), pv13] _) u12
   have h53 := u12.box h49 ap4
   have h54 := u12.box h51 ap8.symm
   have h55 := u12.vec h47 ap20.symm
   refine Opl.p1 (n := Opl.nil ?_)
   obtain rfl := Option.some.inj H
   refine Evr.ret_ct (v0 := .agg [.lit (.int .i64 r9.1), pv13]) Try.func16 rfl h52 rfl T37 rfl ?_
   show Out _ (.tup [.agg [.lit (.int .i64 r9.1), pv13], .lit (.bool true)]) _
   exact .tup2 (.agg2 .lit (.vec h55)) .lit
  rw [if_pos c3] at H
  have e3 : (decide (x7_1 < (l0_1.length : Int))) = true := by simpa using c3
  try rw [e3]
  refine Evr.condT rfl (Evr.skip (Evr.seq (Evr.block (Evr.sr rfl (Opl.p1 (v := .ptr i4 0) (n := Opl.ldb (v := .lit (.int .i64 a0_0)) h10 rfl T3 rfl rfl rfl rfl (Opl.add (k := .i64) (a := 1) (b := a0_0) K3 rfl rfl rfl rfl (Opl.one (v := .lit (.int .i64 x7_1)) rfl rfl rfl (Opl.add (k := .i64) (a := (wrap64 (1 + a0_0))) (b := x7_1) K3 rfl rfl rfl rfl (Opl.mul (k := .i64) (a := 2) (b := (wrap64 ((wrap64 (1 + a0_0)) + x7_1))) K3 rfl rfl rfl rfl (Opl.one (v := .lit (.int .i64 (wrap64 (2 * (wrap64 ((wrap64 (1 + a0_0)) + x7_1)))))) rfl rfl rfl (Opl.nil (Evr.sr rfl (Opl.p1 (v := .ptr i4 1) (n := Opl.ldb (v := v0_1) h10 rfl T40 rfl rfl rfl rfl (Opl.one (v := .lit (.int .i64 x7_1)) rfl rfl rfl ?_))))))))))))))))
  obtain ⟨c4, H⟩ := peel H
  obtain ⟨c5, H⟩ := peel H
  obtain ⟨c6, H⟩ := peel H
  obtain ⟨c7, H⟩ := peel H
  refine Opl.idx (M := cIAnd) (xs := l0_1) (j := x7_1) zIAnd (by exact hv0_1) rfl (by omega) (by omega) K40 Z69 rfl rfl ?_
  rintro p1 q1 h14
  obtain rfl := cIAnd_R (x := (rd_IAnd l0_1 x7_1)) h14
  refine Opl.p1 (v := .fel ((.lit (.int .i64 ((rd_IAnd l0_1 x7_1).f0))) :: (.lit (.int .i64 ((rd_IAnd l0_1 x7_1).f1))) :: q1)) (n := Opl.lda (.lit (.int .i64 ((rd_IAnd l0_1 x7_1).f0))) rfl T3 rfl rfl rfl rfl (Opl.one (v := .lit (.int .i64 ((rd_IAnd l0_1 x7_1).f0))) rfl rfl rfl (Opl.nil (Evr.sr rfl (Opl.p1 (v := .ptr i4 1) (n := Opl.ldb (v := v0_1) h10 rfl T40 rfl rfl rfl rfl (Opl.one (v := .lit (.int .i64 x7_1)) rfl rfl rfl (Opl.idx (M := cIAnd) (xs := l0_1) (j := x7_1) zIAnd (by exact hv0_1) rfl (by omega) (by omega) K40 Z69 rfl rfl ?_))))))))
  rintro p2 q2 h15
  obtain rfl := cIAnd_R (x := (rd_IAnd l0_1 x7_1)) h15
  refine Opl.p1 (v := .fel ((.lit (.int .i64 ((rd_IAnd l0_1 x7_1).f1))) :: q2)) (n := Opl.lda (.lit (.int .i64 ((rd_IAnd l0_1 x7_1).f1))) rfl T3 rfl rfl rfl rfl (Opl.one (v := .lit (.int .i64 ((rd_IAnd l0_1 x7_1).f1))) rfl rfl rfl (Opl.nil (Evr.sr rfl (Opl.ldb (v := .agg [.lit (.int .i64 x6b0_1), pv1]) h12 rfl T37 rfl rfl rfl rfl (Opl.one (v := .lit (.int .i64 (wrap64 (2 * (wrap64 ((wrap64 (1 + a0_0)) + x7_1)))))) rfl rfl rfl (Opl.add (k := .i64) (a := (wrap64 (2 * (wrap64 ((wrap64 (1 + a0_0)) + x7_1))))) (b := 1) K3 rfl rfl rfl rfl (Opl.one (v := .lit (.int .i64 ((rd_IAnd l0_1 x7_1).f0))) rfl rfl rfl (Opl.liti (M := (cInt .i64)) (ys := [(wrap64 ((wrap64 (2 * (wrap64 ((wrap64 (1 + a0_0)) + x7_1)))) + 1)), ((rd_IAnd l0_1 x7_1).f0)]) [.tmp 52, .tmp 53] K22 T3 rfl rfl rfl (by exact ⟨rfl, rfl, trivial⟩) rfl (by decide) rfl rfl ?_)))))))))
  rintro pv3 h16
  obtain ⟨r4, h_r4, H⟩ := Option.bind_eq_some_iff.1 H
  refine Opl.calls (spec_l11Put.evb h13 h16 h_r4) rfl rfl rfl rfl rfl ?_
  rintro _ S ⟨_, pv4, rfl, rfl, h17, o1, u5⟩
  have h19 := u5.box h10 ap5.apT
  have h20 := u5.box h11 ap7.apT
  have h21 := u5.box h12 ap9.symm.apT
  have ap10 := OutT.apb o1 h10 ap5
  have ap11 := OutT.apb o1 h11 ap7
  have ap12 := OutT.apb o1 h12 ap9.symm
  refine Opl.stb (vs := [.lit (.int .i64 r4.1), pv4]) h21 rfl rfl Z37 rfl (Nat.le_of_ble_eq_true rfl) (by simp only [List.all_cons, List.all_nil, Vec.one h17, Bool.and_true, Bool.true_and] <;> rfl) rfl rfl rfl ?_
  rintro S (h22 : Box (.ptr i6 0) [.lit (.int .i64 r4.1), pv4] _) u6
  have h23 := u6.box h19 ap6
  have h24 := u6.box h20 ap8
  have h25 := u6.vec h17 ap12.symm
  refine Opl.nil (Evr.sr rfl (Opl.ldb (v := .agg [.lit (.int .i64 r4.1), pv4]) h22 rfl T37 rfl rfl rfl rfl (Opl.one (v := .lit (.int .i64 (wrap64 (2 * (wrap64 ((wrap64 (1 + a0_0)) + x7_1)))))) rfl rfl rfl (Opl.add (k := .i64) (a := (wrap64 (2 * (wrap64 ((wrap64 (1 + a0_0)) + x7_1))))) (b := 1) K3 rfl rfl rfl rfl (Opl.one (v := .lit (.int .i64 ((rd_IAnd l0_1 x7_1).f1))) rfl rfl rfl (Opl.liti (M := (cInt .i64)) (ys := [(wrap64 ((wrap64 (2 * (wrap64 ((wrap64 (1 + a0_0)) + x7_1)))) + 1)), ((rd_IAnd l0_1 x7_1).f1)]) [.tmp 58, .tmp 59] K22 T3 rfl rfl rfl (by exact ⟨rfl, rfl, trivial⟩) rfl (by decide) rfl rfl ?_))))))
  rintro pv6 h26
  obtain ⟨r5, h_r5, H⟩ := Option.bind_eq_some_iff.1 H
  refine Opl.calls (spec_l11Put.evb h25 h26 h_r5) rfl rfl rfl rfl rfl ?_
  rintro _ S ⟨_, pv7, rfl, rfl, h27, o2, u7⟩
  have h29 := u7.box h23 ap10.apT
  have h30 := u7.box h24 ap11.apT
  have h31 := u7.box h22 ap12.apT
  have ap13 := OutT.apb o2 h23 ap10
  have ap14 := OutT.apb o2 h24 ap11
  have ap15 := OutT.apb o2 h22 ap12
  refine Opl.stb (vs := [.lit (.int .i64 r5.1), pv7]) h31 rfl rfl Z37 rfl (Nat.le_of_ble_eq_true rfl) (by simp only [List.all_cons, List.all_nil, Vec.one h27, Bool.and_true, Bool.true_and] <;> rfl) rfl rfl rfl ?_
  rintro S (h32 : Box (.ptr i6 0) [.lit (.int .i64 r5.1), pv7] _) u8
  have h33 := u8.box h29 ap6
  have h34 := u8.box h30 ap8
  have h35 := u8.vec h27 ap15.symm
  refine Opl.nil (Evr.regionL [(7, .n), (6, .p), (0, .q)] rfl (by kernel_rfl) (Opl.ldbk (v := .agg [.lit (.int .i64 r5.1), pv7]) h32 (rd_vec h35) rfl T37 rfl rfl rfl rfl (Opl.one (v := .lit (.int .i64 (wrap64 (2 * (wrap64 ((wrap64 (1 + a0_0)) + x7_1)))))) rfl rfl rfl (Opl.one (v := .lit (.int .i64 ((rd_IAnd l0_1 x7_1).f0))) rfl rfl rfl ?_))))
  obtain ⟨r6, h_r6, H⟩ := Option.bind_eq_some_iff.1 H
  refine Opl.callc (spec_l7Not.ev h_r6) rfl rfl rfl rfl ⟨(.lit _), trivial⟩ (by decide) (Opl.one (v := .lit (.int .i64 ((rd_IAnd l0_1 x7_1).f1))) rfl rfl rfl ?_)
  obtain ⟨r7, h_r7, H⟩ := Option.bind_eq_some_iff.1 H
  refine Opl.callc (spec_l7Not.ev h_r7) rfl rfl rfl rfl ⟨(.lit _), trivial⟩ (by decide) (Opl.liti (M := (cInt .i64)) (ys := [(wrap64 (2 * (wrap64 ((wrap64 (1 + a0_0)) + x7_1)))), r6, r7]) [.tmp 63, .tmp 65, .tmp 67] K22 T3 rfl rfl rfl (by exact ⟨rfl, rfl, rfl, trivial⟩) rfl (by decide) rfl rfl ?_)
  rintro pv9 h36
  obtain ⟨r8, h_r8, H⟩ := Option.bind_eq_some_iff.1 H
  refine Opl.calls (spec_l11Put.evb h35 h36 h_r8) rfl rfl rfl rfl rfl ?_
  rintro _ S ⟨_, pv10, rfl, rfl, h37, o3, u9⟩
  have h39 := u9.box h33 ap13.apT
  have h40 := u9.box h34 ap14.apT
  have h41 := u9.box h32 ap15.apT
  have ap16 := OutT.apb o3 h33 ap13
  have ap17 := OutT.apb o3 h34 ap14
  have ap18 := OutT.apb o3 h32 ap15
  refine Opl.stb (vs := [.lit (.int .i64 r8.1), pv10]) h41 rfl rfl Z37 rfl (Nat.le_of_ble_eq_true rfl) (by simp only [List.all_cons, List.all_nil, Vec.one h37, Bool.and_true, Bool.true_and] <;> rfl) rfl rfl rfl ?_
  rintro S (h42 : Box (.ptr i6 0) [.lit (.int .i64 r8.1), pv10] _) u10
  have h43 := u10.box h39 ap6
  have h44 := u10.box h40 ap8
  have h45 := u10.vec h37 ap18.symm
  refine Opl.nil (Evr.inBlock (Evr.regionN rfl (Opl.one (v := .lit (.int .i64 x7_1)) rfl rfl rfl (Opl.add (k := .i64) (a := x7_1) (b := 1) K3 rfl rfl rfl rfl (Opl.one (v := .lit (.int .i64 (wrap64 (x7_1 + 1)))) rfl rfl rfl (Opl.nil ?_))))))
  exact ih1 _ (by omega) _ _ ⟨by omega, _, _, _, _, _, _, _, H, ⟨rfl, rfl, rfl, rfl, rfl, trivial⟩, h43, h44, h45, h42, ap4, ap16, ap6, ap17, ap8, ap18.symm⟩
theorem spec_l40Open.evb {k : Nat} {S0 : Sto} {l0 : List Int} {v0 : PV} (hv0 : Sl (cInt .u8) l0 v0) {r : (List Int × Int)} (H : spec_l40Open.f k l0 = some r) : RetS Try.prog 84 [v0] S0 fun v S => ∃ jv zv, v = .ptr jv 0 ∧ Sl (cInt .u8) r.1 zv ∧ Box v [zv, .lit (.int .i64 r.2)] S ∧ New S0 v ∧ Same S0 S [] := by
 have hs0 : Same S0 S0 [] := .refl _ _
 unfold spec_l40Open.f at H
 refine RetS.intro Try.func84 rfl (Nat.le_of_ble_eq_true rfl) rfl ?_
 rw [tm1]
 refine Evr.sr rfl (Opl.p1 (n := Opl.nil (Evr.seq (Evr.sr rfl (Opl.p1 (n := Opl.len (xs := l0) (by exact hv0) K49 rfl rfl rfl rfl (Opl.p1 (n := Opl.nil ?_))))))))
 by_cases c1 : (l0.length : Int) > 2000
 case neg =>
  rw [if_neg c1] at H
  have e2 : (decide ((l0.length : Int) > 2000)) = false := by simpa using c1
  try rw [e2]
  refine Evr.condF rfl (Evr.skip (Evr.sr rfl (Opl.p1 (n := Opl.one (v := .agg [v0, .lit (.int .i64 0)]) rfl rfl (by simp only [go_sem]; simp only [fillL, Sl.cells hv0]; rfl) (Opl.box (cs := [v0, .lit (.int .i64 0)]) rfl rfl rfl rfl ?_)))))
  rintro i2 S h4 u2 w2
  have ap2 := w2.sameP hs0
  have h5 := u2.sameP hs0 ap2
  refine Opl.p1 (n := Opl.nil ?_)
  obtain rfl := Option.some.inj H
  refine Evr.ret1 Try.func84 rfl ?_
  exact ⟨_, _, rfl, hv0, h4, (OutT.new0 ap2), h5⟩
 rw [if_pos c1] at H
 have e1 : (decide ((l0.length : Int) > 2000)) = true := by simpa using c1
 try rw [e1]
 refine Evr.condT rfl (Evr.regionN rfl (Opl.p1 (n := ?_)))
 obtain ⟨c2, H⟩ := peel H
 refine Opl.slcT (M := (cInt .u8)) (b := 2000) (by exact hv0) rfl  (by omega) (by omega) K49 Z5 rfl rfl rfl ?_
 rintro pv1 h1
 refine Opl.p1 (n := Opl.nil (Evr.sr rfl (Opl.p1 (n := Opl.one (v := .agg [pv1, .lit (.int .i64 0)]) rfl rfl (by simp only [go_sem]; simp only [fillL, Sl.cells h1]; rfl) (Opl.box (cs := [pv1, .lit (.int .i64 0)]) rfl rfl rfl rfl ?_)))))
 rintro i1 S h2 u1 w1
 have ap1 := w1.sameP hs0
 have h3 := u1.sameP hs0 ap1
 refine Opl.p1 (n := Opl.nil ?_)
 obtain rfl := Option.some.inj H
 refine Evr.ret1 Try.func84 rfl ?_
 exact ⟨_, _, rfl, h1, h2, (OutT.new0 ap1), h3⟩
theorem spec_l40Rd_pick.evb {k : Nat} {S0 : Sto} {l0_0 : List Int} {a0_1 : Int} {i0 : Abs.Id} {q0 : PV} (hq0 : Sl (cInt .u8) l0_0 q0) (hb0 : Box (.ptr i0 0) [q0, .lit (.int .i64 a0_1)] S0) {a1 : Int} {r : Int × Int} (H : spec_l40Rd_pick.f k l0_0 a0_1 a1 = some r) : RetS Try.prog 96 [.ptr i0 0, .lit (.int .i64 a1)] S0 fun v S => v = .lit (.int .i64 r.2) ∧ Box (.ptr i0 0) [q0, .lit (.int .i64 r.1)] S ∧ Same S0 S [i0] := by
 have hs0 : Same S0 S0 [i0] := .refl _ _
 unfold spec_l40Rd_pick.f at H
 refine RetS.intro Try.func96 rfl (Nat.le_of_ble_eq_true rfl) rfl ?_
 rw [tm2]
 refine Evr.sr rfl (Opl.p1 (n := Opl.nil (Evr.sr rfl (Opl.p1 (n := Opl.p1 (n := Opl.p1 (v := .ptr i0 0) (n := Opl.p1 (v := .ptr i0 1) (n := Opl.ldb (v := .lit (.int .i64 a0_1)) hb0 rfl T3 rfl rfl rfl rfl (Opl.add (k := .i64) (a := a0_1) (b := 1) K3 rfl rfl rfl rfl (Opl.p1 (v := .ptr i0 0) (n := Opl.p1 (v := .ptr i0 1) (n := Opl.stb (vs := [.lit (.int .i64 (wrap64 (a0_1 + 1)))]) hb0 rfl rfl Z3 rfl (Nat.le_of_ble_eq_true rfl) rfl rfl rfl rfl ?_))))))))))))
 rintro S (h1 : Box (.ptr i0 0) [q0, .lit (.int .i64 (wrap64 (a0_1 + 1)))] _) u1
 have h2 := u1.sameP hs0 OutT.box
 refine Opl.nil (Evr.seq (Evr.sr rfl (Opl.one (v := .lit (.int .i64 a1)) rfl rfl rfl (Opl.p1 (n := Opl.one (v := .lit (.bool (decide (a1 < 1)))) rfl rfl rfl ?_)))))
 by_cases c1 : a1 < 1
 case pos =>
  rw [if_pos c1] at H
  have e1 : (decide (a1 < 1)) = true := by simpa using c1
  try rw [e1]
  refine Opl.skp rfl (Opl.skp rfl (Opl.skp rfl (Opl.skp rfl (Opl.skp rfl (Opl.skp rfl (Opl.p1 (n := Opl.nil (Evr.condT rfl (Evr.sr rfl (Opl.one (v := .lit (.int .i64 0)) rfl rfl rfl (Opl.nil ?_)))))))))))
  obtain rfl := Option.some.inj H
  refine Evr.ret1 Try.func96 rfl ?_
  exact ⟨(by first | rfl | (simp only [go_sem]; rfl)), h1, h2⟩
 rw [if_neg c1] at H
 have e2 : (decide (a1 < 1)) = false := by simpa using c1
 try rw [e2]
 refine Opl.one (v := .ptr i0 0) rfl rfl rfl (Opl.p1 (v := .ptr i0 0) (n := Opl.p1 (v := .ptr i0 0) (n := Opl.ldb (v := q0) h1 rfl T49 rfl rfl rfl rfl (Opl.len (xs := l0_0) (by exact hq0) K49 rfl rfl rfl rfl (Opl.p1 (n := Opl.p1 (n := Opl.nil ?_)))))))
 by_cases c2 : (l0_0.length : Int) = 0
 case pos =>
  rw [if_pos c2] at H
  have e3 : ((l0_0.length : Int) == 0) = true := by simpa using c2
  try rw [e3]
  refine Evr.condT rfl (Evr.sr rfl (Opl.one (v := .lit (.int .i64 0)) rfl rfl rfl (Opl.nil ?_)))
  obtain rfl := Option.some.inj H
  refine Evr.ret1 Try.func96 rfl ?_
  exact ⟨(by first | rfl | (simp only [go_sem]; rfl)), h1, h2⟩
 rw [if_neg c2] at H
 have e4 : ((l0_0.length : Int) == 0) = false := by simpa using c2
 try rw [e4]
 refine Evr.condF rfl (Evr.skip (Evr.sr rfl (Opl.one (v := .ptr i0 0) rfl rfl rfl (Opl.p1 (v := .ptr i0 0) (n := Opl.p1 (v := .ptr i0 1) (n := Opl.ldb (v := .lit (.int .i64 (wrap64 (a0_1 + 1)))) h1 rfl T3 rfl rfl rfl rfl (Opl.subi (k := .i64) (a := (wrap64 (a0_1 + 1))) (b := 1) K3 rfl rfl rfl rfl (Opl.one (v := .lit (.int .i64 (wrap64 ((wrap64 (a0_1 + 1)) - 1)))) rfl rfl rfl (Opl.nil (Evr.seq (Evr.sr rfl (Opl.one (v := .lit (.int .i64 (wrap64 ((wrap64 (a0_1 + 1)) - 1)))) rfl rfl rfl (Opl.one (v := .ptr i0 0) rfl rfl rfl (Opl.p1 (v := .ptr i0 0) (n := Opl.p1 (v := .ptr i0 0) (n := Opl.ldb (v := q0) h1 rfl T49 rfl rfl rfl rfl (Opl.len (xs := l0_0) (by exact hq0) K49 rfl rfl rfl rfl (Opl.lss (a := (wrap64 ((wrap64 (a0_1 + 1)) - 1))) (b := (l0_0.length : Int)) K3 rfl rfl rfl rfl (Opl.nil ?_)))))))))))))))))))
 by_cases c3 : (wrap64 ((wrap64 (a0_1 + 1)) - 1)) < (l0_0.length : Int)
 case pos =>
  rw [if_pos c3] at H
  have e5 : (decide ((wrap64 ((wrap64 (a0_1 + 1)) - 1)) < (l0_0.length : Int))) = true := by simpa using c3
  try rw [e5]
  refine Evr.condT rfl (Evr.sr rfl (Opl.one (v := .ptr i0 0) rfl rfl rfl (Opl.p1 (v := .ptr i0 0) (n := Opl.p1 (v := .ptr i0 0) (n := Opl.ldb (v := q0) h1 rfl T49 rfl rfl rfl rfl (Opl.one (v := .lit (.int .i64 (wrap64 ((wrap64 (a0_1 + 1)) - 1)))) rfl rfl rfl ?_))))))
  obtain ⟨c4, H⟩ := peel H
  obtain ⟨c5, H⟩ := peel H
  obtain ⟨c6, H⟩ := peel H
  refine Opl.idx (M := (cInt .u8)) (xs := l0_0) (j := (wrap64 ((wrap64 (a0_1 + 1)) - 1))) (0 : Int) (by exact hq0) rfl (by omega) (by omega) K49 Z5 rfl rfl ?_
  rintro p1 q1 h3
  obtain rfl : p1 = [.lit (.int .u8 (rd l0_0 (wrap64 ((wrap64 (a0_1 + 1)) - 1))))] := h3
  refine Opl.lda (.lit (.int .u8 (rd l0_0 (wrap64 ((wrap64 (a0_1 + 1)) - 1))))) rfl T5 rfl rfl rfl rfl (Opl.p1 (v := .lit (.int .i64 (wrap64 (rd l0_0 (wrap64 ((wrap64 (a0_1 + 1)) - 1)))))) (n := Opl.one (v := .lit (.int .i64 a1)) rfl rfl rfl (Opl.one (v := .lit (.int .i64 (Int.tmod (wrap64 (rd l0_0 (wrap64 ((wrap64 (a0_1 + 1)) - 1)))) a1))) rfl rfl (by simp only [go_sem]; rw [if_neg (by first | assumption | decide | omega)]; rfl) (Opl.one (v := .lit (.int .i64 (Int.tmod (wrap64 (rd l0_0 (wrap64 ((wrap64 (a0_1 + 1)) - 1)))) a1))) rfl rfl rfl (Opl.nil ?_)))))
  obtain rfl := Option.some.inj H
  refine Evr.ret1 Try.func96 rfl ?_
  exact ⟨(by first | rfl | (simp only [go_sem]; rfl)), h1, h2⟩
 rw [if_neg c3] at H
 have e6 : (decide ((wrap64 ((wrap64 (a0_1 + 1)) - 1)) < (l0_0.length : Int))) = false := by simpa using c3
 try rw [e6]
 refine Evr.condF rfl (Evr.skip (Evr.seq (Evr.regionD rfl (by kernel_rfl) (Opl.one (v := .ptr i0 0) rfl rfl rfl (Opl.p1 (v := .ptr i0 0) (n := Opl.p1 (v := .ptr i0 0) (n := Opl.ldb (v := q0) h1 rfl T49 rfl rfl rfl rfl (Opl.one (v := .lit (.int .i64 (wrap64 ((wrap64 (a0_1 + 1)) - 1)))) rfl rfl rfl (Opl.one (v := .ptr i0 0) rfl rfl rfl (Opl.p1 (v := .ptr i0 0) (n := Opl.p1 (v := .ptr i0 0) (n := Opl.ldb (v := q0) h1 rfl T49 rfl rfl rfl rfl (Opl.len (xs := l0_0) (by exact hq0) K49 rfl rfl rfl rfl ?_)))))))))))))
 obtain ⟨c7, H⟩ := peel H
 obtain ⟨c8, H⟩ := peel H
 obtain ⟨c9, H⟩ := peel H
 obtain ⟨c10, H⟩ := peel H
 obtain ⟨c11, H⟩ := peel H
 obtain ⟨c12, H⟩ := peel H
 obtain ⟨c13, H⟩ := peel H
 obtain ⟨c14, H⟩ := peel H
 refine Opl.one (v := .lit (.int .i64 (Int.tmod (wrap64 ((wrap64 (a0_1 + 1)) - 1)) (l0_0.length : Int)))) rfl rfl (by simp only [go_sem]; rw [if_neg (by first | assumption | decide | omega)]; rfl) (Opl.idx (M := (cInt .u8)) (xs := l0_0) (j := (Int.tmod (wrap64 ((wrap64 (a0_1 + 1)) - 1)) (l0_0.length : Int))) (0 : Int) (by exact hq0) rfl (by omega) (by omega) K49 Z5 rfl rfl ?_)
 rintro p2 q2 h4
 obtain rfl : p2 = [.lit (.int .u8 (rd l0_0 (Int.tmod (wrap64 ((wrap64 (a0_1 + 1)) - 1)) (l0_0.length : Int))))] := h4
 refine Opl.lda (.lit (.int .u8 (rd l0_0 (Int.tmod (wrap64 ((wrap64 (a0_1 + 1)) - 1)) (l0_0.length : Int))))) rfl T5 rfl rfl rfl rfl (Opl.p1 (v := .lit (.int .i64 (wrap64 (rd l0_0 (Int.tmod (wrap64 ((wrap64 (a0_1 + 1)) - 1)) (l0_0.length : Int)))))) (n := Opl.mul (k := .i64) (a := wrap64 (rd l0_0 (Int.tmod (wrap64 ((wrap64 (a0_1 + 1)) - 1)) (l0_0.length : Int)))) (b := 131) K3 rfl rfl rfl rfl (Opl.one (v := .ptr i0 0) rfl rfl rfl (Opl.p1 (v := .ptr i0 0) (n := Opl.p1 (v := .ptr i0 0) (n := Opl.ldb (v := q0) h1 rfl T49 rfl rfl rfl rfl (Opl.one (v := .lit (.int .i64 (wrap64 ((wrap64 (a0_1 + 1)) - 1)))) rfl rfl rfl (Opl.mul (k := .i64) (a := (wrap64 ((wrap64 (a0_1 + 1)) - 1))) (b := 7) K3 rfl rfl rfl rfl (Opl.add (k := .i64) (a := (wrap64 ((wrap64 ((wrap64 (a0_1 + 1)) - 1)) * 7))) (b := 3) K3 rfl rfl rfl rfl (Opl.one (v := .ptr i0 0) rfl rfl rfl (Opl.p1 (v := .ptr i0 0) (n := Opl.p1 (v := .ptr i0 0) (n := Opl.ldb (v := q0) h1 rfl T49 rfl rfl rfl rfl (Opl.len (xs := l0_0) (by exact hq0) K49 rfl rfl rfl rfl (Opl.one (v := .lit (.int .i64 (Int.tmod (wrap64 ((wrap64 ((wrap64 ((wrap64 (a0_1 + 1)) - 1)) * 7)) + 3)) (l0_0.length : Int)))) rfl rfl (by simp only [go_sem]; rw [if_neg (by first | assumption | decide | omega)]; rfl) (Opl.idx (M := (cInt .u8)) (xs := l0_0) (j := (Int.tmod (wrap64 ((wrap64 ((wrap64 ((wrap64 (a0_1 + 1)) - 1)) * 7)) + 3)) (l0_0.length : Int))) (0 : Int) (by exact hq0) rfl (by omega) (by omega) K49 Z5 rfl rfl ?_))))))))))))))))
 rintro p3 q3 h5
 obtain rfl : p3 = [.lit (.int .u8 (rd l0_0 (Int.tmod (wrap64 ((wrap64 ((wrap64 ((wrap64 (a0_1 + 1)) - 1)) * 7)) + 3)) (l0_0.length : Int))))] := h5
 refine Opl.lda (.lit (.int .u8 (rd l0_0 (Int.tmod (wrap64 ((wrap64 ((wrap64 ((wrap64 (a0_1 + 1)) - 1)) * 7)) + 3)) (l0_0.length : Int))))) rfl T5 rfl rfl rfl rfl (Opl.p1 (v := .lit (.int .i64 (wrap64 (rd l0_0 (Int.tmod (wrap64 ((wrap64 ((wrap64 ((wrap64 (a0_1 + 1)) - 1)) * 7)) + 3)) (l0_0.length : Int)))))) (n := Opl.mul (k := .i64) (a := wrap64 (rd l0_0 (Int.tmod (wrap64 ((wrap64 ((wrap64 ((wrap64 (a0_1 + 1)) - 1)) * 7)) + 3)) (l0_0.length : Int)))) (b := 1117) K3 rfl rfl rfl rfl (Opl.add (k := .i64) (a := (wrap64 ((wrap64 (rd l0_0 (Int.tmod (wrap64 ((wrap64 (a0_1 + 1)) - 1)) (l0_0.length : Int)))) * 131))) (b := (wrap64 ((wrap64 (rd l0_0 (Int.tmod (wrap64 ((wrap64 ((wrap64 ((wrap64 (a0_1 + 1)) - 1)) * 7)) + 3)) (l0_0.length : Int)))) * 1117))) K3 rfl rfl rfl rfl (Opl.one (v := .lit (.int .i64 (wrap64 ((wrap64 (a0_1 + 1)) - 1)))) rfl rfl rfl (Opl.mul (k := .i64) (a := (wrap64 ((wrap64 (a0_1 + 1)) - 1))) (b := 29) K3 rfl rfl rfl rfl (Opl.add (k := .i64) (a := (wrap64 ((wrap64 ((wrap64 (rd l0_0 (Int.tmod (wrap64 ((wrap64 (a0_1 + 1)) - 1)) (l0_0.length : Int)))) * 131)) + (wrap64 ((wrap64 (rd l0_0 (Int.tmod (wrap64 ((wrap64 ((wrap64 ((wrap64 (a0_1 + 1)) - 1)) * 7)) + 3)) (l0_0.length : Int)))) * 1117))))) (b := (wrap64 ((wrap64 ((wrap64 (a0_1 + 1)) - 1)) * 29))) K3 rfl rfl rfl rfl (Opl.one (v := .lit (.int .i64 (wrap64 ((wrap64 (a0_1 + 1)) - 1)))) rfl rfl rfl (Opl.one (v := .ptr i0 0) rfl rfl rfl (Opl.p1 (v := .ptr i0 0) (n := Opl.p1 (v := .ptr i0 0) (n := Opl.ldb (v := q0) h1 rfl T49 rfl rfl rfl rfl (Opl.len (xs := l0_0) (by exact hq0) K49 rfl rfl rfl rfl (Opl.one (v := .lit (.int .i64 (wrap64 (Int.tdiv (wrap64 ((wrap64 (a0_1 + 1)) - 1)) (l0_0.length : Int))))) rfl rfl (by simp only [go_sem]; rw [if_neg (by first | assumption | decide | omega)]; rfl) (Opl.mul (k := .i64) (a := (wrap64 (Int.tdiv (wrap64 ((wrap64 (a0_1 + 1)) - 1)) (l0_0.length : Int)))) (b := 53) K3 rfl rfl rfl rfl (Opl.add (k := .i64) (a := (wrap64 ((wrap64 ((wrap64 ((wrap64 (rd l0_0 (Int.tmod (wrap64 ((wrap64 (a0_1 + 1)) - 1)) (l0_0.length : Int)))) * 131)) + (wrap64 ((wrap64 (rd l0_0 (Int.tmod (wrap64 ((wrap64 ((wrap64 ((wrap64 (a0_1 + 1)) - 1)) * 7)) + 3)) (l0_0.length : Int)))) * 1117)))) + (wrap64 ((wrap64 ((wrap64 (a0_1 + 1)) - 1)) * 29))))) (b := (wrap64 ((wrap64 (Int.tdiv (wrap64 ((wrap64 (a0_1 + 1)) - 1)) (l0_0.length : Int))) * 53))) K3 rfl rfl rfl rfl (Opl.one (v := .lit (.int .i64 (wrap64 ((wrap64 ((wrap64 ((wrap64 ((wrap64 (rd l0_0 (Int.tmod (wrap64 ((wrap64 (a0_1 + 1)) - 1)) (l0_0.length : Int)))) * 131)) + (wrap64 ((wrap64 (rd l0_0 (Int.tmod (wrap64 ((wrap64 ((wrap64 ((wrap64 (a0_1 + 1)) - 1)) * 7)) + 3)) (l0_0.length : Int)))) * 1117)))) + (wrap64 ((wrap64 ((wrap64 (a0_1 + 1)) - 1)) * 29)))) + (wrap64 ((wrap64 (Int.tdiv (wrap64 ((wrap64 (a0_1 + 1)) - 1)) (l0_0.length : Int))) * 53)))))) rfl rfl rfl (Opl.nil (Evr.sr rfl (Opl.one (v := .lit (.int .i64 (wrap64 ((wrap64 ((wrap64 ((wrap64 ((wrap64 (rd l0_0 (Int.tmod (wrap64 ((wrap64 (a0_1 + 1)) - 1)) (l0_0.length : Int)))) * 131)) + (wrap64 ((wrap64 (rd l0_0 (Int.tmod (wrap64 ((wrap64 ((wrap64 ((wrap64 (a0_1 + 1)) - 1)) * 7)) + 3)) (l0_0.length : Int)))) * 1117)))) + (wrap64 ((wrap64 ((wrap64 (a0_1 + 1)) - 1)) * 29)))) + (wrap64 ((wrap64 (Int.tdiv (wrap64 ((wrap64 (a0_1 + 1)) - 1)) (l0_0.length : Int))) * 53)))))) rfl rfl rfl (Opl.one (v := .lit (.int .i64 (wrap64 ((wrap64 ((wrap64 ((wrap64 ((wrap64 (rd l0_0 (Int.tmod (wrap64 ((wrap64 (a0_1 + 1)) - 1)) (l0_0.length : Int)))) * 131)) + (wrap64 ((wrap64 (rd l0_0 (Int.tmod (wrap64 ((wrap64 ((wrap64 ((wrap64 (a0_1 + 1)) - 1)) * 7)) + 3)) (l0_0.length : Int)))) * 1117)))) + (wrap64 ((wrap64 ((wrap64 (a0_1 + 1)) - 1)) * 29)))) + (wrap64 ((wrap64 (Int.tdiv (wrap64 ((wrap64 (a0_1 + 1)) - 1)) (l0_0.length : Int))) * 53)))))) rfl rfl rfl (Opl.one (v := .lit (.int .i64 (wrap64 (Int.tdiv (wrap64 ((wrap64 ((wrap64 ((wrap64 ((wrap64 (rd l0_0 (Int.tmod (wrap64 ((wrap64 (a0_1 + 1)) - 1)) (l0_0.length : Int)))) * 131)) + (wrap64 ((wrap64 (rd l0_0 (Int.tmod (wrap64 ((wrap64 ((wrap64 ((wrap64 (a0_1 + 1)) - 1)) * 7)) + 3)) (l0_0.length : Int)))) * 1117)))) + (wrap64 ((wrap64 ((wrap64 (a0_1 + 1)) - 1)) * 29)))) + (wrap64 ((wrap64 (Int.tdiv (wrap64 ((wrap64 (a0_1 + 1)) - 1)) (l0_0.length : Int))) * 53)))) 64)))) rfl rfl (by simp only [go_sem]; rw [if_neg (by first | assumption | decide | omega)]; rfl) (Opl.one (v := .lit (.int .i64 (Go.bits .xor .i64 (wrap64 ((wrap64 ((wrap64 ((wrap64 ((wrap64 (rd l0_0 (Int.tmod (wrap64 ((wrap64 (a0_1 + 1)) - 1)) (l0_0.length : Int)))) * 131)) + (wrap64 ((wrap64 (rd l0_0 (Int.tmod (wrap64 ((wrap64 ((wrap64 ((wrap64 (a0_1 + 1)) - 1)) * 7)) + 3)) (l0_0.length : Int)))) * 1117)))) + (wrap64 ((wrap64 ((wrap64 (a0_1 + 1)) - 1)) * 29)))) + (wrap64 ((wrap64 (Int.tdiv (wrap64 ((wrap64 (a0_1 + 1)) - 1)) (l0_0.length : Int))) * 53)))) (wrap64 (Int.tdiv (wrap64 ((wrap64 ((wrap64 ((wrap64 ((wrap64 (rd l0_0 (Int.tmod (wrap64 ((wrap64 (a0_1 + 1)) - 1)) (l0_0.length : Int)))) * 131)) + (wrap64 ((wrap64 (rd l0_0 (Int.tmod (wrap64 ((wrap64 ((wrap64 ((wrap64 (a0_1 + 1)) - 1)) * 7)) + 3)) (l0_0.length : Int)))) * 1117)))) + (wrap64 ((wrap64 ((wrap64 (a0_1 + 1)) - 1)) * 29)))) + (wrap64 ((wrap64 (Int.tdiv (wrap64 ((wrap64 (a0_1 + 1)) - 1)) (l0_0.length : Int))) * 53)))) 64))))) rfl rfl (by simp only [go_sem]; simp only [Go.bits, w64]; rfl) (Opl.one (v := .lit (.int .i64 (Go.bits .xor .i64 (wrap64 ((wrap64 ((wrap64 ((wrap64 ((wrap64 (rd l0_0 (Int.tmod (wrap64 ((wrap64 (a0_1 + 1)) - 1)) (l0_0.length : Int)))) * 131)) + (wrap64 ((wrap64 (rd l0_0 (Int.tmod (wrap64 ((wrap64 ((wrap64 ((wrap64 (a0_1 + 1)) - 1)) * 7)) + 3)) (l0_0.length : Int)))) * 1117)))) + (wrap64 ((wrap64 ((wrap64 (a0_1 + 1)) - 1)) * 29)))) + (wrap64 ((wrap64 (Int.tdiv (wrap64 ((wrap64 (a0_1 + 1)) - 1)) (l0_0.length : Int))) * 53)))) (wrap64 (Int.tdiv (wrap64 ((wrap64 ((wrap64 ((wrap64 ((wrap64 (rd l0_0 (Int.tmod (wrap64 ((wrap64 (a0_1 + 1)) - 1)) (l0_0.length : Int)))) * 131)) + (wrap64 ((wrap64 (rd l0_0 (Int.tmod (wrap64 ((wrap64 ((wrap64 ((wrap64 (a0_1 + 1)) - 1)) * 7)) + 3)) (l0_0.length : Int)))) * 1117)))) + (wrap64 ((wrap64 ((wrap64 (a0_1 + 1)) - 1)) * 29)))) + (wrap64 ((wrap64 (Int.tdiv (wrap64 ((wrap64 (a0_1 + 1)) - 1)) (l0_0.length : Int))) * 53)))) 64))))) rfl rfl rfl (Opl.nil (Evr.sr rfl (Opl.one (v := .lit (.int .i64 (Go.bits .xor .i64 (wrap64 ((wrap64 ((wrap64 ((wrap64 ((wrap64 (rd l0_0 (Int.tmod (wrap64 ((wrap64 (a0_1 + 1)) - 1)) (l0_0.length : Int)))) * 131)) + (wrap64 ((wrap64 (rd l0_0 (Int.tmod (wrap64 ((wrap64 ((wrap64 ((wrap64 (a0_1 + 1)) - 1)) * 7)) + 3)) (l0_0.length : Int)))) * 1117)))) + (wrap64 ((wrap64 ((wrap64 (a0_1 + 1)) - 1)) * 29)))) + (wrap64 ((wrap64 (Int.tdiv (wrap64 ((wrap64 (a0_1 + 1)) - 1)) (l0_0.length : Int))) * 53)))) (wrap64 (Int.tdiv (wrap64 ((wrap64 ((wrap64 ((wrap64 ((wrap64 (rd l0_0 (Int.tmod (wrap64 ((wrap64 (a0_1 + 1)) - 1)) (l0_0.length : Int)))) * 131)) + (wrap64 ((wrap64 (rd l0_0 (Int.tmod (wrap64 ((wrap64 ((wrap64 ((wrap64 (a0_1 + 1)) - 1)) * 7)) + 3)) (l0_0.length : Int)))) * 1117)))) + (wrap64 ((wrap64 ((wrap64 (a0_1 + 1)) - 1)) * 29)))) + (wrap64 ((wrap64 (Int.tdiv (wrap64 ((wrap64 (a0_1 + 1)) - 1)) (l0_0.length : Int))) * 53)))) 64))))) rfl rfl rfl (Opl.one (v := .lit (.int .i64 a1)) rfl rfl rfl (Opl.one (v := .lit (.int .i64 (Int.tmod (Go.bits .xor .i64 (wrap64 ((wrap64 ((wrap64 ((wrap64 ((wrap64 (rd l0_0 (Int.tmod (wrap64 ((wrap64 (a0_1 + 1)) - 1)) (l0_0.length : Int)))) * 131)) + (wrap64 ((wrap64 (rd l0_0 (Int.tmod (wrap64 ((wrap64 ((wrap64 ((wrap64 (a0_1 + 1)) - 1)) * 7)) + 3)) (l0_0.length : Int)))) * 1117)))) + (wrap64 ((wrap64 ((wrap64 (a0_1 + 1)) - 1)) * 29)))) + (wrap64 ((wrap64 (Int.tdiv (wrap64 ((wrap64 (a0_1 + 1)) - 1)) (l0_0.length : Int))) * 53)))) (wrap64 (Int.tdiv (wrap64 ((wrap64 ((wrap64 ((wrap64 ((wrap64 (rd l0_0 (Int.tmod (wrap64 ((wrap64 (a0_1 + 1)) - 1)) (l0_0.length : Int)))) * 131)) + (wrap64 ((wrap64 (rd l0_0 (Int.tmod (wrap64 ((wrap64 ((wrap64 ((wrap64 (a0_1 + 1)) - 1)) * 7)) + 3)) (l0_0.length : Int)))) * 1117)))) + (wrap64 ((wrap64 ((wrap64 (a0_1 + 1)) - 1)) * 29)))) + (wrap64 ((wrap64 (Int.tdiv (wrap64 ((wrap64 (a0_1 + 1)) - 1)) (l0_0.length : Int))) * 53)))) 64))) a1))) rfl rfl (by simp only [go_sem]; rw [if_neg (by first | assumption | decide | omega)]; rfl) (Opl.one (v := .lit (.int .i64 (Int.tmod (Go.bits .xor .i64 (wrap64 ((wrap64 ((wrap64 ((wrap64 ((wrap64 (rd l0_0 (Int.tmod (wrap64 ((wrap64 (a0_1 + 1)) - 1)) (l0_0.length : Int)))) * 131)) + (wrap64 ((wrap64 (rd l0_0 (Int.tmod (wrap64 ((wrap64 ((wrap64 ((wrap64 (a0_1 + 1)) - 1)) * 7)) + 3)) (l0_0.length : Int)))) * 1117)))) + (wrap64 ((wrap64 ((wrap64 (a0_1 + 1)) - 1)) * 29)))) + (wrap64 ((wrap64 (Int.tdiv (wrap64 ((wrap64 (a0_1 + 1)) - 1)) (l0_0.length : Int))) * 53)))) (wrap64 (Int.tdiv (wrap64 ((wrap64 ((wrap64 ((wrap64 ((wrap64 (rd l0_0 (Int.tmod (wrap64 ((wrap64 (a0_1 + 1)) - 1)) (l0_0.length : Int)))) * 131)) + (wrap64 ((wrap64 (rd l0_0 (Int.tmod (wrap64 ((wrap64 ((wrap64 ((wrap64 (a0_1 + 1)) - 1)) * 7)) + 3)) (l0_0.length : Int)))) * 1117)))) + (wrap64 ((wrap64 ((wrap64 (a0_1 + 1)) - 1)) * 29)))) + (wrap64 ((wrap64 (Int.tdiv (wrap64 ((wrap64 (a0_1 + 1)) - 1)) (l0_0.length : Int))) * 53)))) 64))) a1))) rfl rfl rfl (Opl.nil ?_))))))))))))))))))))))))))))))
 obtain rfl := Option.some.inj H
 refine Evr.ret1 Try.func96 rfl ?_
 exact ⟨(by first | rfl | (simp only [go_sem]; rfl)), h1, h2⟩
theorem spec_l40Rd_num.evb {k : Nat} {S0 : Sto} {l0_0 : List Int} {a0_1 : Int} {i0 : Abs.Id} {q0 : PV} (hq0 : Sl (cInt .u8) l0_0 q0) (hb0 : Box (.ptr i0 0) [q0, .lit (.int .i64 a0_1)] S0) {l1 : List Int} {v1 : PV} (hv1 : Sl (cInt .i64) l1 v1) {r : Int × Int} (H : spec_l40Rd_num.f k l0_0 a0_1 l1 = some r) : RetS Try.prog 97 [.ptr i0 0, v1] S0 fun v S => v = .lit (.int .i64 r.2) ∧ Box (.ptr i0 0) [q0, .lit (.int .i64 r.1)] S ∧ Same S0 S [i0] := by
 have hs0 : Same S0 S0 [i0] := .refl _ _
 unfold spec_l40Rd_num.f at H
 refine RetS.intro Try.func97 rfl (Nat.le_of_ble_eq_true rfl) rfl ?_
 rw [tm2]
 refine Evr.sr rfl (Opl.p1 (n := Opl.nil (Evr.sr rfl (Opl.p1 (n := Opl.p1 (n := Opl.p1 (n := Opl.len (xs := l1) (by exact hv1) K22 rfl rfl rfl rfl ?_)))))))
 obtain ⟨r1, h_r1, H⟩ := Option.bind_eq_some_iff.1 H
 refine Opl.calls (spec_l40Rd_pick.evb hq0 hb0 h_r1) rfl rfl rfl rfl rfl ?_
 rintro _ S ⟨rfl, h1, u1⟩
 have h2 := u1.sameP hs0 OutT.box
 obtain ⟨c1, H⟩ := peel H
 obtain ⟨c2, H⟩ := peel H
 refine Opl.idx (M := (cInt .i64)) (xs := l1) (j := r1.2) (0 : Int) (by exact hv1) rfl (by omega) (by omega) K22 Z3 rfl rfl ?_
 rintro p1 q1 h3
 obtain rfl : p1 = [.lit (.int .i64 (rd l1 r1.2))] := h3
 refine Opl.lda (.lit (.int .i64 (rd l1 r1.2))) rfl T3 rfl rfl rfl rfl (Opl.p1 (n := Opl.nil ?_))
 obtain rfl := Option.some.inj H
 refine Evr.ret1 Try.func97 rfl ?_
 exact ⟨(by first | rfl | (simp only [go_sem]; rfl)), h1, h2⟩
theorem spec_l7Draw.evb {k : Nat} {S0 : Sto} {l0_0 : List Int} {a0_1 : Int} {i0 : Abs.Id} {q0 : PV} (hq0 : Sl (cInt .u8) l0_0 q0) (hb0 : Box (.ptr i0 0) [q0, .lit (.int .i64 a0_1)] S0) {a1 : Int} {r : Int × (Int × List IAnd)} (H : spec_l7Draw.f k l0_0 a0_1 a1 = some r) : RetS Try.prog 95 [.ptr i0 0, .lit (.int .i64 a1)] S0 fun v S => ∃ v_0 v_1, v = .agg [v_0, v_1] ∧ v_0 = .lit (.int .i64 r.2.1) ∧ Vec cIAnd r.2.2 v_1 S ∧ New S0 v_1 ∧ Box (.ptr i0 0) [q0, .lit (.int .i64 r.1)] S ∧ Same S0 S [i0] := by
 have hs0 : Same S0 S0 [i0] := .refl _ _
 unfold spec_l7Draw.f at H
 refine RetS.intro Try.func95 rfl (Nat.le_of_ble_eq_true rfl) rfl ?_
 rw [tm2]
 refine Evr.sr rfl (Opl.alloc T42 rfl rfl rfl ?_)
 rintro i1 S h1 u1 w1
 have ap1 := w1.sameP hs0
 have h2 := u1.sameP hs0 ap1
 have ap2 := w1.box hb0
 have h3 := u1.box hb0 ap2
 refine Opl.nil (Evr.sr rfl (Opl.p1 (n := Opl.p1 (n := Opl.add (k := .i64) (a := a1) (b := 1) K3 rfl rfl rfl rfl ?_))))
 obtain ⟨r1, h_r1, H⟩ := Option.bind_eq_some_iff.1 H
 refine Opl.calls (spec_l40Rd_pick.evb hq0 h3 h_r1) rfl rfl rfl rfl rfl ?_
 rintro _ S ⟨rfl, h4, u2⟩
 have h5 := u2.sameP h2 OutT.box
 have h6 := u2.box h1 (ap2.symm).pt
 refine Opl.p1 (v := .agg [.lit (.int .i64 r1.2), .lit (.slice none 0 0)]) (n := Opl.alloc T42 rfl rfl rfl ?_)
 rintro i2 S h7 u3 w2
 have ap3 := w2.sameP h5
 have h8 := u3.sameP h5 ap3
 have ap4 := w2.box h4
 have h9 := u3.box h4 ap4
 have ap5 := w2.box h6
 have h10 := u3.box h6 ap5
 refine Opl.stb (vs := [.lit (.int .i64 r1.2), .lit (.slice none 0 0)]) h7 rfl rfl Z42 rfl (Nat.le_of_ble_eq_true rfl) rfl rfl rfl rfl ?_
 rintro S (h11 : Box (.ptr i2 0) [.lit (.int .i64 r1.2), .lit (.slice none 0 0)] _) u4
 have h12 := u4.sameP h8 ap3
 have h13 := u4.box h9 ap4
 have h14 := u4.box h10 ap5
 refine Opl.nil (Evr.seq (Evr.sr rfl (Opl.one (v := .ptr i0 0) rfl rfl rfl (Opl.liti (M := (cInt .i64)) (ys := [3, 6, 10, 1, 14, 0]) [.const (.int .i64 3), .const (.int .i64 6), .const (.int .i64 10), .const (.int .i64 1), .const (.int .i64 14), .const (.int .i64 0)] K22 T3 rfl rfl rfl (by exact ⟨rfl, rfl, rfl, rfl, rfl, rfl, trivial⟩) rfl (by decide) rfl rfl ?_))))
 rintro pv2 h15
 obtain ⟨r2, h_r2, H⟩ := Option.bind_eq_some_iff.1 H
 refine Opl.calls (spec_l40Rd_num.evb hq0 h13 h15 h_r2) rfl rfl rfl rfl rfl ?_
 rintro _ S ⟨rfl, h16, u5⟩
 have h17 := u5.sameP h12 OutT.box
 have h18 := u5.box h14 (ap2.symm).pt
 have h19 := u5.box h11 (ap4.symm).pt
 refine Opl.one (v := .lit (.int .i64 r2.2)) rfl rfl rfl (Opl.nil (Evr.block ?_))
 refine Evr.loop (Evr.rounds (n := k) (Inv := fun n tm S => n ≤ k ∧ ∃ (x0b1_1 : Int) (x5b1_1 : List IAnd) (x6_1 : Int) (i3 : Abs.Id) (pv3 : PV) (i4 : Abs.Id), spec_l7Draw.l1 n x0b1_1 x5b1_1 x6_1 l0_0 r1 = some r ∧ Has tm [(0, .ptr i0 0), (4, .ptr i3 0), (5, .ptr i4 0), (6, .lit (.int .i64 x6_1))] ∧ Box (.ptr i0 0) [q0, .lit (.int .i64 x0b1_1)] S ∧ Box (.ptr i3 0) [.lit (.int .i64 0), .lit (.slice none 0 0)] S ∧ Vec cIAnd x5b1_1 pv3 S ∧ Box (.ptr i4 0) [.lit (.int .i64 r1.2), pv3] S ∧ Same S0 S [i0] ∧ OutT S0 [i0] (PV.ptr i3 0).id?.toList ∧ OutT S0 [i0] (PV.id? pv3).toList ∧ OutT S0 [i0] (PV.ptr i4 0).id?.toList ∧ Ap (.ptr i0 0) (.ptr i3 0) ∧ Ap (.ptr i0 0) pv3 ∧ Ap (.ptr i0 0) (.ptr i4 0) ∧ Ap (.ptr i3 0) pv3 ∧ Ap (.ptr i3 0) (.ptr i4 0) ∧ Ap pv3 (.ptr i4 0)) ?_ ?_ ?_)
 · exact ⟨Nat.le_refl _, _, _, _, _, _, _, H, ⟨rfl, rfl, rfl, rfl, trivial⟩, h16, h18, .nil, h19, h17, ap1, OutT.lit, ap3, ap2, Ap.nil.symm, ap4, Ap.nil.symm, ap5, .nil⟩
 ·
  rintro tm S ⟨_, _, _, _, _, _, _, H, -⟩
  simp [spec_l7Draw.l1] at H
 ·
  rintro n1 ih1 tm S ⟨hle, x0b1_1, x5b1_1, x6_1, i3, pv3, i4, H, hh, h20, h21, h23, h22, h24, o1, o2, o3, ap6, ap7, ap8, ap9, ap10, ap11⟩
  simp only [spec_l7Draw.l1] at H
  rw [hh.eq]
  refine Evr.seq (Evr.sr rfl (Opl.p1 (n := Opl.p1 (n := Opl.nil ?_))))
  by_cases c1 : x6_1 > 0
  case neg =>
   rw [if_neg c1] at H
   have e2 : (decide (x6_1 > 0)) = false := by simpa using c1
   try rw [e2]
   refine Evr.condF rfl (Evr.exit rfl (Evr.sr rfl (Opl.ldb (v := .agg [.lit (.int .i64 r1.2), pv3]) h22 rfl T42 rfl rfl rfl rfl (Opl.stb (vs := [.lit (.int .i64 r1.2), pv3]) h21 rfl rfl Z42 rfl (Nat.le_of_ble_eq_true rfl) (by simp only [List.all_cons, List.all_nil, Vec.one h23, Bool.and_true, Bool.true_and] <;> rfl) rfl rfl rfl ?_))))
   rintro S (h48 : Box (.ptr i3 0) [.lit (.int .i64 r1.2), pv3] _) u10
   have h49 := u10.box h20 ap6
   have h50 := u10.vec h23 ap9.symm
   have h51 := u10.box h22 ap10.symm
   have h52 := u10.sameP h24 o1
   refine Opl.nil ?_
   obtain rfl := Option.some.inj H
   refine Evr.retb (v := .agg [.lit (.int .i64 r1.2), pv3]) Try.func95 rfl h48 rfl T42 rfl ?_
   exact ⟨_, _, rfl, (by first | rfl | (simp only [go_sem]; rfl)), h50, (OutT.new (i := i0) o2 ap7.symm), h49, h52⟩
  rw [if_pos c1] at H
  have e1 : (decide (x6_1 > 0)) = true := by simpa using c1
  try rw [e1]
  refine Evr.condT rfl (Evr.skip (Evr.seq (Evr.block (Evr.sr rfl (Opl.ldb (v := .agg [.lit (.int .i64 r1.2), pv3]) h22 rfl T42 rfl rfl rfl rfl ?_)))))
  obtain ⟨r3, h_r3, H⟩ := Option.bind_eq_some_iff.1 H
  obtain ⟨pv4, h25, -, h26⟩ := Out.vec h23
  refine Opl.callw (spec_l7Nodes.ev h26 h_r3) rfl rfl rfl (.cons (ViewL.agg (.cons (.refl _) (.cons h25 .nil))) .nil) ⟨(.aggL ⟨(.lit _), h26.plain, trivial⟩), trivial⟩ (by decide) (Opl.mul (k := .i64) (a := 2) (b := r3) K3 rfl rfl rfl rfl (Opl.one (v := .lit (.int .i64 (wrap64 (2 * r3)))) rfl rfl rfl (Opl.nil (Evr.regionL [(4, .m), (11, .m), (14, .p), (1, .q)] rfl (by kernel_rfl) (Opl.p1 (v := .ptr i4 1) (n := Opl.ldbk (v := pv3) h22 (rd_vec h23) rfl T40 rfl rfl rfl rfl (Opl.one (v := .ptr i0 0) rfl rfl rfl (Opl.one (v := .lit (.int .i64 (wrap64 (2 * r3)))) rfl rfl rfl ?_))))))))
  obtain ⟨r4, h_r4, H⟩ := Option.bind_eq_some_iff.1 H
  refine Opl.callbm h20 (spec_l40Rd_pick.evb hq0 h20 h_r4) rfl rfl rfl rfl rfl ?_
  rintro _ S rfl h27 u6
  have h28 := u6.box h21 (ap6.symm).pt
  have h29 := u6.vec h23 (ap7.symm).pt
  have h30 := u6.box h22 (ap8.symm).pt
  have h31 := u6.sameP h24 OutT.box
  refine Opl.one (v := .lit (.int .i64 (wrap64 (2 * r3)))) rfl rfl rfl (Opl.subi (k := .i64) (a := (wrap64 (2 * r3))) (b := 1) K3 rfl rfl rfl rfl (Opl.one (v := .ptr i0 0) rfl rfl rfl (Opl.one (v := .lit (.int .i64 (wrap64 (2 * r3)))) rfl rfl rfl (Opl.add (k := .i64) (a := (wrap64 (2 * r3))) (b := 1) K3 rfl rfl rfl rfl (Opl.one (v := .lit (.int .i64 (wrap64 (Int.tdiv (wrap64 ((wrap64 (2 * r3)) + 1)) 2)))) rfl rfl (by simp only [go_sem]; rw [if_neg (by first | assumption | decide | omega)]; rfl) ?_)))))
  obtain ⟨r5, h_r5, H⟩ := Option.bind_eq_some_iff.1 H
  refine Opl.callbm h27 (spec_l40Rd_pick.evb hq0 h27 h_r5) rfl rfl rfl rfl rfl ?_
  rintro _ S rfl h32 u7
  have h33 := u7.box h28 (ap6.symm).pt
  have h34 := u7.vec h29 (ap7.symm).pt
  have h35 := u7.box h30 (ap8.symm).pt
  have h36 := u7.sameP h31 OutT.box
  refine Opl.subi (k := .i64) (a := (wrap64 ((wrap64 (2 * r3)) - 1))) (b := r5.2) K3 rfl rfl rfl rfl (Opl.p1 (v := .agg [.lit (.int .i64 r4.2), .lit (.int .i64 (wrap64 ((wrap64 ((wrap64 (2 * r3)) - 1)) - r5.2)))]) (n := Opl.liti (M := cIAnd) (ys := [(⟨r4.2, (wrap64 ((wrap64 ((wrap64 (2 * r3)) - 1)) - r5.2))⟩ : IAnd)]) [.tmp 36] K40 T69 rfl rfl rfl (by exact ⟨cIAnd_mk, trivial⟩) rfl (by decide) rfl rfl ?_))
  rintro pv6 h37
  obtain ⟨c2, H⟩ := peel H
  refine Opl.app (M := cIAnd) (xs := x5b1_1) (ys := [(⟨r4.2, (wrap64 ((wrap64 ((wrap64 (2 * r3)) - 1)) - r5.2))⟩ : IAnd)]) (v := pv3) h34 (.sl h37) oIAnd rfl rfl K40 T69 rfl rfl (by (try simp only [List.length_cons, List.length_nil]); omega) (by show (_ + _) * 16 ≤ 140737488355328; (try simp only [List.length_cons, List.length_nil]); omega) rfl rfl rfl rfl rfl ?_
  rintro pv7 S h38 u8 w4
  have ap12 := w4.box h32
  have h39 := u8.box h32 ap7
  have ap13 := w4.box h33
  have h40 := u8.box h33 ap9
  have ap14 := w4.box h35
  have h41 := u8.box h35 ap11.symm
  have ap15 := w4.sameP h36
  have h42 := u8.sameP h36 o2
  refine Opl.p1 (v := .ptr i4 1) (n := Opl.stb (vs := [pv7]) h41 rfl (by exact Vec.cells h38) Z40 rfl (Nat.le_of_ble_eq_true rfl) (by simp only [List.all_cons, List.all_nil, Vec.one h38, Bool.and_true, Bool.true_and] <;> rfl) rfl rfl rfl ?_)
  rintro S (h43 : Box (.ptr i4 0) [.lit (.int .i64 r1.2), pv7] _) u9
  have h44 := u9.box h39 ap8
  have h45 := u9.box h40 ap10
  have h46 := u9.sameP h42 o3
  have h47 := u9.vec h38 ap14.symm
  refine Opl.nil (Evr.inBlock (Evr.regionN rfl (Opl.one (v := .lit (.int .i64 x6_1)) rfl rfl rfl (Opl.subi (k := .i64) (a := x6_1) (b := 1) K3 rfl rfl rfl rfl (Opl.one (v := .lit (.int .i64 (wrap64 (x6_1 - 1)))) rfl rfl rfl (Opl.nil ?_))))))
  exact ih1 _ (by omega) _ _ ⟨by omega, _, _, _, _, _, _, H, ⟨rfl, rfl, rfl, rfl, trivial⟩, h44, h45, h47, h43, h46, o1, ap15, o3, ap6, ap12, ap8, ap13, ap10, ap14.symm⟩
theorem spec_l7Any.evb {k : Nat} {S0 : Sto} {l0_0 : List Int} {a0_1 : Int} {i0 : Abs.Id} {q0 : PV} (hq0 : Sl (cInt .u8) l0_0 q0) (hb0 : Box (.ptr i0 0) [q0, .lit (.int .i64 a0_1)] S0) {a1 : Int} {r : Int × (Int × List IAnd)} (H : spec_l7Any.f k l0_0 a0_1 a1 = some r) : RetS Try.prog 85 [.ptr i0 0, .lit (.int .i64 a1)] S0 fun v S => ∃ v_0 v_1, v = .agg [v_0, v_1] ∧ v_0 = .lit (.int .i64 r.2.1) ∧ Sl cIAnd r.2.2 v_1 ∧ Box (.ptr i0 0) [q0, .lit (.int .i64 r.1)] S ∧ Same S0 S [i0] := by
 have hs0 : Same S0 S0 [i0] := .refl _ _
 unfold spec_l7Any.f at H
 refine RetS.intro Try.func85 rfl (Nat.le_of_ble_eq_true rfl) rfl ?_
 rw [tm2]
 refine Evr.sr rfl (Opl.alloc T42 rfl rfl rfl ?_)
 rintro i1 S h1 u1 w1
 have ap1 := w1.sameP hs0
 have h2 := u1.sameP hs0 ap1
 have ap2 := w1.box hb0
 have h3 := u1.box hb0 ap2
 refine Opl.nil (Evr.sr rfl (Opl.p1 (n := Opl.p1 (n := ?_))))
 obtain ⟨r1, h_r1, H⟩ := Option.bind_eq_some_iff.1 H
 refine Opl.calls (spec_l7Draw.evb hq0 h3 h_r1) rfl rfl rfl rfl rfl ?_
 rintro _ S ⟨_, pv1, rfl, rfl, h4, w2, h5, u2⟩
 have h6 := u2.sameP h2 OutT.box
 have h7 := u2.box h1 (ap2.symm).pt
 have ap3 := w2.sameP h2
 have ap4 := w2.box h3
 have ap5 := w2.box h1
 refine Opl.alloc T42 rfl rfl rfl ?_
 rintro i2 S h8 u3 w3
 have ap6 := w3.sameP h6
 have h9 := u3.sameP h6 ap6
 have ap7 := w3.box h5
 have h10 := u3.box h5 ap7
 have ap8 := w3.box h7
 have h11 := u3.box h7 ap8
 have ap9 := w3.vec h4
 have h12 := u3.vec h4 ap9
 refine Opl.stb (vs := [.lit (.int .i64 r1.2.1), pv1]) h8 rfl rfl Z42 rfl (Nat.le_of_ble_eq_true rfl) (by simp only [List.all_cons, List.all_nil, Vec.one h12, Bool.and_true, Bool.true_and] <;> rfl) rfl rfl rfl ?_
 rintro S (h13 : Box (.ptr i2 0) [.lit (.int .i64 r1.2.1), pv1] _) u4
 have h14 := u4.sameP h9 ap6
 have h15 := u4.box h10 ap7
 have h16 := u4.box h11 ap8
 have h17 := u4.vec h12 ap9
 refine Opl.nil (Evr.seq (Evr.sr rfl (Opl.p1 (n := ?_))))
 obtain ⟨r2, h_r2, H⟩ := Option.bind_eq_some_iff.1 H
 refine Opl.calls (spec_l40Rd_pick.evb hq0 h15 h_r2) rfl rfl rfl rfl rfl ?_
 rintro _ S ⟨rfl, h18, u5⟩
 have h19 := u5.sameP h14 OutT.box
 have h20 := u5.box h16 (ap2.symm).pt
 have h21 := u5.vec h17 (ap4.symm).pt
 have h22 := u5.box h13 (ap7.symm).pt
 refine Opl.p1 (n := Opl.nil ?_)
 by_cases c1 : r2.2 = 0
 case neg =>
  rw [if_neg c1] at H
  have e6 : (r2.2 == 0) = false := by simpa using c1
  try rw [e6]
  refine Evr.condF rfl (Evr.skip (Evr.seq (Evr.frzc [.lit (.int .i64 r1.2.1)] [] h22 h21 ap9 ?_)))
  rintro pv11 S1_ S h101 u23 u24 h102
  have h103 := u24.sameP (u23.sameP h19 ap3) ap6
  have h104 := u24.box (u23.box h18 ap4) ap7
  have h105 := u24.box (u23.box h20 ap5) ap8
  have h106 : Sl cIAnd r1.2.2 pv11 := h101
  have h107 : Box (.ptr i2 0) [.lit (.int .i64 r1.2.1), pv11] S := h102
  refine Evr.regionN rfl (Opl.ldb (v := .agg [.lit (.int .i64 r1.2.1), pv11]) h107 rfl T42 rfl rfl rfl rfl (Opl.stb (vs := [.lit (.int .i64 r1.2.1), pv11]) h105 rfl rfl Z42 rfl (Nat.le_of_ble_eq_true rfl) (by simp only [List.all_cons, List.all_nil, h106.one, Bool.and_true, Bool.true_and] <;> rfl) rfl rfl rfl ?_))
  rintro S (h108 : Box (.ptr i1 0) [.lit (.int .i64 r1.2.1), pv11] _) u25
  have h109 := u25.sameP h103 ap1
  have h110 := u25.box h104 ap2
  have h111 := u25.box h107 ap8.symm
  refine Opl.nil ?_
  obtain rfl := Option.some.inj H
  refine Evr.retb (v := .agg [.lit (.int .i64 r1.2.1), pv11]) Try.func85 rfl h108 rfl T42 rfl ?_
  exact ⟨_, _, rfl, (by first | rfl | (simp only [go_sem]; rfl)), h106, h110, h109⟩
 rw [if_pos c1] at H
 have e1 : (r2.2 == 0) = true := by simpa using c1
 try rw [e1]
 refine Evr.condT rfl (Evr.sr rfl (Opl.p1 (n := ?_)))
 obtain ⟨r3, h_r3, H⟩ := Option.bind_eq_some_iff.1 H
 refine Opl.calls (spec_l40Rd_pick.evb hq0 h18 h_r3) rfl rfl rfl rfl rfl ?_
 rintro _ S ⟨rfl, h23, u6⟩
 have h24 := u6.sameP h19 OutT.box
 have h25 := u6.box h20 (ap2.symm).pt
 have h26 := u6.vec h21 (ap4.symm).pt
 have h27 := u6.box h22 (ap7.symm).pt
 refine Opl.p1 (n := Opl.p1 (n := ?_))
 by_cases c2 : r3.2 = 0
 case pos =>
  rw [if_pos c2] at H
  have e2 : (r3.2 == 0) = true := by simpa using c2
  try rw [e2]
  refine Opl.skp rfl (Opl.skp rfl (Opl.skp rfl (Opl.skp rfl (Opl.p1 (n := Opl.nil (Evr.condT rfl (Evr.regionN rfl (Opl.p1 (n := Opl.liti (M := (cInt .i64)) (ys := [(-1), 13]) [.const (.int .i64 (-1)), .const (.int .i64 13)] K22 T3 rfl rfl rfl (by exact ⟨rfl, rfl, trivial⟩) rfl (by decide) rfl rfl ?_)))))))))
  rintro pv3 h28
  obtain ⟨r4, h_r4, H⟩ := Option.bind_eq_some_iff.1 H
  refine Opl.calls (spec_l40Rd_num.evb hq0 h23 h28 h_r4) rfl rfl rfl rfl rfl ?_
  rintro _ S ⟨rfl, h29, u7⟩
  have h30 := u7.sameP h24 OutT.box
  have h31 := u7.box h25 (ap2.symm).pt
  have h32 := u7.vec h26 (ap4.symm).pt
  have h33 := u7.box h27 (ap7.symm).pt
  refine Opl.p1 (v := .ptr i2 0) (n := Opl.stb (vs := [.lit (.int .i64 r4.2)]) h33 rfl rfl Z3 rfl (Nat.le_of_ble_eq_true rfl) rfl rfl rfl rfl ?_)
  rintro S (h34 : Box (.ptr i2 0) [.lit (.int .i64 r4.2), pv1] _) u8
  have h35 := u8.sameP h30 ap6
  have h36 := u8.box h29 ap7
  have h37 := u8.box h31 ap8
  have h38 := u8.vec h32 ap9
  refine Opl.nil (Evr.seq (Evr.frzc [.lit (.int .i64 r4.2)] [] h34 h38 ap9 ?_))
  rintro pv4 S1_ S h39 u9 u10 h40
  have h41 := u10.sameP (u9.sameP h35 ap3) ap6
  have h42 := u10.box (u9.box h36 ap4) ap7
  have h43 := u10.box (u9.box h37 ap5) ap8
  have h44 : Sl cIAnd r1.2.2 pv4 := h39
  have h45 : Box (.ptr i2 0) [.lit (.int .i64 r4.2), pv4] S := h40
  refine Evr.regionN rfl (Opl.ldb (v := .agg [.lit (.int .i64 r4.2), pv4]) h45 rfl T42 rfl rfl rfl rfl (Opl.stb (vs := [.lit (.int .i64 r4.2), pv4]) h43 rfl rfl Z42 rfl (Nat.le_of_ble_eq_true rfl) (by simp only [List.all_cons, List.all_nil, h44.one, Bool.and_true, Bool.true_and] <;> rfl) rfl rfl rfl ?_))
  rintro S (h46 : Box (.ptr i1 0) [.lit (.int .i64 r4.2), pv4] _) u11
  have h47 := u11.sameP h41 ap1
  have h48 := u11.box h42 ap2
  have h49 := u11.box h45 ap8.symm
  refine Opl.nil ?_
  obtain rfl := Option.some.inj H
  refine Evr.retb (v := .agg [.lit (.int .i64 r4.2), pv4]) Try.func85 rfl h46 rfl T42 rfl ?_
  exact ⟨_, _, rfl, (by first | rfl | (simp only [go_sem]; rfl)), h44, h48, h47⟩
 rw [if_neg c2] at H
 have e3 : (r3.2 == 0) = false := by simpa using c2
 try rw [e3]
 refine Opl.p1 (v := .ptr i2 1) (n := Opl.ldb (v := pv1) h27 rfl T40 rfl rfl rfl rfl (Opl.lenv (xs := r1.2.2) (by exact h26) K40 rfl rfl rfl rfl (Opl.p1 (n := Opl.p1 (n := Opl.nil ?_)))))
 by_cases c3 : (r1.2.2.length : Int) = 0
 case pos =>
  rw [if_pos c3] at H
  have e4 : ((r1.2.2.length : Int) == 0) = true := by simpa using c3
  try rw [e4]
  refine Evr.condT rfl (Evr.regionN rfl (Opl.p1 (n := Opl.liti (M := (cInt .i64)) (ys := [(-1), 13]) [.const (.int .i64 (-1)), .const (.int .i64 13)] K22 T3 rfl rfl rfl (by exact ⟨rfl, rfl, trivial⟩) rfl (by decide) rfl rfl ?_)))
  rintro pv6 h50
  obtain ⟨r5, h_r5, H⟩ := Option.bind_eq_some_iff.1 H
  refine Opl.calls (spec_l40Rd_num.evb hq0 h23 h50 h_r5) rfl rfl rfl rfl rfl ?_
  rintro _ S ⟨rfl, h51, u12⟩
  have h52 := u12.sameP h24 OutT.box
  have h53 := u12.box h25 (ap2.symm).pt
  have h54 := u12.vec h26 (ap4.symm).pt
  have h55 := u12.box h27 (ap7.symm).pt
  refine Opl.p1 (v := .ptr i2 0) (n := Opl.stb (vs := [.lit (.int .i64 r5.2)]) h55 rfl rfl Z3 rfl (Nat.le_of_ble_eq_true rfl) rfl rfl rfl rfl ?_)
  rintro S (h56 : Box (.ptr i2 0) [.lit (.int .i64 r5.2), pv1] _) u13
  have h57 := u13.sameP h52 ap6
  have h58 := u13.box h51 ap7
  have h59 := u13.box h53 ap8
  have h60 := u13.vec h54 ap9
  refine Opl.nil (Evr.seq (Evr.frzc [.lit (.int .i64 r5.2)] [] h56 h60 ap9 ?_))
  rintro pv7 S1_ S h61 u14 u15 h62
  have h63 := u15.sameP (u14.sameP h57 ap3) ap6
  have h64 := u15.box (u14.box h58 ap4) ap7
  have h65 := u15.box (u14.box h59 ap5) ap8
  have h66 : Sl cIAnd r1.2.2 pv7 := h61
  have h67 : Box (.ptr i2 0) [.lit (.int .i64 r5.2), pv7] S := h62
  refine Evr.regionN rfl (Opl.ldb (v := .agg [.lit (.int .i64 r5.2), pv7]) h67 rfl T42 rfl rfl rfl rfl (Opl.stb (vs := [.lit (.int .i64 r5.2), pv7]) h65 rfl rfl Z42 rfl (Nat.le_of_ble_eq_true rfl) (by simp only [List.all_cons, List.all_nil, h66.one, Bool.and_true, Bool.true_and] <;> rfl) rfl rfl rfl ?_))
  rintro S (h68 : Box (.ptr i1 0) [.lit (.int .i64 r5.2), pv7] _) u16
  have h69 := u16.sameP h63 ap1
  have h70 := u16.box h64 ap2
  have h71 := u16.box h67 ap8.symm
  refine Opl.nil ?_
  obtain rfl := Option.some.inj H
  refine Evr.retb (v := .agg [.lit (.int .i64 r5.2), pv7]) Try.func85 rfl h68 rfl T42 rfl ?_
  exact ⟨_, _, rfl, (by first | rfl | (simp only [go_sem]; rfl)), h66, h70, h69⟩
 rw [if_neg c3] at H
 have e5 : ((r1.2.2.length : Int) == 0) = false := by simpa using c3
 try rw [e5]
 refine Evr.condF rfl (Evr.sr rfl (Opl.p1 (n := Opl.p1 (v := .ptr i2 1) (n := Opl.ldb (v := pv1) h27 rfl T40 rfl rfl rfl rfl (Opl.lenv (xs := r1.2.2) (by exact h26) K40 rfl rfl rfl rfl ?_)))))
 obtain ⟨r6, h_r6, H⟩ := Option.bind_eq_some_iff.1 H
 refine Opl.calls (spec_l40Rd_pick.evb hq0 h23 h_r6) rfl rfl rfl rfl rfl ?_
 rintro _ S ⟨rfl, h72, u17⟩
 have h73 := u17.sameP h24 OutT.box
 have h74 := u17.box h25 (ap2.symm).pt
 have h75 := u17.vec h26 (ap4.symm).pt
 have h76 := u17.box h27 (ap7.symm).pt
 refine Opl.p1 (n := Opl.nil (Evr.regionL [(11, .m), (10, .p), (1, .q), (5, .q)] rfl (by kernel_rfl) (Opl.p1 (v := .ptr i2 1) (n := Opl.ldbk (v := pv1) h76 (rd_vec h75) rfl T40 rfl rfl rfl rfl (Opl.p1 (n := Opl.p1 (n := Opl.p1 (v := .ptr i2 0) (n := Opl.ldbk (v := .lit (.int .i64 r1.2.1)) h76 (rd_vec h75) rfl T3 rfl rfl rfl rfl (Opl.add (k := .i64) (a := 1) (b := r1.2.1) K3 rfl rfl rfl rfl (Opl.one (v := .lit (.int .i64 r6.2)) rfl rfl rfl (Opl.add (k := .i64) (a := (wrap64 (1 + r1.2.1))) (b := r6.2) K3 rfl rfl rfl rfl (Opl.mul (k := .i64) (a := 2) (b := (wrap64 ((wrap64 (1 + r1.2.1)) + r6.2))) K3 rfl rfl rfl rfl (Opl.liti (M := (cInt .i64)) (ys := [(-1), (wrap64 (2 * (wrap64 ((wrap64 (1 + r1.2.1)) + r6.2))))]) [.const (.int .i64 (-1)), .tmp 40] K22 T3 rfl rfl rfl (by exact ⟨rfl, rfl, trivial⟩) rfl (by decide) rfl rfl ?_)))))))))))))
 rintro pv9 h77
 obtain ⟨r7, h_r7, H⟩ := Option.bind_eq_some_iff.1 H
 refine Opl.callbm h72 (spec_l40Rd_num.evb hq0 h72 h77 h_r7) rfl rfl rfl rfl rfl ?_
 rintro _ S rfl h78 u18
 have h79 := u18.sameP h73 OutT.box
 have h80 := u18.box h74 (ap2.symm).pt
 have h81 := u18.vec h75 (ap4.symm).pt
 have h82 := u18.box h76 (ap7.symm).pt
 refine Opl.p1 (v := .agg [.lit (.int .i64 r7.2), .lit (.int .i64 0)]) (n := ?_)
 obtain ⟨c4, H⟩ := peel H
 obtain ⟨c5, H⟩ := peel H
 refine Opl.idv (M := cIAnd) (xs := r1.2.2) (j := r6.2) (v := pv1) h81 rfl rfl (by first | omega | (simp only [List.length_set] at *; omega)) (by first | omega | (simp only [List.length_set] at *; omega)) K40 Z69 rfl rfl ?_
 rintro d1 z1 q1 h83 h84
 refine Opl.stv (M := cIAnd) (xs := r1.2.2) (j := r6.2) (y := (⟨r7.2, 0⟩ : IAnd)) (vs := [.lit (.int .i64 r7.2), .lit (.int .i64 0)]) h83 h84 (by first | omega | (simp only [List.length_set] at *; omega)) (by first | omega | (simp only [List.length_set] at *; omega)) rfl rfl (by exact cIAnd_mk) Z69 rfl rfl rfl rfl ?_
 rw [← q1]
 rintro S h85 u19
 have h86 := u19.sameP h79 ap3
 have h87 := u19.box h78 ap4
 have h88 := u19.box h80 ap5
 have h89 := u19.box h82 ap9.symm
 refine Opl.nil (Evr.seq (Evr.frzc [.lit (.int .i64 r1.2.1)] [] h89 h85 ap9 ?_))
 rintro pv10 S1_ S h90 u20 u21 h91
 have h92 := u21.sameP (u20.sameP h86 ap3) ap6
 have h93 := u21.box (u20.box h87 ap4) ap7
 have h94 := u21.box (u20.box h88 ap5) ap8
 have h95 : Sl cIAnd (r1.2.2.set r6.2.toNat (⟨r7.2, 0⟩ : IAnd)) pv10 := h90
 have h96 : Box (.ptr i2 0) [.lit (.int .i64 r1.2.1), pv10] S := h91
 refine Evr.regionN rfl (Opl.ldb (v := .agg [.lit (.int .i64 r1.2.1), pv10]) h96 rfl T42 rfl rfl rfl rfl (Opl.stb (vs := [.lit (.int .i64 r1.2.1), pv10]) h94 rfl rfl Z42 rfl (Nat.le_of_ble_eq_true rfl) (by simp only [List.all_cons, List.all_nil, h95.one, Bool.and_true, Bool.true_and] <;> rfl) rfl rfl rfl ?_))
 rintro S (h97 : Box (.ptr i1 0) [.lit (.int .i64 r1.2.1), pv10] _) u22
 have h98 := u22.sameP h92 ap1
 have h99 := u22.box h93 ap2
 have h100 := u22.box h96 ap8.symm
 refine Opl.nil ?_
 obtain rfl := Option.some.inj H
 refine Evr.retb (v := .agg [.lit (.int .i64 r1.2.1), pv10]) Try.func85 rfl h97 rfl T42 rfl ?_
 exact ⟨_, _, rfl, (by first | rfl | (simp only [go_sem]; rfl)), h95, h99, h98⟩
theorem spec_l7Some.evb {k : Nat} {S0 : Sto} {l0_0 : List Int} {a0_1 : Int} {i0 : Abs.Id} {q0 : PV} (hq0 : Sl (cInt .u8) l0_0 q0) (hb0 : Box (.ptr i0 0) [q0, .lit (.int .i64 a0_1)] S0) {a1_0 : Int} {l1_1 : List IAnd} {v1_1 : PV} (hv1_1 : Sl cIAnd l1_1 v1_1) {r : Int × Int} (H : spec_l7Some.f k l0_0 a0_1 a1_0 l1_1 = some r) : RetS Try.prog 86 [.ptr i0 0, .agg [.lit (.int .i64 a1_0), v1_1]] S0 fun v S => v = .lit (.int .i64 r.2) ∧ Box (.ptr i0 0) [q0, .lit (.int .i64 r.1)] S ∧ Same S0 S [i0] := by
 have hs0 : Same S0 S0 [i0] := .refl _ _
 unfold spec_l7Some.f at H
 refine RetS.intro Try.func86 rfl (Nat.le_of_ble_eq_true rfl) rfl ?_
 rw [tm2]
 refine Evr.sr rfl (Opl.box (cs := [.lit (.int .i64 a1_0), v1_1]) rfl rfl rfl rfl ?_)
 rintro i1 S h1 u1 w1
 have ap1 := w1.sameP hs0
 have h2 := u1.sameP hs0 ap1
 have ap2 := w1.box hb0
 have h3 := u1.box hb0 ap2
 refine Opl.p1 (n := Opl.nil (Evr.sr rfl (Opl.ldb (v := .agg [.lit (.int .i64 a1_0), v1_1]) h1 rfl T42 rfl rfl rfl rfl ?_)))
 obtain ⟨r1, h_r1, H⟩ := Option.bind_eq_some_iff.1 H
 refine Opl.callc (spec_l7Nodes.ev hv1_1 h_r1) rfl rfl rfl rfl ⟨(.aggL ⟨(.lit _), hv1_1.plain, trivial⟩), trivial⟩ (by decide) (Opl.mul (k := .i64) (a := 2) (b := r1) K3 rfl rfl rfl rfl (Opl.one (v := .lit (.int .i64 (wrap64 (2 * r1)))) rfl rfl rfl (Opl.nil (Evr.seq (Evr.sr rfl (Opl.one (v := .ptr i0 0) rfl rfl rfl ?_))))))
 obtain ⟨r2, h_r2, H⟩ := Option.bind_eq_some_iff.1 H
 refine Opl.calls (spec_l40Rd_pick.evb hq0 h3 h_r2) rfl rfl rfl rfl rfl ?_
 rintro _ S ⟨rfl, h4, u2⟩
 have h5 := u2.sameP h2 OutT.box
 have h6 := u2.box h1 (ap2.symm).pt
 refine Opl.p1 (n := Opl.nil ?_)
 by_cases c1 : r2.2 = 0
 case pos =>
  rw [if_pos c1] at H
  have e1 : (r2.2 == 0) = true := by simpa using c1
  try rw [e1]
  refine Evr.condT rfl (Evr.sr rfl (Opl.one (v := .ptr i0 0) rfl rfl rfl (Opl.one (v := .lit (.int .i64 (wrap64 (2 * r1)))) rfl rfl rfl (Opl.liti (M := (cInt .i64)) (ys := [(wrap64 (2 * r1)), (-1)]) [.tmp 13, .const (.int .i64 (-1))] K22 T3 rfl rfl rfl (by exact ⟨rfl, rfl, trivial⟩) rfl (by decide) rfl rfl ?_))))
  rintro pv2 h7
  obtain ⟨r3, h_r3, H⟩ := Option.bind_eq_some_iff.1 H
  refine Opl.calls (spec_l40Rd_num.evb hq0 h4 h7 h_r3) rfl rfl rfl rfl rfl ?_
  rintro _ S ⟨rfl, h8, u3⟩
  have h9 := u3.sameP h5 OutT.box
  have h10 := u3.box h6 (ap2.symm).pt
  refine Opl.one (v := .lit (.int .i64 r3.2)) rfl rfl rfl (Opl.nil ?_)
  obtain rfl := Option.some.inj H
  refine Evr.ret1 Try.func86 rfl ?_
  exact ⟨(by first | rfl | (simp only [go_sem]; rfl)), h8, h9⟩
 rw [if_neg c1] at H
 have e2 : (r2.2 == 0) = false := by simpa using c1
 try rw [e2]
 refine Evr.condF rfl (Evr.skip (Evr.seq (Evr.sr rfl (Opl.one (v := .ptr i0 0) rfl rfl rfl ?_))))
 obtain ⟨r4, h_r4, H⟩ := Option.bind_eq_some_iff.1 H
 refine Opl.calls (spec_l40Rd_pick.evb hq0 h4 h_r4) rfl rfl rfl rfl rfl ?_
 rintro _ S ⟨rfl, h11, u4⟩
 have h12 := u4.sameP h5 OutT.box
 have h13 := u4.box h6 (ap2.symm).pt
 refine Opl.p1 (n := Opl.nil ?_)
 by_cases c2 : r4.2 = 0
 case neg =>
  rw [if_neg c2] at H
  have e4 : (r4.2 == 0) = false := by simpa using c2
  try rw [e4]
  refine Evr.condF rfl (Evr.skip (Evr.sr rfl (Opl.one (v := .ptr i0 0) rfl rfl rfl (Opl.one (v := .lit (.int .i64 (wrap64 (2 * r1)))) rfl rfl rfl ?_))))
  obtain ⟨r6, h_r6, H⟩ := Option.bind_eq_some_iff.1 H
  refine Opl.calls (spec_l40Rd_pick.evb hq0 h11 h_r6) rfl rfl rfl rfl rfl ?_
  rintro _ S ⟨rfl, h17, u6⟩
  have h18 := u6.sameP h12 OutT.box
  have h19 := u6.box h13 (ap2.symm).pt
  refine Opl.one (v := .lit (.int .i64 r6.2)) rfl rfl rfl (Opl.nil ?_)
  obtain rfl := Option.some.inj H
  refine Evr.ret1 Try.func86 rfl ?_
  exact ⟨(by first | rfl | (simp only [go_sem]; rfl)), h17, h18⟩
 rw [if_pos c2] at H
 have e3 : (r4.2 == 0) = true := by simpa using c2
 try rw [e3]
 refine Evr.condT rfl (Evr.sr rfl (Opl.one (v := .lit (.int .i64 (wrap64 (2 * r1)))) rfl rfl rfl (Opl.subi (k := .i64) (a := (wrap64 (2 * r1))) (b := 1) K3 rfl rfl rfl rfl (Opl.one (v := .ptr i0 0) rfl rfl rfl ?_))))
 obtain ⟨r5, h_r5, H⟩ := Option.bind_eq_some_iff.1 H
 refine Opl.calls (spec_l40Rd_pick.evb hq0 h11 h_r5) rfl rfl rfl rfl rfl ?_
 rintro _ S ⟨rfl, h14, u5⟩
 have h15 := u5.sameP h12 OutT.box
 have h16 := u5.box h13 (ap2.symm).pt
 refine Opl.subi (k := .i64) (a := (wrap64 ((wrap64 (2 * r1)) - 1))) (b := r5.2) K3 rfl rfl rfl rfl (Opl.one (v := .lit (.int .i64 (wrap64 ((wrap64 ((wrap64 (2 * r1)) - 1)) - r5.2)))) rfl rfl rfl (Opl.nil ?_))
 obtain rfl := Option.some.inj H
 refine Evr.ret1 Try.func86 rfl ?_
 exact ⟨(by first | rfl | (simp only [go_sem]; rfl)), h14, h15⟩
theorem spec_DrawNeedsInputs.ev {k : Nat} {l0 : List Int} {v0 : PV} (hv0 : Sl (cInt .u8) l0 v0) {r : (Int × List IAnd) × Int} (H : spec_DrawNeedsInputs.f k l0 = some r) : Ret Try.prog 62 [v0] fun v S => Out (fun q => ∃ q1 q2, q = .tup [q1, q2] ∧ (∃ q11 q12, q1 = .agg [q11, q12] ∧ q11 = .lit (.int .i64 r.1.1) ∧ Sl cIAnd r.1.2 q12) ∧ q2 = .lit (.int .i64 r.2)) v S := by
 unfold spec_DrawNeedsInputs.f at H
 refine Ret.intro Try.func62 rfl (Nat.le_of_ble_eq_true rfl) rfl ?_
 rw [tm1]
 refine Evr.sr rfl (Opl.alloc T42 rfl rfl rfl ?_)
 rintro i1 S h1 u1 w1
 refine Opl.p1 (n := Opl.nil (Evr.sr rfl (Opl.p1 (n := ?_))))
 obtain ⟨r1, h_r1, H⟩ := Option.bind_eq_some_iff.1 H
 refine Opl.calls (spec_l40Open.evb hv0 h_r1) rfl rfl rfl rfl rfl ?_
 rintro _ S ⟨i2, pv1, rfl, h2, h3, w2, u2⟩
 have h5 := u2.box h1 ApT.nil
 have ap1 := w2.box h1
 refine Opl.p1 (n := Opl.nil (Evr.sr rfl (Opl.p1 (n := ?_))))
 obtain ⟨r2, h_r2, H⟩ := Option.bind_eq_some_iff.1 H
 refine Opl.calls (spec_l7Any.evb h2 h3 h_r2) rfl rfl rfl rfl rfl ?_
 rintro _ S ⟨_, pv2, rfl, rfl, h6, h7, u3⟩
 have h8 := u3.box h5 (ap1).pt
 refine Opl.alloc T42 rfl rfl rfl ?_
 rintro i3 S h9 u4 w3
 have ap2 := w3.box h8
 have h10 := u4.box h8 ap2
 have ap3 := w3.box h7
 have h11 := u4.box h7 ap3
 refine Opl.stb (vs := [.lit (.int .i64 r2.2.1), pv2]) h9 rfl rfl Z42 rfl (Nat.le_of_ble_eq_true rfl) (by simp only [List.all_cons, List.all_nil, h6.one, Bool.and_true, Bool.true_and] <;> rfl) rfl rfl rfl ?_
 rintro S (h12 : Box (.ptr i3 0) [.lit (.int .i64 r2.2.1), pv2] _) u5
 have h13 := u5.box h10 ap2
 have h14 := u5.box h11 ap3
 refine Opl.nil (Evr.seq (Evr.frzb 5 h12 rfl ?_))
 rintro S u6
 have h15 := u6.box h13 ap2
 have h16 := u6.box h14 ap3
 refine Evr.regionL [(3, .n), (0, .p), (2, .p)] rfl (by kernel_rfl) (Opl.ldp (.agg [.lit (.int .i64 r2.2.1), pv2]) rfl T42 rfl rfl rfl (Opl.p1 (n := Opl.ldp (.agg [.lit (.int .i64 r2.2.1), pv2]) rfl T42 rfl rfl rfl ?_)))
 obtain ⟨r3, h_r3, H⟩ := Option.bind_eq_some_iff.1 H
 refine Opl.calls (spec_l7Some.evb h2 h16 h6 h_r3) rfl rfl rfl rfl rfl ?_
 rintro _ S ⟨rfl, h17, u7⟩
 have h18 := u7.box h15 (ap1).pt
 refine Opl.stb (vs := [.lit (.int .i64 r2.2.1), pv2]) h18 rfl rfl Z42 rfl (Nat.le_of_ble_eq_true rfl) (by simp only [List.all_cons, List.all_nil, h6.one, Bool.and_true, Bool.true_and] <;> rfl) rfl rfl rfl ?_
 rintro S (h19 : Box (.ptr i1 0) [.lit (.int .i64 r2.2.1), pv2] _) u8
 have h20 := u8.box h17 ap1.symm
 refine Opl.p1 (n := Opl.nil ?_)
 obtain rfl := Option.some.inj H
 refine Evr.ret_ct (v0 := .agg [.lit (.int .i64 r2.2.1), pv2]) Try.func62 rfl h19 rfl T42 rfl ?_
 show Out _ (.tup [.agg [.lit (.int .i64 r2.2.1), pv2], .lit (.int .i64 r3.2)]) _
 exact .tup2 (.agg2 .lit (.sl h6)) .lit
theorem spec_DrawClausesOf.ev {k : Nat} {l0 : List Int} {v0 : PV} (hv0 : Sl (cInt .u8) l0 v0) {r : (Int × List IAnd) × Int} (H : spec_DrawClausesOf.f k l0 = some r) : Ret Try.prog 24 [v0] fun v S => Out (fun q => ∃ q1 q2, q = .tup [q1, q2] ∧ (∃ q11 q12, q1 = .agg [q11, q12] ∧ q11 = .lit (.int .i64 r.1.1) ∧ Sl cIAnd r.1.2 q12) ∧ q2 = .lit (.int .i64 r.2)) v S := by
 unfold spec_DrawClausesOf.f at H
 refine Ret.intro Try.func24 rfl (Nat.le_of_ble_eq_true rfl) rfl ?_
 rw [tm1]
 refine Evr.sr rfl (Opl.alloc T42 rfl rfl rfl ?_)
 rintro i1 S h1 u1 w1
 refine Opl.p1 (n := Opl.nil (Evr.sr rfl (Opl.p1 (n := ?_))))
 obtain ⟨r1, h_r1, H⟩ := Option.bind_eq_some_iff.1 H
 refine Opl.call (spec_DrawNeedsInputs.ev hv0 h_r1) rfl rfl rfl rfl ⟨hv0.plain, trivial⟩ (by decide) ?_
 rintro _ ⟨_, _, rfl, ⟨_, pv2, rfl, rfl, h3⟩, rfl⟩
 refine Opl.p1 (v := .agg [.lit (.int .i64 r1.1.1), pv2]) (n := Opl.p1 (v := .lit (.int .i64 r1.2)) (n := Opl.stb (vs := [.lit (.int .i64 r1.1.1), pv2]) h1 rfl rfl Z42 rfl (Nat.le_of_ble_eq_true rfl) (by simp only [List.all_cons, List.all_nil, h3.one, Bool.and_true, Bool.true_and] <;> rfl) rfl rfl rfl ?_))
 rintro S (h4 : Box (.ptr i1 0) [.lit (.int .i64 r1.1.1), pv2] _) u2
 refine Opl.p1 (n := Opl.nil ?_)
 obtain rfl := Option.some.inj H
 refine Evr.ret_ct (v0 := .agg [.lit (.int .i64 r1.1.1), pv2]) Try.func24 rfl h4 rfl T42 rfl ?_
 show Out _ (.tup [.agg [.lit (.int .i64 r1.1.1), pv2], .lit (.int .i64 r1.2)]) _
 exact .tup2 (.agg2 .lit (.sl h3)) .lit
end Go.Proofs.Ytigbbefdndcmbaa.PA
