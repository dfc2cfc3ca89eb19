/- Walks of Go functions: each is shown to answer as the Lean function beside it tells, under the conditions that its theorem names. -/
import Derived.Test.YtigbbefdndcmbaaProg
import Derived.KernelRfl
import Derived.Below
import Derived.Deep.Draws
import Derived.Deep.AppendLies
import Derived.Maps.AppendAt
import Derived.OwnWalk
import Derived.Laws.BytesArg
import Derived.Laws.MakeOwn
import Derived.Laws.OwnMore
import Derived.Deep.OwnRows
import Derived.Tactics
import Derived.Lib.ConvBytes
import Derived.Laws.Slices
import Derived.WalkKit
import Derived.RowKit3
import Derived.Deep.LoopGhost
import Derived.Deep.QuietTactic
import Derived.BigQuiet
import Derived.WideLaws
import Derived.Deep.DeepCutAuto
import Derived.Deep.CutBlock
import Derived.Deep.RegionHeld3
import Derived.Laws.Rows
import Derived.Lib.AppendStr
import Derived.ArgAppend
import Derived.Laws.IdiomCopy
import Derived.OrdersHeld
import Derived.Laws.BitsLemmas
import Derived.RowKit
import Derived.Laws.StructEq
import Derived.Lib.SliceRun
import Derived.WalkSpells
import Derived.ChangeArms
import Derived.ChangeSlices
import Derived.Deep.Slices
import Derived.Attr
import Derived.Laws.Append
import Derived.Laws.AppendOwn
import Derived.Laws.Entries
import Derived.Calls
import Derived.Laws.Sem
import Derived.Test.YtigbbefdndcmbaaKPb5e14ca6e9
namespace Go.Proofs.Ytigbbefdndcmbaa.PA
open Go Go.Abs Go.RowKit Go.Proofs Go.Proofs.YtigbbefdndcmbaaW.PrintWords Go.Proofs.YtigbbefdndcmbaaW.PrintLast Go.Proofs.YtigbbefdndcmbaaW.PrintMore
set_option maxRecDepth 100000
set_option maxHeartbeats 4000000
set_option linter.unusedVariables false
set_option linter.unusedSimpArgs false
theorem spec_l1In.ev {a0 : Int} {a1 : Int} {a2 : Int} {r : Bool} (H : spec_l1In.f a0 a1 a2 = some r) : Ret Try.prog 31 [.lit (.int .i64 a0), .lit (.int .i64 a1), .lit (.int .i64 a2)] fun v S => v = .lit (.bool r) := by
 unfold spec_l1In.f at H
 refine Ret.intro Try.func31 rfl (Nat.le_of_ble_eq_true rfl) rfl ?_
 rw [tm3]
 refine Evr.sr rfl (Opl.p1 (n := Opl.nil (Evr.sr rfl (Opl.p1 (n := Opl.p1 (n := Opl.p1 (n := Opl.p1 (n := ?_))))))))
 by_cases c1 : a0 ≥ a1
 case neg =>
  rw [if_neg c1] at H
  have e2 : (decide (a0 ≥ a1)) = false := by simpa using c1
  try rw [e2]
  refine Opl.skp rfl (Opl.skp rfl (Opl.skp rfl (Opl.p1 (n := Opl.p1 (n := Opl.nil ?_)))))
  obtain rfl := Option.some.inj H
  refine Evr.ret1 Try.func31 rfl ?_
  show (.lit (.bool false) : PV) = _
  first | rfl | (simp only [go_sem]; rfl)
 rw [if_pos c1] at H
 have e1 : (decide (a0 ≥ a1)) = true := by simpa using c1
 try rw [e1]
 refine Opl.p1 (n := Opl.p1 (n := Opl.p1 (n := Opl.p1 (n := Opl.p1 (n := Opl.nil ?_)))))
 obtain rfl := Option.some.inj H
 refine Evr.ret1 Try.func31 rfl ?_
 show (.lit (.bool (decide (a0 ≤ a2))) : PV) = _
 first | rfl | (simp only [go_sem]; rfl)
theorem spec_CircuitValid.ev {k : Nat} {a0_0 : Int} {l0_1 : List IAnd} {v0_1 : PV} (hv0_1 : Sl cIAnd l0_1 v0_1) {r : Bool} (H : spec_CircuitValid.f k a0_0 l0_1 = some r) : Ret Try.prog 45 [.agg [.lit (.int .i64 a0_0), v0_1]] fun v S => v = .lit (.bool r) := by
 unfold spec_CircuitValid.f at H
 refine Ret.intro Try.func45 rfl (Nat.le_of_ble_eq_true rfl) rfl ?_
 rw [tm1]
 refine Evr.sr rfl (Opl.box (cs := [.lit (.int .i64 a0_0), v0_1]) rfl rfl rfl rfl ?_)
 rintro i1 S h1 u1 w1
 refine Opl.p1 (n := Opl.nil (Evr.seq (Evr.seq ?_)))
 refine Evr.join (fun tm S => ∃ (kq1 : Nat) (x14_1 : Bool) (i2 : Abs.Id), spec_CircuitValid.j0 kq1 x14_1 a0_0 l0_1 = some r ∧ Has tm [(1, .ptr i2 0), (14, .lit (.bool x14_1))] ∧ Box (.ptr i2 0) [.lit (.int .i64 a0_0), v0_1] S) ?_ fun hk1 => ?_
 ·
  rintro tm S ⟨kq1, x14_1, i2, H, hh, h2⟩
  rw [hh.eq]
  obtain _ | k1 := kq1
  · simp [spec_CircuitValid.j0] at H
  simp only [spec_CircuitValid.j0] at H
  by_cases c1 : x14_1 = true
  case pos =>
   rw [if_pos c1] at H
   obtain rfl : x14_1 = true := by simpa using c1
   refine Evr.condT rfl (Evr.sr rfl (Opl.p1 (n := Opl.nil ?_)))
   obtain rfl := Option.some.inj H
   refine Evr.ret1 Try.func45 rfl ?_
   show (.lit (.bool false) : PV) = _
   first | rfl | (simp only [go_sem]; rfl)
  rw [if_neg c1] at H
  obtain rfl : x14_1 = false := by simpa using c1
  refine Evr.condF rfl (Evr.skip (Evr.seq (Evr.sr rfl (Opl.p1 (n := Opl.nil (Evr.block ?_))))))
  refine Evr.loop (Evr.rounds (n := k1) (Inv := fun n tm S => n ≤ k1 ∧ ∃ (x3_1 : Int) (i3 : Abs.Id), spec_CircuitValid.l0 n x3_1 a0_0 l0_1 = some r ∧ Has tm [(1, .ptr i3 0), (3, .lit (.int .i64 x3_1))] ∧ Box (.ptr i3 0) [.lit (.int .i64 a0_0), v0_1] S) ?_ ?_ ?_)
  · exact ⟨Nat.le_refl _, _, _, H, ⟨rfl, rfl, trivial⟩, h2⟩
  ·
   rintro tm S ⟨_, _, _, H, -⟩
   simp [spec_CircuitValid.l0] at H
  ·
   rintro n1 ih1 tm S ⟨hle, x3_1, i3, H, hh, h3⟩
   simp only [spec_CircuitValid.l0] at H
   rw [hh.eq]
   refine Evr.seq (Evr.sr rfl (Opl.p1 (n := Opl.p1 (v := .ptr i3 1) (n := Opl.ldb (v := v0_1) h3 rfl T40 rfl rfl rfl rfl (Opl.len (xs := l0_1) (by exact hv0_1) K40 rfl rfl rfl rfl (Opl.p1 (n := Opl.nil ?_)))))))
   by_cases c2 : x3_1 < (l0_1.length : Int)
   case neg =>
    rw [if_neg c2] at H
    have e6 : (decide (x3_1 < (l0_1.length : Int))) = false := by simpa using c2
    try rw [e6]
    refine Evr.condF rfl (Evr.exit rfl (Evr.sr rfl (Opl.p1 (n := Opl.nil ?_))))
    obtain rfl := Option.some.inj H
    refine Evr.ret1 Try.func45 rfl ?_
    show (.lit (.bool true) : PV) = _
    first | rfl | (simp only [go_sem]; rfl)
   rw [if_pos c2] at H
   have e1 : (decide (x3_1 < (l0_1.length : Int))) = true := by simpa using c2
   try rw [e1]
   refine Evr.condT rfl (Evr.skip (Evr.seq (Evr.block (Evr.sr rfl (Opl.p1 (v := .ptr i3 0) (n := Opl.ldb (v := .lit (.int .i64 a0_0)) h3 rfl T3 rfl rfl rfl rfl (Opl.add (k := .i64) (a := 1) (b := a0_0) K3 rfl rfl rfl rfl (Opl.one (v := .lit (.int .i64 x3_1)) rfl rfl rfl (Opl.add (k := .i64) (a := (wrap64 (1 + a0_0))) (b := x3_1) K3 rfl rfl rfl rfl (Opl.mul (k := .i64) (a := 2) (b := (wrap64 ((wrap64 (1 + a0_0)) + x3_1))) K3 rfl rfl rfl rfl (Opl.subi (k := .i64) (a := (wrap64 (2 * (wrap64 ((wrap64 (1 + a0_0)) + x3_1))))) (b := 1) K3 rfl rfl rfl rfl (Opl.one (v := .lit (.int .i64 (wrap64 ((wrap64 (2 * (wrap64 ((wrap64 (1 + a0_0)) + x3_1)))) - 1)))) rfl rfl rfl (Opl.nil (Evr.sr rfl (Opl.p1 (v := .ptr i3 1) (n := Opl.ldb (v := v0_1) h3 rfl T40 rfl rfl rfl rfl (Opl.one (v := .lit (.int .i64 x3_1)) rfl rfl rfl ?_)))))))))))))))))
   obtain ⟨c3, H⟩ := peel H
   refine Opl.idx (M := cIAnd) (xs := l0_1) (j := x3_1) zIAnd (by exact hv0_1) rfl (by omega) (by omega) K40 Z69 rfl rfl ?_
   rintro p1 q1 h4
   obtain rfl := cIAnd_R (x := (rd_IAnd l0_1 x3_1)) h4
   refine Opl.p1 (v := .fel ((.lit (.int .i64 ((rd_IAnd l0_1 x3_1).f0))) :: (.lit (.int .i64 ((rd_IAnd l0_1 x3_1).f1))) :: q1)) (n := Opl.lda (.lit (.int .i64 ((rd_IAnd l0_1 x3_1).f0))) rfl T3 rfl rfl rfl rfl (Opl.one (v := .lit (.int .i64 (wrap64 ((wrap64 (2 * (wrap64 ((wrap64 (1 + a0_0)) + x3_1)))) - 1)))) rfl rfl rfl ?_))
   obtain ⟨t353, h_t353, H⟩ := Option.bind_eq_some_iff.1 H
   refine Opl.callc (spec_l1In.ev h_t353) rfl rfl rfl rfl ⟨(.lit _), (.lit _), (.lit _), trivial⟩ (by decide) (Opl.p1 (n := Opl.one (v := .lit (.bool (!t353))) rfl rfl rfl ?_))
   by_cases c4 : t353 = true
   case neg =>
    rw [if_neg c4] at H
    have e5 : (!t353) = true := by simpa using c4
    try rw [e5]
    refine Opl.skp rfl (Opl.skp rfl (Opl.skp rfl (Opl.skp rfl (Opl.skp rfl (Opl.skp rfl (Opl.skp rfl (Opl.skp rfl (Opl.skp rfl (Opl.p1 (n := Opl.nil (Evr.condT rfl (Evr.sr rfl (Opl.one (v := .lit (.bool false)) rfl rfl rfl (Opl.nil ?_))))))))))))))
    obtain rfl := Option.some.inj H
    refine Evr.ret1 Try.func45 rfl ?_
    show (.lit (.bool false) : PV) = _
    first | rfl | (simp only [go_sem]; rfl)
   rw [if_pos c4] at H
   have e2 : (!t353) = false := by simpa using c4
   try rw [e2]
   refine Opl.p1 (v := .ptr i3 1) (n := Opl.ldb (v := v0_1) h3 rfl T40 rfl rfl rfl rfl (Opl.one (v := .lit (.int .i64 x3_1)) rfl rfl rfl (Opl.idx (M := cIAnd) (xs := l0_1) (j := x3_1) zIAnd (by exact hv0_1) rfl (by omega) (by omega) K40 Z69 rfl rfl ?_)))
   rintro p2 q2 h5
   obtain rfl := cIAnd_R (x := (rd_IAnd l0_1 x3_1)) h5
   refine Opl.p1 (v := .fel ((.lit (.int .i64 ((rd_IAnd l0_1 x3_1).f1))) :: q2)) (n := Opl.lda (.lit (.int .i64 ((rd_IAnd l0_1 x3_1).f1))) rfl T3 rfl rfl rfl rfl (Opl.one (v := .lit (.int .i64 (wrap64 ((wrap64 (2 * (wrap64 ((wrap64 (1 + a0_0)) + x3_1)))) - 1)))) rfl rfl rfl ?_))
   obtain ⟨t355, h_t355, H⟩ := Option.bind_eq_some_iff.1 H
   refine Opl.callc (spec_l1In.ev h_t355) rfl rfl rfl rfl ⟨(.lit _), (.lit _), (.lit _), trivial⟩ (by decide) (Opl.p1 (n := Opl.p1 (n := Opl.nil ?_)))
   by_cases c5 : t355 = true
   case neg =>
    rw [if_neg c5] at H
    have e4 : (!t355) = true := by simpa using c5
    try rw [e4]
    refine Evr.condT rfl (Evr.sr rfl (Opl.one (v := .lit (.bool false)) rfl rfl rfl (Opl.nil ?_)))
    obtain rfl := Option.some.inj H
    refine Evr.ret1 Try.func45 rfl ?_
    show (.lit (.bool false) : PV) = _
    first | rfl | (simp only [go_sem]; rfl)
   rw [if_pos c5] at H
   have e3 : (!t355) = false := by simpa using c5
   try rw [e3]
   refine Evr.condF rfl (Evr.skip (Evr.inBlock (Evr.regionN rfl (Opl.one (v := .lit (.int .i64 x3_1)) rfl rfl rfl (Opl.add (k := .i64) (a := x3_1) (b := 1) K3 rfl rfl rfl rfl (Opl.one (v := .lit (.int .i64 (wrap64 (x3_1 + 1)))) rfl rfl rfl (Opl.nil ?_)))))))
   exact ih1 _ (by omega) _ _ ⟨by omega, _, _, H, ⟨rfl, rfl, trivial⟩, h3⟩
 ·
  refine Evr.regionN rfl (Opl.p1 (v := .ptr i1 0) (n := Opl.ldb (v := .lit (.int .i64 a0_0)) h1 rfl T3 rfl rfl rfl rfl ?_))
  obtain ⟨t351, h_t351, H⟩ := Option.bind_eq_some_iff.1 H
  refine Opl.callc (spec_l1In.ev h_t351) rfl rfl rfl rfl ⟨(.lit _), (.lit _), (.lit _), trivial⟩ (by decide) (Opl.p1 (n := Opl.p1 (n := ?_)))
  by_cases c6 : t351 = true
  case neg =>
   rw [if_neg c6] at H
   have e8 : (!t351) = true := by simpa using c6
   try rw [e8]
   refine Opl.skp rfl (Opl.skp rfl (Opl.skp rfl (Opl.skp rfl (Opl.p1 (n := Opl.nil ?_)))))
   exact hk1 _ _ ⟨_, _, _, H, ⟨rfl, (by first | rfl | (show PV.lit (.bool _) = _; congr 2; simp_all)), trivial⟩, h1⟩
  rw [if_pos c6] at H
  have e7 : (!t351) = false := by simpa using c6
  try rw [e7]
  refine Opl.p1 (v := .ptr i1 1) (n := Opl.ldb (v := v0_1) h1 rfl T40 rfl rfl rfl rfl (Opl.len (xs := l0_1) (by exact hv0_1) K40 rfl rfl rfl rfl (Opl.p1 (n := Opl.p1 (n := Opl.nil ?_)))))
  exact hk1 _ _ ⟨_, _, _, H, ⟨rfl, (by first | rfl | (show PV.lit (.bool _) = _; congr 2; simp_all)), trivial⟩, h1⟩
theorem spec_l11Abs.ev {a0 : Int} {r : Int} (H : spec_l11Abs.f a0 = some r) : Ret Try.prog 70 [.lit (.int .i64 a0)] fun v S => v = .lit (.int .i64 r) := by
 unfold spec_l11Abs.f at H
 refine Ret.intro Try.func70 rfl (Nat.le_of_ble_eq_true rfl) rfl ?_
 rw [tm1]
 refine Evr.sr rfl (Opl.p1 (n := Opl.nil (Evr.seq (Evr.sr rfl (Opl.p1 (n := Opl.p1 (n := Opl.nil ?_)))))))
 by_cases c1 : a0 < 0
 case neg =>
  rw [if_neg c1] at H
  have e2 : (decide (a0 < 0)) = false := by simpa using c1
  try rw [e2]
  refine Evr.condF rfl (Evr.skip (Evr.sr rfl (Opl.p1 (n := Opl.p1 (n := Opl.nil ?_)))))
  obtain rfl := Option.some.inj H
  refine Evr.ret1 Try.func70 rfl ?_
  show (.lit (.int .i64 a0) : PV) = _
  first | rfl | (simp only [go_sem]; rfl)
 rw [if_pos c1] at H
 have e1 : (decide (a0 < 0)) = true := by simpa using c1
 try rw [e1]
 refine Evr.condT rfl (Evr.sr rfl (Opl.p1 (n := Opl.one (v := .lit (.int .i64 (wrap64 (-a0)))) rfl rfl (by simp only [go_sem, Int.zero_sub, w64]; rfl) (Opl.one (v := .lit (.int .i64 (wrap64 (-a0)))) rfl rfl rfl (Opl.nil ?_)))))
 obtain rfl := Option.some.inj H
 refine Evr.ret1 Try.func70 rfl ?_
 show (.lit (.int .i64 (wrap64 (-a0))) : PV) = _
 first | rfl | (simp only [go_sem]; rfl)
theorem spec_l11Clause.ev {k : Nat} {l0 : List Int} {v0 : PV} (hv0 : Sl (cInt .i64) l0 v0) {a1 : Int} {r : (List Int) × Bool} (H : spec_l11Clause.f k l0 a1 = some r) : Ret Try.prog 33 [v0, .lit (.int .i64 a1)] fun v S => Out (fun q => ∃ q1 q2, q = .tup [q1, q2] ∧ Sl (cInt .i64) r.1 q1 ∧ q2 = .lit (.bool r.2)) v S := by
 unfold spec_l11Clause.f at H
 refine Ret.intro Try.func33 rfl (Nat.le_of_ble_eq_true rfl) rfl ?_
 rw [tm2]
 refine Evr.sr rfl (Opl.p1 (n := Opl.p1 (n := Opl.nil (Evr.sr rfl (Opl.p1 (n := Opl.add (k := .i64) (a := a1) (b := 1) K3 rfl rfl rfl rfl ?_))))))
 obtain ⟨c1, H⟩ := peel H
 obtain ⟨c2, H⟩ := peel H
 refine Opl.make (M := (cInt .i64)) (m := (wrap64 (a1 + 1))) (0 : Int) (by exact rfl) rfl rfl K22 T3 rfl (by omega) (by show ((wrap64 (a1 + 1))).toNat * 8 ≤ 281474976710656; omega) (by omega) rfl rfl rfl ?_
 rintro pv1 S h1 u1 w1
 refine Opl.one (v := pv1) rfl rfl rfl (Opl.nil (Evr.seq (Evr.sr rfl (Opl.one (v := .lit (.int .i64 0)) rfl rfl rfl (Opl.nil (Evr.block ?_))))))
 refine Evr.loop (Evr.rounds (n := k) (Inv := fun n tm S => n ≤ k ∧ ∃ (x6_1 : List Int) (x7_1 : Int) (pv2 : PV), spec_l11Clause.l1 n x6_1 x7_1 l0 a1 = some r ∧ Has tm [(0, v0), (1, .lit (.int .i64 a1)), (6, pv2), (7, .lit (.int .i64 x7_1))] ∧ Vec (cInt .i64) x6_1 pv2 S) ?_ ?_ ?_)
 · exact ⟨Nat.le_refl _, _, _, _, H, ⟨rfl, rfl, rfl, rfl, trivial⟩, h1⟩
 ·
  rintro tm S ⟨_, _, _, _, H, -⟩
  simp [spec_l11Clause.l1] at H
 ·
  rintro n1 ih1 tm S ⟨hle, x6_1, x7_1, pv2, H, hh, h2⟩
  simp only [spec_l11Clause.l1] at H
  rw [hh.eq]
  refine Evr.seq (Evr.sr rfl (Opl.p1 (n := Opl.p1 (n := Opl.len (xs := l0) (by exact hv0) K22 rfl rfl rfl rfl (Opl.p1 (n := Opl.nil ?_))))))
  by_cases c3 : x7_1 < (l0.length : Int)
  case neg =>
   rw [if_neg c3] at H
   have e6 : (decide (x7_1 < (l0.length : Int))) = false := by simpa using c3
   try rw [e6]
   refine Evr.condF rfl (Evr.exit rfl (Evr.sr rfl (Opl.lits (M := (cInt .i64)) (ys := []) [] K22 T3 rfl rfl rfl trivial rfl (by decide) rfl rfl rfl ?_)))
   rintro pv4 S h16 u3 w2
   have ap1 := w2.vec h2
   have h17 := u3.vec h2 ap1
   refine Opl.p1 (n := Opl.nil (Evr.seq (Evr.sr rfl (Opl.p1 (n := Opl.nil (Evr.block ?_))))))
   refine Evr.loop (Evr.rounds (n := n1) (Inv := fun n tm S => n ≤ n1 ∧ ∃ (x9q4_1 : List Int) (x10q4_1 : Int) (pv5 : PV) (pv6 : PV), spec_l11Clause.l3 n x9q4_1 x10q4_1 a1 x6_1 = some r ∧ Has tm [(1, .lit (.int .i64 a1)), (6, pv5), (9, pv6), (10, .lit (.int .i64 x10q4_1))] ∧ Vec (cInt .i64) x6_1 pv5 S ∧ Vec (cInt .i64) x9q4_1 pv6 S ∧ Ap pv5 pv6) ?_ ?_ ?_)
   · exact ⟨Nat.le_refl _, _, _, _, _, H, ⟨rfl, rfl, rfl, rfl, trivial⟩, h17, h16, ap1⟩
   ·
    rintro tm S ⟨_, _, _, _, _, H, -⟩
    simp [spec_l11Clause.l3] at H
   ·
    rintro n2 ih2 tm S ⟨hle, x9q4_1, x10q4_1, pv5, pv6, H, hh, h18, h19, ap2⟩
    simp only [spec_l11Clause.l3] at H
    rw [hh.eq]
    refine Evr.seq (Evr.sr rfl (Opl.p1 (n := Opl.p1 (n := Opl.p1 (n := Opl.nil ?_)))))
    by_cases c18 : x10q4_1 ≤ a1
    case neg =>
     rw [if_neg c18] at H
     have e10 : (decide (x10q4_1 ≤ a1)) = false := by simpa using c18
     try rw [e10]
     refine Evr.condF rfl (Evr.exit rfl (Evr.sr rfl (Opl.p1 (n := Opl.p1 (n := Opl.p1 (n := Opl.nil ?_))))))
     obtain rfl := Option.some.inj H
     refine Evr.ret2 Try.func33 rfl ?_
     show Out _ (.tup [pv6, .lit (.bool true)]) _
     exact .tup2 (.vec h19) .lit
    rw [if_pos c18] at H
    have e7 : (decide (x10q4_1 ≤ a1)) = true := by simpa using c18
    try rw [e7]
    refine Evr.condT rfl (Evr.skip (Evr.seq (Evr.block (Evr.sr rfl (Opl.p1 (n := Opl.p1 (n := ?_)))))))
    obtain ⟨c19, H⟩ := peel H
    obtain ⟨c20, H⟩ := peel H
    refine Opl.idv (M := (cInt .i64)) (xs := x6_1) (j := x10q4_1) (v := pv5) h18 rfl rfl (by omega) (by omega) K22 Z3 rfl rfl ?_
    rintro d4 z4 q9 h20 h21
    refine Opl.ldv (M := (cInt .i64)) (xs := x6_1) (j := x10q4_1) (0 : Int) h20 h21 (by omega) (by omega) rfl T3 rfl rfl rfl ?_
    rintro p6 q10 h22
    obtain rfl : p6 = [.lit (.int .i64 (rd x6_1 x10q4_1))] := h22
    refine ⟨.lit (.int .i64 (rd x6_1 x10q4_1)), rfl, ?_⟩
    refine Opl.p1 (n := Opl.nil ?_)
    refine Evr.join (fun tm S => ∃ (kq2 : Nat) (x9q4_2 : List Int) (pv7 : PV) (pv8 : PV), spec_l11Clause.l3 kq2 x9q4_2 (wrap64 (x10q4_1 + 1)) a1 x6_1 = some r ∧ kq2 ≤ n2 ∧ Has tm [(1, .lit (.int .i64 a1)), (6, pv7), (9, pv8), (10, .lit (.int .i64 x10q4_1))] ∧ Vec (cInt .i64) x6_1 pv7 S ∧ Vec (cInt .i64) x9q4_2 pv8 S ∧ Ap pv7 pv8) ?_ fun hk2 => ?_
    ·
     rintro tm S ⟨kq2, x9q4_2, pv7, pv8, H, hle, hh, h23, h24, ap3⟩
     rw [hh.eq]
     refine Evr.inBlock (Evr.regionN rfl (Opl.p1 (n := Opl.add (k := .i64) (a := x10q4_1) (b := 1) K3 rfl rfl rfl rfl (Opl.one (v := .lit (.int .i64 (wrap64 (x10q4_1 + 1)))) rfl rfl rfl (Opl.nil ?_)))))
     exact ih2 _ (by omega) _ _ ⟨by omega, _, _, _, _, H, ⟨rfl, rfl, rfl, rfl, trivial⟩, h23, h24, ap3⟩
    ·
     by_cases c21 : (rd x6_1 x10q4_1) ≠ 0
     case neg =>
      rw [if_neg c21] at H
      have e9 : ((rd x6_1 x10q4_1) != 0) = false := by simpa using c21
      try rw [e9]
      refine Evr.condF rfl (Evr.skip ?_)
      exact hk2 _ _ ⟨_, _, _, _, H, by omega, ⟨rfl, rfl, rfl, rfl, trivial⟩, h18, h19, ap2⟩
     rw [if_pos c21] at H
     have e8 : ((rd x6_1 x10q4_1) != 0) = true := by simpa using c21
     try rw [e8]
     refine Evr.condT rfl (Evr.regionN rfl (Opl.p1 (n := Opl.p1 (n := Opl.p1 (n := ?_)))))
     obtain ⟨c22, H⟩ := peel H
     obtain ⟨c23, H⟩ := peel H
     obtain ⟨c24, H⟩ := peel H
     refine Opl.idv (M := (cInt .i64)) (xs := x6_1) (j := x10q4_1) (v := pv5) h18 rfl rfl (by omega) (by omega) K22 Z3 rfl rfl ?_
     rintro d5 z5 q11 h25 h26
     refine Opl.ldv (M := (cInt .i64)) (xs := x6_1) (j := x10q4_1) (0 : Int) h25 h26 (by omega) (by omega) rfl T3 rfl rfl rfl ?_
     rintro p7 q12 h27
     obtain rfl : p7 = [.lit (.int .i64 (rd x6_1 x10q4_1))] := h27
     refine ⟨.lit (.int .i64 (rd x6_1 x10q4_1)), rfl, ?_⟩
     refine Opl.liti (M := (cInt .i64)) (ys := [(rd x6_1 x10q4_1)]) [.tmp 63] K22 T3 rfl rfl rfl (by exact ⟨rfl, trivial⟩) rfl (by decide) rfl rfl ?_
     rintro pv10 h28
     refine Opl.app (M := (cInt .i64)) (xs := x9q4_1) (ys := [(rd x6_1 x10q4_1)]) (v := pv6) h19 (.sl h28) (oInt .i64) rfl rfl K22 T3 rfl rfl (by (try simp only [List.length_cons, List.length_nil]); omega) (by show (_ + _) * 8 ≤ 140737488355328; (try simp only [List.length_cons, List.length_nil]); omega) rfl rfl rfl rfl rfl ?_
     rintro pv11 S h29 u4 w3
     have ap4 := w3.vec h18
     have h30 := u4.vec h18 ap2
     refine Opl.p1 (n := Opl.nil ?_)
     exact hk2 _ _ ⟨_, _, _, _, H, by omega, ⟨rfl, rfl, rfl, rfl, trivial⟩, h30, h29, ap4⟩
  rw [if_pos c3] at H
  have e1 : (decide (x7_1 < (l0.length : Int))) = true := by simpa using c3
  try rw [e1]
  refine Evr.condT rfl (Evr.skip (Evr.seq (Evr.block (Evr.sr rfl (Opl.p1 (n := Opl.p1 (n := ?_)))))))
  obtain ⟨c4, H⟩ := peel H
  obtain ⟨c5, H⟩ := peel H
  refine Opl.idx (M := (cInt .i64)) (xs := l0) (j := x7_1) (0 : Int) (by exact hv0) rfl (by omega) (by omega) K22 Z3 rfl rfl ?_
  rintro p1 q1 h3
  obtain rfl : p1 = [.lit (.int .i64 (rd l0 x7_1))] := h3
  refine Opl.lda (.lit (.int .i64 (rd l0 x7_1))) rfl T3 rfl rfl rfl rfl ?_
  obtain ⟨r1, h_r1, H⟩ := Option.bind_eq_some_iff.1 H
  refine Opl.callc (spec_l11Abs.ev h_r1) rfl rfl rfl rfl ⟨(.lit _), trivial⟩ (by decide) (Opl.p1 (n := Opl.nil (Evr.seq (Evr.seq ?_))))
  refine Evr.join2 (fun tm S => ∃ (kq1 : Nat) (pv3 : PV), spec_l11Clause.j2 kq1 l0 a1 x6_1 x7_1 r1 = some r ∧ kq1 ≤ n1 ∧ Has tm [(0, v0), (1, .lit (.int .i64 a1)), (6, pv3), (7, .lit (.int .i64 x7_1)), (8, .lit (.int .i64 r1))] ∧ Vec (cInt .i64) x6_1 pv3 S) ?_ fun hk1 => ?_
  ·
   rintro tm S ⟨kq1, pv3, H, hle, hh, h4⟩
   rw [hh.eq]
   refine Evr.regionN rfl (Opl.p1 (n := Opl.p1 (n := Opl.p1 (n := Opl.p1 (n := ?_)))))
   obtain _ | k1 := kq1
   · simp [spec_l11Clause.j2] at H
   simp only [spec_l11Clause.j2] at H
   obtain ⟨c6, H⟩ := peel H
   obtain ⟨c7, H⟩ := peel H
   obtain ⟨c8, H⟩ := peel H
   obtain ⟨c9, H⟩ := peel H
   refine Opl.idx (M := (cInt .i64)) (xs := l0) (j := x7_1) (0 : Int) (by exact hv0) rfl (by omega) (by omega) K22 Z3 rfl rfl ?_
   rintro p2 q2 h5
   obtain rfl : p2 = [.lit (.int .i64 (rd l0 x7_1))] := h5
   refine Opl.lda (.lit (.int .i64 (rd l0 x7_1))) rfl T3 rfl rfl rfl rfl (Opl.idv (M := (cInt .i64)) (xs := x6_1) (j := r1) (v := pv3) h4 rfl rfl (by omega) (by omega) K22 Z3 rfl rfl ?_)
   rintro d1 z1 q3 h6 h7
   refine Opl.stv (M := (cInt .i64)) (xs := x6_1) (j := r1) (y := (rd l0 x7_1)) (vs := [.lit (.int .i64 (rd l0 x7_1))]) h6 h7 (by omega) (by omega) rfl rfl (by exact rfl) Z3 rfl rfl rfl rfl ?_
   rw [← q3]
   rintro S h8 u2
   refine Opl.nil (Evr.inBlock (Evr.regionN rfl (Opl.p1 (n := Opl.add (k := .i64) (a := x7_1) (b := 1) K3 rfl rfl rfl rfl (Opl.one (v := .lit (.int .i64 (wrap64 (x7_1 + 1)))) rfl rfl rfl (Opl.nil ?_))))))
   exact ih1 _ (by omega) _ _ ⟨by omega, _, _, _, H, ⟨rfl, rfl, rfl, rfl, trivial⟩, h8⟩
  ·
   refine Evr.regionD rfl (by kernel_rfl) (Opl.p1 (n := Opl.p1 (n := ?_)))
   obtain ⟨c10, H⟩ := peel H
   obtain ⟨c11, H⟩ := peel H
   refine Opl.idv (M := (cInt .i64)) (xs := x6_1) (j := r1) (v := pv2) h2 rfl rfl (by omega) (by omega) K22 Z3 rfl rfl ?_
   rintro d2 z2 q4 h9 h10
   refine Opl.ldv (M := (cInt .i64)) (xs := x6_1) (j := r1) (0 : Int) h9 h10 (by omega) (by omega) rfl T3 rfl rfl rfl ?_
   rintro p3 q5 h11
   obtain rfl : p3 = [.lit (.int .i64 (rd x6_1 r1))] := h11
   refine ⟨.lit (.int .i64 (rd x6_1 r1)), rfl, ?_⟩
   refine Opl.p1 (n := Opl.p1 (n := ?_))
   by_cases c12 : (rd x6_1 r1) ≠ 0
   case neg =>
    rw [if_neg c12] at H
    have e5 : ((rd x6_1 r1) != 0) = false := by simpa using c12
    try rw [e5]
    refine Opl.skp rfl (Opl.skp rfl (Opl.skp rfl (Opl.skp rfl (Opl.skp rfl (Opl.skp rfl (Opl.skp rfl (Opl.skp rfl (Opl.skp rfl (Opl.p1 (n := Opl.nil (Evr.condF rfl (Evr.skip ?_))))))))))))
    exact hk1 _ _ ⟨_, _, H, by omega, ⟨rfl, rfl, rfl, rfl, rfl, trivial⟩, h2⟩
   rw [if_pos c12] at H
   have e2 : ((rd x6_1 r1) != 0) = true := by simpa using c12
   try rw [e2]
   refine Opl.p1 (n := Opl.p1 (n := ?_))
   obtain ⟨c13, H⟩ := peel H
   obtain ⟨c14, H⟩ := peel H
   obtain ⟨c15, H⟩ := peel H
   obtain ⟨c16, H⟩ := peel H
   refine Opl.idv (M := (cInt .i64)) (xs := x6_1) (j := r1) (v := pv2) h2 rfl rfl (by omega) (by omega) K22 Z3 rfl rfl ?_
   rintro d3 z3 q6 h12 h13
   refine Opl.ldv (M := (cInt .i64)) (xs := x6_1) (j := r1) (0 : Int) h12 h13 (by omega) (by omega) rfl T3 rfl rfl rfl ?_
   rintro p4 q7 h14
   obtain rfl : p4 = [.lit (.int .i64 (rd x6_1 r1))] := h14
   refine ⟨.lit (.int .i64 (rd x6_1 r1)), rfl, ?_⟩
   refine Opl.p1 (n := Opl.p1 (n := Opl.idx (M := (cInt .i64)) (xs := l0) (j := x7_1) (0 : Int) (by exact hv0) rfl (by omega) (by omega) K22 Z3 rfl rfl ?_))
   rintro p5 q8 h15
   obtain rfl : p5 = [.lit (.int .i64 (rd l0 x7_1))] := h15
   refine Opl.lda (.lit (.int .i64 (rd l0 x7_1))) rfl T3 rfl rfl rfl rfl (Opl.p1 (n := Opl.p1 (n := Opl.nil ?_)))
   by_cases c17 : (rd x6_1 r1) ≠ (rd l0 x7_1)
   case neg =>
    rw [if_neg c17] at H
    have e4 : ((rd x6_1 r1) != (rd l0 x7_1)) = false := by simpa using c17
    try rw [e4]
    refine Evr.condF rfl (Evr.skip ?_)
    exact hk1 _ _ ⟨_, _, H, by omega, ⟨rfl, rfl, rfl, rfl, rfl, trivial⟩, h2⟩
   rw [if_pos c17] at H
   have e3 : ((rd x6_1 r1) != (rd l0 x7_1)) = true := by simpa using c17
   try rw [e3]
   refine Evr.condT rfl (Evr.sr rfl (Opl.p1 (n := Opl.p1 (n := Opl.nil ?_))))
   obtain rfl := Option.some.inj H
   refine Evr.ret2 Try.func33 rfl ?_
   show Out _ (.tup [.lit (.slice none 0 0), .lit (.bool false)]) _
   exact .tup2 (.sl .nil) .lit
theorem spec_l11Edge.ev {a0 : Int} {r : Int} (H : spec_l11Edge.f a0 = some r) : Ret Try.prog 81 [.lit (.int .i64 a0)] fun v S => v = .lit (.int .i64 r) := by
 unfold spec_l11Edge.f at H
 refine Ret.intro Try.func81 rfl (Nat.le_of_ble_eq_true rfl) rfl ?_
 rw [tm1]
 refine Evr.sr rfl (Opl.p1 (n := Opl.nil (Evr.seq (Evr.sr rfl (Opl.p1 (n := Opl.one (v := .lit (.int .i64 (Int.tmod a0 2))) rfl rfl (by simp only [go_sem]; rw [if_neg (by first | assumption | decide | omega)]; rfl) (Opl.p1 (n := Opl.nil ?_))))))))
 by_cases c1 : (Int.tmod a0 2) = 1
 case neg =>
  rw [if_neg c1] at H
  have e2 : ((Int.tmod a0 2) == 1) = false := by simpa using c1
  try rw [e2]
  refine Evr.condF rfl (Evr.skip (Evr.sr rfl (Opl.p1 (n := Opl.one (v := .lit (.int .i64 (wrap64 (Int.tdiv a0 2)))) rfl rfl (by simp only [go_sem]; rw [if_neg (by first | assumption | decide | omega)]; rfl) (Opl.one (v := .lit (.int .i64 (wrap64 (Int.tdiv a0 2)))) rfl rfl rfl (Opl.nil ?_))))))
  obtain rfl := Option.some.inj H
  refine Evr.ret1 Try.func81 rfl ?_
  show (.lit (.int .i64 (wrap64 (Int.tdiv a0 2))) : PV) = _
  first | rfl | (simp only [go_sem]; rfl)
 rw [if_pos c1] at H
 have e1 : ((Int.tmod a0 2) == 1) = true := by simpa using c1
 try rw [e1]
 refine Evr.condT rfl (Evr.sr rfl (Opl.p1 (n := Opl.one (v := .lit (.int .i64 (wrap64 (Int.tdiv a0 2)))) rfl rfl (by simp only [go_sem]; rw [if_neg (by first | assumption | decide | omega)]; rfl) (Opl.one (v := .lit (.int .i64 (wrap64 (-(wrap64 (Int.tdiv a0 2)))))) rfl rfl (by simp only [go_sem, Int.zero_sub, w64]; rfl) (Opl.one (v := .lit (.int .i64 (wrap64 (-(wrap64 (Int.tdiv a0 2)))))) rfl rfl rfl (Opl.nil ?_))))))
 obtain rfl := Option.some.inj H
 refine Evr.ret1 Try.func81 rfl ?_
 show (.lit (.int .i64 (wrap64 (-(wrap64 (Int.tdiv a0 2))))) : PV) = _
 first | rfl | (simp only [go_sem]; rfl)
theorem spec_l11Put.evb {k : Nat} {S0 : Sto} {a0_0 : Int} {l0_1 : List (List Int)} {v0_1 : PV} (hv0_1 : Vec (cSl (cInt .i64)) l0_1 v0_1 S0) {l1 : List Int} {v1 : PV} (hv1 : Sl (cInt .i64) l1 v1) {r : (Int × List (List Int))} (H : spec_l11Put.f k a0_0 l0_1 l1 = some r) : RetS Try.prog 48 [.agg [.lit (.int .i64 a0_0), v0_1], v1] S0 fun v S => ∃ v_0 v_1, v = .agg [v_0, v_1] ∧ v_0 = .lit (.int .i64 r.1) ∧ Vec (cSl (cInt .i64)) r.2 v_1 S ∧ OutT S0 (PV.id? v0_1).toList (PV.id? v_1).toList ∧ Same S0 S (PV.id? v0_1).toList := by
 have hs0 : Same S0 S0 (PV.id? v0_1).toList := .refl _ _
 unfold spec_l11Put.f at H
 refine RetS.intro Try.func48 rfl (Nat.le_of_ble_eq_true rfl) rfl ?_
 rw [tm2]
 refine Evr.sr rfl (Opl.box (cs := [.lit (.int .i64 a0_0), v0_1]) rfl rfl rfl rfl ?_)
 rintro i1 S h1 u1 w1
 have ap1 := w1.sameP hs0
 have h2 := u1.sameP hs0 ap1
 have ap2 := w1.vec hv0_1
 have h3 := u1.vec hv0_1 ap2
 refine Opl.alloc T37 rfl rfl rfl ?_
 rintro i2 S h4 u2 w2
 have ap3 := w2.sameP h2
 have h5 := u2.sameP h2 ap3
 have ap4 := w2.vec h3
 have h6 := u2.vec h3 ap4
 have ap5 := w2.box h1
 have h7 := u2.box h1 ap5
 refine Opl.nil (Evr.sr rfl (Opl.lits (M := (cInt .i64)) (ys := []) [] K22 T3 rfl rfl rfl trivial rfl (by decide) rfl rfl rfl ?_))
 rintro pv1 S h8 u3 w3
 have ap6 := w3.sameP h5
 have h9 := u3.sameP h5 ap6
 have ap7 := w3.vec h6
 have h10 := u3.vec h6 ap7
 have ap8 := w3.box h7
 have h11 := u3.box h7 ap8
 have ap9 := w3.box h4
 have h12 := u3.box h4 ap9
 refine Opl.p1 (n := Opl.nil (Evr.seq (Evr.sr rfl (Opl.p1 (n := Opl.nil (Evr.block ?_))))))
 refine Evr.loop (Evr.rounds (n := k) (Inv := fun n tm S => n ≤ k ∧ ∃ (x5_1 : List Int) (x6_1 : Int) (pv2 : PV) (i3 : Abs.Id) (i4 : Abs.Id) (pv3 : PV), spec_l11Put.l1 n x5_1 x6_1 a0_0 l0_1 l1 = some r ∧ Has tm [(1, v1), (2, .ptr i3 0), (4, .ptr i4 0), (5, pv3), (6, .lit (.int .i64 x6_1))] ∧ Vec (cSl (cInt .i64)) l0_1 pv2 S ∧ Box (.ptr i3 0) [.lit (.int .i64 a0_0), pv2] S ∧ Box (.ptr i4 0) [.lit (.int .i64 0), .lit (.slice none 0 0)] S ∧ Vec (cInt .i64) x5_1 pv3 S ∧ Same S0 S (PV.id? v0_1).toList ∧ OutT S0 (PV.id? v0_1).toList (PV.id? pv2).toList ∧ OutT S0 (PV.id? v0_1).toList (PV.ptr i3 0).id?.toList ∧ OutT S0 (PV.id? v0_1).toList (PV.ptr i4 0).id?.toList ∧ OutT S0 (PV.id? v0_1).toList (PV.id? pv3).toList ∧ Ap pv2 (.ptr i3 0) ∧ Ap pv2 (.ptr i4 0) ∧ Ap pv2 pv3 ∧ Ap (.ptr i3 0) (.ptr i4 0) ∧ Ap (.ptr i3 0) pv3 ∧ Ap (.ptr i4 0) pv3) ?_ ?_ ?_)
 · exact ⟨Nat.le_refl _, _, _, _, _, _, _, H, ⟨rfl, rfl, rfl, rfl, rfl, trivial⟩, h10, h11, h12, h8, h9, OutT.self, ap1, ap3, ap6, ap2, ap4, ap7, ap5, ap8, ap9⟩
 ·
  rintro tm S ⟨_, _, _, _, _, _, _, H, -⟩
  simp [spec_l11Put.l1] at H
 ·
  rintro n1 ih1 tm S ⟨hle, x5_1, x6_1, pv2, i3, i4, pv3, H, hh, h14, h13, h15, h16, h17, o1, o2, o3, o4, ap10, ap11, ap12, ap13, ap14, ap15⟩
  simp only [spec_l11Put.l1] at H
  rw [hh.eq]
  refine Evr.seq (Evr.sr rfl (Opl.p1 (n := Opl.p1 (n := Opl.len (xs := l1) (by exact hv1) K22 rfl rfl rfl rfl (Opl.p1 (n := Opl.nil ?_))))))
  by_cases c1 : x6_1 < (l1.length : Int)
  case neg =>
   rw [if_neg c1] at H
   have e6 : (decide (x6_1 < (l1.length : Int))) = false := by simpa using c1
   try rw [e6]
   refine Evr.condF rfl (Evr.exit rfl (Evr.seq (Evr.frz 5 h16 rfl ?_)))
   rintro pv9 S h37 u6
   have h38 := u6.vec h14 ap12
   have h39 := u6.box h13 ap14
   have h40 := u6.box h15 ap15
   have h41 := u6.sameP h17 o4
   refine Evr.regionN rfl (Opl.p1 (n := Opl.p1 (v := .ptr i3 0) (n := Opl.ldb (v := .lit (.int .i64 a0_0)) h39 rfl T3 rfl rfl rfl rfl ?_)))
   obtain ⟨r2, h_r2, H⟩ := Option.bind_eq_some_iff.1 H
   refine Opl.call (spec_l11Clause.ev h37 h_r2) rfl rfl rfl rfl ⟨h37.plain, (.lit _), trivial⟩ (by decide) ?_
   rintro _ ⟨pv11, _, rfl, h43, rfl⟩
   refine Opl.p1 (n := Opl.p1 (v := pv11) (n := Opl.p1 (v := .lit (.bool r2.2)) (n := Opl.p1 (n := Opl.p1 (n := Opl.nil (Evr.seq (Evr.sr rfl (Opl.p1 (n := Opl.nil ?_)))))))))
   by_cases c11 : r2.2 = true
   case neg =>
    rw [if_neg c11] at H
    have e8 : (r2.2) = false := by simpa using c11
    try rw [e8]
    refine Evr.condF rfl (Evr.skip (Evr.sr rfl (Opl.ldb (v := .agg [.lit (.int .i64 a0_0), pv2]) h39 rfl T37 rfl rfl rfl rfl (Opl.stb (vs := [.lit (.int .i64 a0_0), pv2]) h40 rfl rfl Z37 rfl (Nat.le_of_ble_eq_true rfl) (by simp only [List.all_cons, List.all_nil, Vec.one h38, Bool.and_true, Bool.true_and] <;> rfl) rfl rfl rfl ?_))))
    rintro S (h57 : Box (.ptr i4 0) [.lit (.int .i64 a0_0), pv2] _) u10
    have h58 := u10.vec h38 ap11
    have h59 := u10.box h39 ap13
    have h60 := u10.sameP h41 o3
    refine Opl.nil ?_
    obtain rfl := Option.some.inj H
    refine Evr.retb (v := .agg [.lit (.int .i64 a0_0), pv2]) Try.func48 rfl h57 rfl T37 rfl ?_
    exact ⟨_, _, rfl, (by first | rfl | (simp only [go_sem]; rfl)), h58, o1, h60⟩
   rw [if_pos c11] at H
   have e7 : (r2.2) = true := by simpa using c11
   try rw [e7]
   refine Evr.condT rfl (Evr.regionN rfl (Opl.p1 (v := .ptr i3 1) (n := Opl.ldb (v := pv2) h39 rfl T35 rfl rfl rfl rfl (Opl.p1 (n := Opl.liti (M := (cSl (cInt .i64))) (ys := [r2.1]) [.tmp 45] K35 T22 rfl rfl rfl (by exact ⟨⟨_, by first | rfl | exact h43.cells, h43⟩, trivial⟩) rfl (by decide) rfl rfl ?_)))))
   rintro pv13 h44
   obtain ⟨c12, H⟩ := peel H
   refine Opl.app (M := (cSl (cInt .i64))) (xs := l0_1) (ys := [r2.1]) (v := pv2) h38 (.sl h44) (oSl (cInt .i64)) rfl rfl K35 T22 rfl rfl (by (try simp only [List.length_cons, List.length_nil]); omega) (by show (_ + _) * 24 ≤ 140737488355328; (try simp only [List.length_cons, List.length_nil]); omega) rfl rfl rfl rfl rfl ?_
   rintro pv14 S h45 u7 w6
   have ap26 := w6.box h39
   have h46 := u7.box h39 ap10.symm
   have ap27 := w6.box h40
   have h47 := u7.box h40 ap11.symm
   have ap28 := w6.sameP h41
   have h48 := u7.sameP h41 o1
   refine Opl.p1 (v := .ptr i3 1) (n := Opl.stb (vs := [pv14]) h46 rfl (by exact Vec.cells h45) Z35 rfl (Nat.le_of_ble_eq_true rfl) (by simp only [List.all_cons, List.all_nil, Vec.one h45, Bool.and_true, Bool.true_and] <;> rfl) rfl rfl rfl ?_)
   rintro S (h49 : Box (.ptr i3 0) [.lit (.int .i64 a0_0), pv14] _) u8
   have h50 := u8.box h47 ap13.symm
   have h51 := u8.sameP h48 o2
   have h52 := u8.vec h45 ap26.symm
   refine Opl.nil (Evr.sr rfl (Opl.ldb (v := .agg [.lit (.int .i64 a0_0), pv14]) h49 rfl T37 rfl rfl rfl rfl (Opl.stb (vs := [.lit (.int .i64 a0_0), pv14]) h50 rfl rfl Z37 rfl (Nat.le_of_ble_eq_true rfl) (by simp only [List.all_cons, List.all_nil, Vec.one h52, Bool.and_true, Bool.true_and] <;> rfl) rfl rfl rfl ?_)))
   rintro S (h53 : Box (.ptr i4 0) [.lit (.int .i64 a0_0), pv14] _) u9
   have h54 := u9.box h49 ap13
   have h55 := u9.sameP h51 o3
   have h56 := u9.vec h52 ap27.symm
   refine Opl.nil ?_
   obtain rfl := Option.some.inj H
   refine Evr.retb (v := .agg [.lit (.int .i64 a0_0), pv14]) Try.func48 rfl h53 rfl T37 rfl ?_
   exact ⟨_, _, rfl, (by first | rfl | (simp only [go_sem]; rfl)), h56, ap28, h55⟩
  rw [if_pos c1] at H
  have e1 : (decide (x6_1 < (l1.length : Int))) = true := by simpa using c1
  try rw [e1]
  refine Evr.condT rfl (Evr.skip (Evr.seq (Evr.block (Evr.seq (Evr.sr rfl (Opl.p1 (n := Opl.p1 (n := ?_))))))))
  obtain ⟨c2, H⟩ := peel H
  obtain ⟨c3, H⟩ := peel H
  refine Opl.idx (M := (cInt .i64)) (xs := l1) (j := x6_1) (0 : Int) (by exact hv1) rfl (by omega) (by omega) K22 Z3 rfl rfl ?_
  rintro p1 q1 h18
  obtain rfl : p1 = [.lit (.int .i64 (rd l1 x6_1))] := h18
  refine Opl.lda (.lit (.int .i64 (rd l1 x6_1))) rfl T3 rfl rfl rfl rfl (Opl.p1 (n := Opl.nil ?_))
  by_cases c4 : (rd l1 x6_1) = 1
  case pos =>
   rw [if_pos c4] at H
   have e2 : ((rd l1 x6_1) == 1) = true := by simpa using c4
   try rw [e2]
   refine Evr.condT rfl (Evr.sr rfl (Opl.ldb (v := .agg [.lit (.int .i64 a0_0), pv2]) h13 rfl T37 rfl rfl rfl rfl (Opl.stb (vs := [.lit (.int .i64 a0_0), pv2]) h15 rfl rfl Z37 rfl (Nat.le_of_ble_eq_true rfl) (by simp only [List.all_cons, List.all_nil, Vec.one h14, Bool.and_true, Bool.true_and] <;> rfl) rfl rfl rfl ?_)))
   rintro S (h19 : Box (.ptr i4 0) [.lit (.int .i64 a0_0), pv2] _) u4
   have h20 := u4.vec h14 ap11
   have h21 := u4.box h13 ap13
   have h22 := u4.vec h16 ap15.symm
   have h23 := u4.sameP h17 o3
   refine Opl.nil ?_
   obtain rfl := Option.some.inj H
   refine Evr.retb (v := .agg [.lit (.int .i64 a0_0), pv2]) Try.func48 rfl h19 rfl T37 rfl ?_
   exact ⟨_, _, rfl, (by first | rfl | (simp only [go_sem]; rfl)), h20, o1, h23⟩
  rw [if_neg c4] at H
  have e3 : ((rd l1 x6_1) == 1) = false := by simpa using c4
  try rw [e3]
  refine Evr.condF rfl (Evr.skip (Evr.sr rfl (Opl.p1 (n := Opl.p1 (n := ?_)))))
  obtain ⟨c5, H⟩ := peel H
  obtain ⟨c6, H⟩ := peel H
  refine Opl.idx (M := (cInt .i64)) (xs := l1) (j := x6_1) (0 : Int) (by exact hv1) rfl (by omega) (by omega) K22 Z3 rfl rfl ?_
  rintro p2 q2 h24
  obtain rfl : p2 = [.lit (.int .i64 (rd l1 x6_1))] := h24
  refine Opl.lda (.lit (.int .i64 (rd l1 x6_1))) rfl T3 rfl rfl rfl rfl (Opl.p1 (n := Opl.nil ?_))
  refine Evr.join (fun tm S => ∃ (kq1 : Nat) (x5_2 : List Int) (pv4 : PV) (i5 : Abs.Id) (i6 : Abs.Id) (pv5 : PV), spec_l11Put.l1 kq1 x5_2 (wrap64 (x6_1 + 1)) a0_0 l0_1 l1 = some r ∧ kq1 ≤ n1 ∧ Has tm [(1, v1), (2, .ptr i5 0), (4, .ptr i6 0), (5, pv5), (6, .lit (.int .i64 x6_1))] ∧ Vec (cSl (cInt .i64)) l0_1 pv4 S ∧ Box (.ptr i5 0) [.lit (.int .i64 a0_0), pv4] S ∧ Box (.ptr i6 0) [.lit (.int .i64 0), .lit (.slice none 0 0)] S ∧ Vec (cInt .i64) x5_2 pv5 S ∧ Same S0 S (PV.id? v0_1).toList ∧ OutT S0 (PV.id? v0_1).toList (PV.id? pv4).toList ∧ OutT S0 (PV.id? v0_1).toList (PV.ptr i5 0).id?.toList ∧ OutT S0 (PV.id? v0_1).toList (PV.ptr i6 0).id?.toList ∧ OutT S0 (PV.id? v0_1).toList (PV.id? pv5).toList ∧ Ap pv4 (.ptr i5 0) ∧ Ap pv4 (.ptr i6 0) ∧ Ap pv4 pv5 ∧ Ap (.ptr i5 0) (.ptr i6 0) ∧ Ap (.ptr i5 0) pv5 ∧ Ap (.ptr i6 0) pv5) ?_ fun hk1 => ?_
  ·
   rintro tm S ⟨kq1, x5_2, pv4, i5, i6, pv5, H, hle, hh, h26, h25, h27, h28, h29, o5, o6, o7, o8, ap16, ap17, ap18, ap19, ap20, ap21⟩
   rw [hh.eq]
   refine Evr.inBlock (Evr.regionN rfl (Opl.p1 (n := Opl.add (k := .i64) (a := x6_1) (b := 1) K3 rfl rfl rfl rfl (Opl.one (v := .lit (.int .i64 (wrap64 (x6_1 + 1)))) rfl rfl rfl (Opl.nil ?_)))))
   exact ih1 _ (by omega) _ _ ⟨by omega, _, _, _, _, _, _, H, ⟨rfl, rfl, rfl, rfl, rfl, trivial⟩, h26, h25, h27, h28, h29, o5, o6, o7, o8, ap16, ap17, ap18, ap19, ap20, ap21⟩
  ·
   by_cases c7 : (rd l1 x6_1) > 1
   case neg =>
    rw [if_neg c7] at H
    have e5 : (decide ((rd l1 x6_1) > 1)) = false := by simpa using c7
    try rw [e5]
    refine Evr.condF rfl (Evr.skip ?_)
    exact hk1 _ _ ⟨_, _, _, _, _, _, H, by omega, ⟨rfl, rfl, rfl, rfl, rfl, trivial⟩, h14, h13, h15, h16, h17, o1, o2, o3, o4, ap10, ap11, ap12, ap13, ap14, ap15⟩
   rw [if_pos c7] at H
   have e4 : (decide ((rd l1 x6_1) > 1)) = true := by simpa using c7
   try rw [e4]
   refine Evr.condT rfl (Evr.regionN rfl (Opl.p1 (n := Opl.p1 (n := Opl.p1 (n := ?_)))))
   obtain ⟨c8, H⟩ := peel H
   obtain ⟨c9, H⟩ := peel H
   refine Opl.idx (M := (cInt .i64)) (xs := l1) (j := x6_1) (0 : Int) (by exact hv1) rfl (by omega) (by omega) K22 Z3 rfl rfl ?_
   rintro p3 q3 h30
   obtain rfl : p3 = [.lit (.int .i64 (rd l1 x6_1))] := h30
   refine Opl.lda (.lit (.int .i64 (rd l1 x6_1))) rfl T3 rfl rfl rfl rfl ?_
   obtain ⟨r1, h_r1, H⟩ := Option.bind_eq_some_iff.1 H
   refine Opl.callc (spec_l11Edge.ev h_r1) rfl rfl rfl rfl ⟨(.lit _), trivial⟩ (by decide) (Opl.liti (M := (cInt .i64)) (ys := [r1]) [.tmp 32] K22 T3 rfl rfl rfl (by exact ⟨rfl, trivial⟩) rfl (by decide) rfl rfl ?_)
   rintro pv7 h31
   obtain ⟨c10, H⟩ := peel H
   refine Opl.app (M := (cInt .i64)) (xs := x5_1) (ys := [r1]) (v := pv3) h16 (.sl h31) (oInt .i64) rfl rfl K22 T3 rfl rfl (by (try simp only [List.length_cons, List.length_nil]); omega) (by show (_ + _) * 8 ≤ 140737488355328; (try simp only [List.length_cons, List.length_nil]); omega) rfl rfl rfl rfl rfl ?_
   rintro pv8 S h32 u5 w5
   have ap22 := w5.vec h14
   have h33 := u5.vec h14 ap12
   have ap23 := w5.box h13
   have h34 := u5.box h13 ap14
   have ap24 := w5.box h15
   have h35 := u5.box h15 ap15
   have ap25 := w5.sameP h17
   have h36 := u5.sameP h17 o4
   refine Opl.p1 (n := Opl.nil ?_)
   exact hk1 _ _ ⟨_, _, _, _, _, _, H, by omega, ⟨rfl, rfl, rfl, rfl, rfl, trivial⟩, h33, h34, h35, h32, h36, o1, o2, o3, ap25, ap10, ap11, ap22, ap13, ap23, ap24⟩
theorem spec_l7Nodes.ev {a0_0 : Int} {l0_1 : List IAnd} {v0_1 : PV} (hv0_1 : Sl cIAnd l0_1 v0_1) {r : Int} (H : spec_l7Nodes.f a0_0 l0_1 = some r) : Ret Try.prog 47 [.agg [.lit (.int .i64 a0_0), v0_1]] fun v S => v = .lit (.int .i64 r) := by
 unfold spec_l7Nodes.f at H
 refine Ret.intro Try.func47 rfl (Nat.le_of_ble_eq_true rfl) rfl ?_
 rw [tm1]
 refine Evr.sr rfl (Opl.box (cs := [.lit (.int .i64 a0_0), v0_1]) rfl rfl rfl rfl ?_)
 rintro i1 S h1 u1 w1
 refine Opl.p1 (n := Opl.nil (Evr.sr rfl (Opl.p1 (v := .ptr i1 0) (n := Opl.ldb (v := .lit (.int .i64 a0_0)) h1 rfl T3 rfl rfl rfl rfl (Opl.add (k := .i64) (a := 1) (b := a0_0) K3 rfl rfl rfl rfl (Opl.p1 (v := .ptr i1 1) (n := Opl.ldb (v := v0_1) h1 rfl T40 rfl rfl rfl rfl (Opl.len (xs := l0_1) (by exact hv0_1) K40 rfl rfl rfl rfl (Opl.add (k := .i64) (a := (wrap64 (1 + a0_0))) (b := (l0_1.length : Int)) K3 rfl rfl rfl rfl (Opl.one (v := .lit (.int .i64 (wrap64 ((wrap64 (1 + a0_0)) + (l0_1.length : Int))))) rfl rfl rfl (Opl.nil ?_)))))))))))
 obtain rfl := Option.some.inj H
 refine Evr.ret1 Try.func47 rfl ?_
 show (.lit (.int .i64 (wrap64 ((wrap64 (1 + a0_0)) + (l0_1.length : Int)))) : PV) = _
 first | rfl | (simp only [go_sem]; rfl)
theorem spec_l7Edge.ev {a0_0 : Int} {l0_1 : List IAnd} {v0_1 : PV} (hv0_1 : Sl cIAnd l0_1 v0_1) {a1 : Int} {r : Bool} (H : spec_l7Edge.f a0_0 l0_1 a1 = some r) : Ret Try.prog 46 [.agg [.lit (.int .i64 a0_0), v0_1], .lit (.int .i64 a1)] fun v S => v = .lit (.bool r) := by
 unfold spec_l7Edge.f at H
 refine Ret.intro Try.func46 rfl (Nat.le_of_ble_eq_true rfl) rfl ?_
 rw [tm2]
 refine Evr.sr rfl (Opl.box (cs := [.lit (.int .i64 a0_0), v0_1]) rfl rfl rfl rfl ?_)
 rintro i1 S h1 u1 w1
 refine Opl.p1 (n := Opl.nil (Evr.sr rfl (Opl.p1 (n := Opl.ldb (v := .agg [.lit (.int .i64 a0_0), v0_1]) h1 rfl T42 rfl rfl rfl rfl ?_))))
 obtain ⟨t358, h_t358, H⟩ := Option.bind_eq_some_iff.1 H
 refine Opl.callc (spec_l7Nodes.ev hv0_1 h_t358) rfl rfl rfl rfl ⟨(.aggL ⟨(.lit _), hv0_1.plain, trivial⟩), trivial⟩ (by decide) (Opl.mul (k := .i64) (a := 2) (b := t358) K3 rfl rfl rfl rfl (Opl.subi (k := .i64) (a := (wrap64 (2 * t358))) (b := 1) K3 rfl rfl rfl rfl ?_))
 obtain ⟨t359, h_t359, H⟩ := Option.bind_eq_some_iff.1 H
 refine Opl.callc (spec_l1In.ev h_t359) rfl rfl rfl rfl ⟨(.lit _), (.lit _), (.lit _), trivial⟩ (by decide) (Opl.one (v := .lit (.bool t359)) rfl rfl rfl (Opl.nil ?_))
 obtain rfl := Option.some.inj H
 refine Evr.ret1 Try.func46 rfl ?_
 show (.lit (.bool t359) : PV) = _
 first | rfl | (simp only [go_sem]; rfl)
theorem spec_l7Not.ev {a0 : Int} {r : Int} (H : spec_l7Not.f a0 = some r) : Ret Try.prog 49 [.lit (.int .i64 a0)] fun v S => v = .lit (.int .i64 r) := by
 unfold spec_l7Not.f at H
 refine Ret.intro Try.func49 rfl (Nat.le_of_ble_eq_true rfl) rfl ?_
 rw [tm1]
 refine Evr.sr rfl (Opl.p1 (n := Opl.nil (Evr.seq (Evr.sr rfl (Opl.p1 (n := Opl.p1 (n := Opl.nil ?_)))))))
 by_cases c1 : a0 < 0
 case pos =>
  rw [if_pos c1] at H
  have e1 : (decide (a0 < 0)) = true := by simpa using c1
  try rw [e1]
  refine Evr.condT rfl (Evr.sr rfl (Opl.p1 (n := Opl.nil ?_)))
  obtain rfl := Option.some.inj H
  refine Evr.ret1 Try.func49 rfl ?_
  show (.lit (.int .i64 (-1)) : PV) = _
  first | rfl | (simp only [go_sem]; rfl)
 rw [if_neg c1] at H
 have e2 : (decide (a0 < 0)) = false := by simpa using c1
 try rw [e2]
 refine Evr.condF rfl (Evr.skip (Evr.sr rfl (Opl.p1 (n := Opl.one (v := .lit (.int .i64 (wrap64 (Int.tdiv a0 2)))) rfl rfl (by simp only [go_sem]; rw [if_neg (by first | assumption | decide | omega)]; rfl) (Opl.mul (k := .i64) (a := (wrap64 (Int.tdiv a0 2))) (b := 2) K3 rfl rfl rfl rfl (Opl.add (k := .i64) (a := (wrap64 ((wrap64 (Int.tdiv a0 2)) * 2))) (b := 1) K3 rfl rfl rfl rfl (Opl.one (v := .lit (.int .i64 a0)) rfl rfl rfl (Opl.one (v := .lit (.int .i64 (Int.tmod a0 2))) rfl rfl (by simp only [go_sem]; rw [if_neg (by first | assumption | decide | omega)]; rfl) (Opl.subi (k := .i64) (a := (wrap64 ((wrap64 ((wrap64 (Int.tdiv a0 2)) * 2)) + 1))) (b := (Int.tmod a0 2)) K3 rfl rfl rfl rfl (Opl.one (v := .lit (.int .i64 (wrap64 ((wrap64 ((wrap64 ((wrap64 (Int.tdiv a0 2)) * 2)) + 1)) - (Int.tmod a0 2))))) rfl rfl rfl (Opl.nil ?_)))))))))))
 obtain rfl := Option.some.inj H
 refine Evr.ret1 Try.func49 rfl ?_
 show (.lit (.int .i64 (wrap64 ((wrap64 ((wrap64 ((wrap64 (Int.tdiv a0 2)) * 2)) + 1)) - (Int.tmod a0 2)))) : PV) = _
 first | rfl | (simp only [go_sem]; rfl)
theorem spec_ClausesOf.ev {k : Nat} {a0_0 : Int} {l0_1 : List IAnd} {v0_1 : PV} (hv0_1 : Sl cIAnd l0_1 v0_1) {a1 : Int} {r : (Int × List (List Int)) × Bool} (H : spec_ClausesOf.f k a0_0 l0_1 a1 = some r) : Ret Try.prog 16 [.agg [.lit (.int .i64 a0_0), v0_1], .lit (.int .i64 a1)] fun v S => Out (fun q => ∃ q1 q2, q = .tup [q1, q2] ∧ (∃ q11 q12, q1 = .agg [q11, q12] ∧ q11 = .lit (.int .i64 r.1.1) ∧ Sl (cSl (cInt .i64)) r.1.2 q12) ∧ q2 = .lit (.bool r.2)) v S := by
 unfold spec_ClausesOf.f at H
 refine Ret.intro Try.func16 rfl (Nat.le_of_ble_eq_true rfl) rfl ?_
 rw [tm2]
 refine Evr.sr rfl (Opl.box (cs := [.lit (.int .i64 a0_0), v0_1]) rfl rfl rfl rfl ?_)
 rintro i1 S h1 u1 w1
 refine Opl.alloc T37 rfl rfl rfl ?_
 rintro i2 S h2 u2 w2
 have ap1 := w2.box h1
 have h3 := u2.box h1 ap1
 refine Opl.p1 (n := Opl.nil (Evr.seq (Evr.sr rfl (Opl.ldb (v := .agg [.lit (.int .i64 a0_0), v0_1]) h3 rfl T42 rfl rfl rfl rfl ?_))))
 obtain ⟨r1, h_r1, H⟩ := Option.bind_eq_some_iff.1 H
 refine Opl.callc (spec_CircuitValid.ev hv0_1 h_r1) rfl rfl rfl rfl ⟨(.aggL ⟨(.lit _), hv0_1.plain, trivial⟩), trivial⟩ (by decide) (Opl.p1 (n := Opl.p1 (n := ?_)))
 by_cases c1 : r1 = true
 case neg =>
  rw [if_neg c1] at H
  have e6 : (!r1) = true := by simpa using c1
  try rw [e6]
  refine Opl.skp rfl (Opl.skp rfl (Opl.skp rfl (Opl.skp rfl (Opl.p1 (n := Opl.nil (Evr.condT rfl (Evr.sr rfl (Opl.p1 (v := .agg [.lit (.int .i64 0), .lit (.slice none 0 0)]) (n := Opl.stb (vs := [.lit (.int .i64 0), .lit (.slice none 0 0)]) h2 rfl rfl Z37 rfl (Nat.le_of_ble_eq_true rfl) rfl rfl rfl rfl ?_)))))))))
  rintro S (h58 : Box (.ptr i2 0) [.lit (.int .i64 0), .lit (.slice none 0 0)] _) u14
  have h59 := u14.box h3 ap1
  refine Opl.p1 (n := Opl.nil ?_)
  obtain rfl := Option.some.inj H
  refine Evr.ret_ct (v0 := .agg [.lit (.int .i64 0), .lit (.slice none 0 0)]) Try.func16 rfl h58 rfl T37 rfl ?_
  show Out _ (.tup [.agg [.lit (.int .i64 0), .lit (.slice none 0 0)], .lit (.bool false)]) _
  exact .tup2 (.agg2 .lit (.sl .nil)) .lit
 rw [if_pos c1] at H
 have e1 : (!r1) = false := by simpa using c1
 try rw [e1]
 refine Opl.ldb (v := .agg [.lit (.int .i64 a0_0), v0_1]) h3 rfl T42 rfl rfl rfl rfl (Opl.p1 (n := ?_))
 obtain ⟨r2, h_r2, H⟩ := Option.bind_eq_some_iff.1 H
 refine Opl.callc (spec_l7Edge.ev hv0_1 h_r2) rfl rfl rfl rfl ⟨(.aggL ⟨(.lit _), hv0_1.plain, trivial⟩), (.lit _), trivial⟩ (by decide) (Opl.p1 (n := Opl.p1 (n := Opl.nil ?_)))
 by_cases c2 : r2 = true
 case neg =>
  rw [if_neg c2] at H
  have e5 : (!r2) = true := by simpa using c2
  try rw [e5]
  refine Evr.condT rfl (Evr.sr rfl (Opl.p1 (v := .agg [.lit (.int .i64 0), .lit (.slice none 0 0)]) (n := Opl.stb (vs := [.lit (.int .i64 0), .lit (.slice none 0 0)]) h2 rfl rfl Z37 rfl (Nat.le_of_ble_eq_true rfl) rfl rfl rfl rfl ?_)))
  rintro S (h56 : Box (.ptr i2 0) [.lit (.int .i64 0), .lit (.slice none 0 0)] _) u13
  have h57 := u13.box h3 ap1
  refine Opl.p1 (n := Opl.nil ?_)
  obtain rfl := Option.some.inj H
  refine Evr.ret_ct (v0 := .agg [.lit (.int .i64 0), .lit (.slice none 0 0)]) Try.func16 rfl h56 rfl T37 rfl ?_
  show Out _ (.tup [.agg [.lit (.int .i64 0), .lit (.slice none 0 0)], .lit (.bool false)]) _
  exact .tup2 (.agg2 .lit (.sl .nil)) .lit
 rw [if_pos c2] at H
 have e2 : (!r2) = false := by simpa using c2
 try rw [e2]
 refine Evr.condF rfl (Evr.skip (Evr.sr rfl (Opl.ldb (v := .agg [.lit (.int .i64 a0_0), v0_1]) h3 rfl T42 rfl rfl rfl rfl ?_)))
 obtain ⟨r3, h_r3, H⟩ := Option.bind_eq_some_iff.1 H
 refine Opl.callc (spec_l7Nodes.ev hv0_1 h_r3) rfl rfl rfl rfl ⟨(.aggL ⟨(.lit _), hv0_1.plain, trivial⟩), trivial⟩ (by decide) (Opl.subi (k := .i64) (a := r3) (b := 1) K3 rfl rfl rfl rfl (Opl.p1 (v := .agg [.lit (.int .i64 (wrap64 (r3 - 1))), .lit (.slice none 0 0)]) (n := Opl.alloc T37 rfl rfl rfl ?_)))
 rintro i3 S h4 u3 w3
 have ap2 := w3.box h3
 have h5 := u3.box h3 ap2
 have ap3 := w3.box h2
 have h6 := u3.box h2 ap3
 refine Opl.stb (vs := [.lit (.int .i64 (wrap64 (r3 - 1))), .lit (.slice none 0 0)]) h4 rfl rfl Z37 rfl (Nat.le_of_ble_eq_true rfl) rfl rfl rfl rfl ?_
 rintro S (h7 : Box (.ptr i3 0) [.lit (.int .i64 (wrap64 (r3 - 1))), .lit (.slice none 0 0)] _) u4
 have h8 := u4.box h5 ap2
 have h9 := u4.box h6 ap3
 refine Opl.nil (Evr.seq (Evr.sr rfl (Opl.one (v := .lit (.int .i64 0)) rfl rfl rfl (Opl.nil (Evr.block ?_)))))
 refine Evr.loop (Evr.rounds (n := k) (Inv := fun n tm S => n ≤ k ∧ ∃ (x6b0_1 : Int) (x6b1_1 : List (List Int)) (x7_1 : Int) (i4 : Abs.Id) (i5 : Abs.Id) (pv1 : PV) (i6 : Abs.Id), spec_ClausesOf.l1 n x6b0_1 x6b1_1 x7_1 a0_0 l0_1 a1 = some r ∧ Has tm [(1, .lit (.int .i64 a1)), (2, .ptr i4 0), (4, .ptr i5 0), (6, .ptr i6 0), (7, .lit (.int .i64 x7_1))] ∧ Box (.ptr i4 0) [.lit (.int .i64 a0_0), v0_1] S ∧ Box (.ptr i5 0) [.lit (.int .i64 0), .lit (.slice none 0 0)] S ∧ Vec (cSl (cInt .i64)) x6b1_1 pv1 S ∧ Box (.ptr i6 0) [.lit (.int .i64 x6b0_1), pv1] S ∧ Ap (.ptr i4 0) (.ptr i5 0) ∧ Ap (.ptr i4 0) pv1 ∧ Ap (.ptr i4 0) (.ptr i6 0) ∧ Ap (.ptr i5 0) pv1 ∧ Ap (.ptr i5 0) (.ptr i6 0) ∧ Ap pv1 (.ptr i6 0)) ?_ ?_ ?_)
 · exact ⟨Nat.le_refl _, _, _, _, _, _, _, _, H, ⟨rfl, rfl, rfl, rfl, rfl, trivial⟩, h8, h9, .nil, h7, ap1, Ap.nil.symm, ap2, Ap.nil.symm, ap3, .nil⟩
 ·
  rintro tm S ⟨_, _, _, _, _, _, _, _, H, -⟩
  simp [spec_ClausesOf.l1] at H
 ·
  rintro n1 ih1 tm S ⟨hle, x6b0_1, x6b1_1, x7_1, i4, i5, pv1, i6, H, hh, h10, h11, h13, h12, ap4, ap5, ap6, ap7, ap8, ap9⟩
  simp only [spec_ClausesOf.l1] at H
  rw [hh.eq]
  refine Evr.seq (Evr.sr rfl (Opl.p1 (n := Opl.p1 (v := .ptr i4 1) (n := Opl.ldb (v := v0_1) h10 rfl T40 rfl rfl rfl rfl (Opl.len (xs := l0_1) (by exact hv0_1) K40 rfl rfl rfl rfl (Opl.p1 (n := Opl.nil ?_)))))))
  by_cases c3 : x7_1 < (l0_1.length : Int)
  case neg =>
   rw [if_neg c3] at H
   have e4 : (decide (x7_1 < (l0_1.length : Int))) = false := by simpa using c3
   try rw [e4]
   refine Evr.condF rfl (Evr.exit rfl (Evr.sr rfl (Opl.ldb (v := .agg [.lit (.int .i64 x6b0_1), pv1]) h12 rfl T37 rfl rfl rfl rfl (Opl.p1 (n := Opl.liti (M := (cInt .i64)) (ys := [a1]) [.tmp 71] K22 T3 rfl rfl rfl (by exact ⟨rfl, trivial⟩) rfl (by decide) rfl rfl ?_)))))
   rintro pv12 h46
   obtain ⟨r9, h_r9, H⟩ := Option.bind_eq_some_iff.1 H
   refine Opl.calls (spec_l11Put.evb h13 h46 h_r9) rfl rfl rfl rfl rfl ?_
   rintro _ S ⟨_, pv13, rfl, rfl, h47, o4, u11⟩
   have h49 := u11.box h10 ap5.apT
   have h50 := u11.box h11 ap7.apT
   have h51 := u11.box h12 ap9.symm.apT
   have ap19 := OutT.apb o4 h10 ap5
   have ap20 := OutT.apb o4 h11 ap7
   have ap21 := OutT.apb o4 h12 ap9.symm
   refine Opl.stb (vs := [.lit (.int .i64 r9.1), pv13]) h50 rfl rfl Z37 rfl (Nat.le_of_ble_eq_true rfl) (by simp only [List.all_cons, List.all_nil, Vec.one h47, Bool.and_true, Bool.true_and] <;> rfl) rfl rfl rfl ?_
   rintro S (h52 : Box (.ptr i5 0) [.lit (.int .i64 r9.1), pv13] _) u12
   have h53 := u12.box h49 ap4
   have h54 := u12.box h51 ap8.symm
   have h55 := u12.vec h47 ap20.symm
   refine Opl.p1 (n := Opl.nil ?_)
   obtain rfl := Option.some.inj H
   refine Evr.ret_ct (v0 := .agg [.lit (.int .i64 r9.1), pv13]) Try.func16 rfl h52 rfl T37 rfl ?_
   show Out _ (.tup [.agg [.lit (.int .i64 r9.1), pv13], .lit (.bool true)]) _
   exact .tup2 (.agg2 .lit (.vec h55)) .lit
  rw [if_pos c3] at H
  have e3 : (decide (x7_1 < (l0_1.length : Int))) = true := by simpa using c3
  try rw [e3]
  refine Evr.condT rfl (Evr.skip (Evr.seq (Evr.block (Evr.sr rfl (Opl.p1 (v := .ptr i4 0) (n := Opl.ldb (v := .lit (.int .i64 a0_0)) h10 rfl T3 rfl rfl rfl rfl (Opl.add (k := .i64) (a := 1) (b := a0_0) K3 rfl rfl rfl rfl (Opl.one (v := .lit (.int .i64 x7_1)) rfl rfl rfl (Opl.add (k := .i64) (a := (wrap64 (1 + a0_0))) (b := x7_1) K3 rfl rfl rfl rfl (Opl.mul (k := .i64) (a := 2) (b := (wrap64 ((wrap64 (1 + a0_0)) + x7_1))) K3 rfl rfl rfl rfl (Opl.one (v := .lit (.int .i64 (wrap64 (2 * (wrap64 ((wrap64 (1 + a0_0)) + x7_1)))))) rfl rfl rfl (Opl.nil (Evr.sr rfl (Opl.p1 (v := .ptr i4 1) (n := Opl.ldb (v := v0_1) h10 rfl T40 rfl rfl rfl rfl (Opl.one (v := .lit (.int .i64 x7_1)) rfl rfl rfl ?_))))))))))))))))
  obtain ⟨c4, H⟩ := peel H
  obtain ⟨c5, H⟩ := peel H
  obtain ⟨c6, H⟩ := peel H
  obtain ⟨c7, H⟩ := peel H
  refine Opl.idx (M := cIAnd) (xs := l0_1) (j := x7_1) zIAnd (by exact hv0_1) rfl (by omega) (by omega) K40 Z69 rfl rfl ?_
  rintro p1 q1 h14
  obtain rfl := cIAnd_R (x := (rd_IAnd l0_1 x7_1)) h14
  refine Opl.p1 (v := .fel ((.lit (.int .i64 ((rd_IAnd l0_1 x7_1).f0))) :: (.lit (.int .i64 ((rd_IAnd l0_1 x7_1).f1))) :: q1)) (n := Opl.lda (.lit (.int .i64 ((rd_IAnd l0_1 x7_1).f0))) rfl T3 rfl rfl rfl rfl (Opl.one (v := .lit (.int .i64 ((rd_IAnd l0_1 x7_1).f0))) rfl rfl rfl (Opl.nil (Evr.sr rfl (Opl.p1 (v := .ptr i4 1) (n := Opl.ldb (v := v0_1) h10 rfl T40 rfl rfl rfl rfl (Opl.one (v := .lit (.int .i64 x7_1)) rfl rfl rfl (Opl.idx (M := cIAnd) (xs := l0_1) (j := x7_1) zIAnd (by exact hv0_1) rfl (by omega) (by omega) K40 Z69 rfl rfl ?_))))))))
  rintro p2 q2 h15
  obtain rfl := cIAnd_R (x := (rd_IAnd l0_1 x7_1)) h15
  refine Opl.p1 (v := .fel ((.lit (.int .i64 ((rd_IAnd l0_1 x7_1).f1))) :: q2)) (n := Opl.lda (.lit (.int .i64 ((rd_IAnd l0_1 x7_1).f1))) rfl T3 rfl rfl rfl rfl (Opl.one (v := .lit (.int .i64 ((rd_IAnd l0_1 x7_1).f1))) rfl rfl rfl (Opl.nil (Evr.sr rfl (Opl.ldb (v := .agg [.lit (.int .i64 x6b0_1), pv1]) h12 rfl T37 rfl rfl rfl rfl (Opl.one (v := .lit (.int .i64 (wrap64 (2 * (wrap64 ((wrap64 (1 + a0_0)) + x7_1)))))) rfl rfl rfl (Opl.add (k := .i64) (a := (wrap64 (2 * (wrap64 ((wrap64 (1 + a0_0)) + x7_1))))) (b := 1) K3 rfl rfl rfl rfl (Opl.one (v := .lit (.int .i64 ((rd_IAnd l0_1 x7_1).f0))) rfl rfl rfl (Opl.liti (M := (cInt .i64)) (ys := [(wrap64 ((wrap64 (2 * (wrap64 ((wrap64 (1 + a0_0)) + x7_1)))) + 1)), ((rd_IAnd l0_1 x7_1).f0)]) [.tmp 52, .tmp 53] K22 T3 rfl rfl rfl (by exact ⟨rfl, rfl, trivial⟩) rfl (by decide) rfl rfl ?_)))))))))
  rintro pv3 h16
  obtain ⟨r4, h_r4, H⟩ := Option.bind_eq_some_iff.1 H
  refine Opl.calls (spec_l11Put.evb h13 h16 h_r4) rfl rfl rfl rfl rfl ?_
  rintro _ S ⟨_, pv4, rfl, rfl, h17, o1, u5⟩
  have h19 := u5.box h10 ap5.apT
  have h20 := u5.box h11 ap7.apT
  have h21 := u5.box h12 ap9.symm.apT
  have ap10 := OutT.apb o1 h10 ap5
  have ap11 := OutT.apb o1 h11 ap7
  have ap12 := OutT.apb o1 h12 ap9.symm
  refine Opl.stb (vs := [.lit (.int .i64 r4.1), pv4]) h21 rfl rfl Z37 rfl (Nat.le_of_ble_eq_true rfl) (by simp only [List.all_cons, List.all_nil, Vec.one h17, Bool.and_true, Bool.true_and] <;> rfl) rfl rfl rfl ?_
  rintro S (h22 : Box (.ptr i6 0) [.lit (.int .i64 r4.1), pv4] _) u6
  have h23 := u6.box h19 ap6
  have h24 := u6.box h20 ap8
  have h25 := u6.vec h17 ap12.symm
  refine Opl.nil (Evr.sr rfl (Opl.ldb (v := .agg [.lit (.int .i64 r4.1), pv4]) h22 rfl T37 rfl rfl rfl rfl (Opl.one (v := .lit (.int .i64 (wrap64 (2 * (wrap64 ((wrap64 (1 + a0_0)) + x7_1)))))) rfl rfl rfl (Opl.add (k := .i64) (a := (wrap64 (2 * (wrap64 ((wrap64 (1 + a0_0)) + x7_1))))) (b := 1) K3 rfl rfl rfl rfl (Opl.one (v := .lit (.int .i64 ((rd_IAnd l0_1 x7_1).f1))) rfl rfl rfl (Opl.liti (M := (cInt .i64)) (ys := [(wrap64 ((wrap64 (2 * (wrap64 ((wrap64 (1 + a0_0)) + x7_1)))) + 1)), ((rd_IAnd l0_1 x7_1).f1)]) [.tmp 58, .tmp 59] K22 T3 rfl rfl rfl (by exact ⟨rfl, rfl, trivial⟩) rfl (by decide) rfl rfl ?_))))))
  rintro pv6 h26
  obtain ⟨r5, h_r5, H⟩ := Option.bind_eq_some_iff.1 H
  refine Opl.calls (spec_l11Put.evb h25 h26 h_r5) rfl rfl rfl rfl rfl ?_
  rintro _ S ⟨_, pv7, rfl, rfl, h27, o2, u7⟩
  have h29 := u7.box h23 ap10.apT
  have h30 := u7.box h24 ap11.apT
  have h31 := u7.box h22 ap12.apT
  have ap13 := OutT.apb o2 h23 ap10
  have ap14 := OutT.apb o2 h24 ap11
  have ap15 := OutT.apb o2 h22 ap12
  refine Opl.stb (vs := [.lit (.int .i64 r5.1), pv7]) h31 rfl rfl Z37 rfl (Nat.le_of_ble_eq_true rfl) (by simp only [List.all_cons, List.all_nil, Vec.one h27, Bool.and_true, Bool.true_and] <;> rfl) rfl rfl rfl ?_
  rintro S (h32 : Box (.ptr i6 0) [.lit (.int .i64 r5.1), pv7] _) u8
  have h33 := u8.box h29 ap6
  have h34 := u8.box h30 ap8
  have h35 := u8.vec h27 ap15.symm
  refine Opl.nil (Evr.regionL [(7, .n), (6, .p), (0, .q)] rfl (by kernel_rfl) (Opl.ldbk (v := .agg [.lit (.int .i64 r5.1), pv7]) h32 (rd_vec h35) rfl T37 rfl rfl rfl rfl (Opl.one (v := .lit (.int .i64 (wrap64 (2 * (wrap64 ((wrap64 (1 + a0_0)) + x7_1)))))) rfl rfl rfl (Opl.one (v := .lit (.int .i64 ((rd_IAnd l0_1 x7_1).f0))) rfl rfl rfl ?_))))
  obtain ⟨r6, h_r6, H⟩ := Option.bind_eq_some_iff.1 H
  refine Opl.callc (spec_l7Not.ev h_r6) rfl rfl rfl rfl ⟨(.lit _), trivial⟩ (by decide) (Opl.one (v := .lit (.int .i64 ((rd_IAnd l0_1 x7_1).f1))) rfl rfl rfl ?_)
  obtain ⟨r7, h_r7, H⟩ := Option.bind_eq_some_iff.1 H
  refine Opl.callc (spec_l7Not.ev h_r7) rfl rfl rfl rfl ⟨(.lit _), trivial⟩ (by decide) (Opl.liti (M := (cInt .i64)) (ys := [(wrap64 (2 * (wrap64 ((wrap64 (1 + a0_0)) + x7_1)))), r6, r7]) [.tmp 63, .tmp 65, .tmp 67] K22 T3 rfl rfl rfl (by exact ⟨rfl, rfl, rfl, trivial⟩) rfl (by decide) rfl rfl ?_)
  rintro pv9 h36
  obtain ⟨r8, h_r8, H⟩ := Option.bind_eq_some_iff.1 H
  refine Opl.calls (spec_l11Put.evb h35 h36 h_r8) rfl rfl rfl rfl rfl ?_
  rintro _ S ⟨_, pv10, rfl, rfl, h37, o3, u9⟩
  have h39 := u9.box h33 ap13.apT
  have h40 := u9.box h34 ap14.apT
  have h41 := u9.box h32 ap15.apT
  have ap16 := OutT.apb o3 h33 ap13
  have ap17 := OutT.apb o3 h34 ap14
  have ap18 := OutT.apb o3 h32 ap15
  refine Opl.stb (vs := [.lit (.int .i64 r8.1), pv10]) h41 rfl rfl Z37 rfl (Nat.le_of_ble_eq_true rfl) (by simp only [List.all_cons, List.all_nil, Vec.one h37, Bool.and_true, Bool.true_and] <;> rfl) rfl rfl rfl ?_
  rintro S (h42 : Box (.ptr i6 0) [.lit (.int .i64 r8.1), pv10] _) u10
  have h43 := u10.box h39 ap6
  have h44 := u10.box h40 ap8
  have h45 := u10.vec h37 ap18.symm
  refine Opl.nil (Evr.inBlock (Evr.regionN rfl (Opl.one (v := .lit (.int .i64 x7_1)) rfl rfl rfl (Opl.add (k := .i64) (a := x7_1) (b := 1) K3 rfl rfl rfl rfl (Opl.one (v := .lit (.int .i64 (wrap64 (x7_1 + 1)))) rfl rfl rfl (Opl.nil ?_))))))
  exact ih1 _ (by omega) _ _ ⟨by omega, _, _, _, _, _, _, _, H, ⟨rfl, rfl, rfl, rfl, rfl, trivial⟩, h43, h44, h45, h42, ap4, ap16, ap6, ap17, ap8, ap18.symm⟩
end Go.Proofs.Ytigbbefdndcmbaa.PA
