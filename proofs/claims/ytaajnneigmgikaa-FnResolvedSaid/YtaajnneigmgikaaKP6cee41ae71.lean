/- Walks of Go functions: each is shown to answer as the Lean function beside it tells, under the conditions that its theorem names. -/
import Derived.Test.YtaajnneigmgikaaProg
import Derived.KernelRfl
import Derived.Below
import Derived.Deep.Draws
import Derived.Deep.AppendLies
import Derived.Maps.AppendAt
import Derived.OwnWalk
import Derived.Laws.BytesArg
import Derived.Laws.MakeOwn
import Derived.Laws.OwnMore
import Derived.Deep.OwnRows
import Derived.Tactics
import Derived.Lib.ConvBytes
import Derived.Laws.Slices
import Derived.WalkKit
import Derived.RowKit3
import Derived.Deep.LoopGhost
import Derived.Deep.QuietTactic
import Derived.BigQuiet
import Derived.WideLaws
import Derived.Deep.DeepCutAuto
import Derived.Deep.CutBlock
import Derived.Deep.RegionHeld3
import Derived.Laws.Rows
import Derived.Lib.AppendStr
import Derived.ArgAppend
import Derived.Laws.IdiomCopy
import Derived.OrdersHeld
import Derived.Laws.BitsLemmas
import Derived.RowKit
import Derived.Laws.StructEq
import Derived.Lib.SliceRun
import Derived.WalkSpells
import Derived.ChangeArms
import Derived.ChangeSlices
import Derived.Deep.Slices
import Derived.Attr
import Derived.Laws.Append
import Derived.Laws.AppendOwn
import Derived.Laws.Entries
import Derived.Calls
import Derived.Laws.Sem
import Derived.Test.YtaajnneigmgikaaKPcc8e2b1259
import Derived.Test.YtaajnneigmgikaaKP9f9cc294f6
namespace Go.Proofs.Ytaajnneigmgikaa.PA
open Go Go.Abs Go.RowKit Go.Proofs Go.Proofs.YtaajnneigmgikaaW.PrintWords Go.Proofs.YtaajnneigmgikaaW.PrintLast Go.Proofs.YtaajnneigmgikaaW.PrintMore
set_option maxRecDepth 100000
set_option maxHeartbeats 4000000
set_option linter.unusedVariables false
set_option linter.unusedSimpArgs false
theorem laws_FnResolved.ev {k : Nat} {l0 : List Int} {v0 : PV} (hv0 : Sl (cInt .u8) l0 v0) {r : Bool} (H : laws_FnResolved.f k l0 = some r) : Ret Try.prog 5 [v0] fun v S => v = .lit (.bool r) := by
 unfold laws_FnResolved.f at H
 refine Ret.intro Try.func5 rfl (Nat.le_of_ble_eq_true rfl) rfl ?_
 rw [tm1]
 refine Evr.sr rfl (Opl.p1 (n := Opl.nil (Evr.seq (Evr.sr rfl (Opl.p1 (n := Opl.len (xs := l0) (by exact hv0) K40 rfl rfl rfl rfl (Opl.p1 (n := Opl.nil ?_))))))))
 by_cases c1 : (l0.length : Int) > 1048576
 case pos =>
  rw [if_pos c1] at H
  have e1 : (decide ((l0.length : Int) > 1048576)) = true := by simpa using c1
  try rw [e1]
  refine Evr.condT rfl (Evr.sr rfl (Opl.p1 (n := Opl.nil ?_)))
  obtain rfl := Option.some.inj H
  refine Evr.ret1 Try.func5 rfl ?_
  show (.lit (.bool true) : PV) = _
  first | rfl | (simp only [go_sem]; rfl)
 rw [if_neg c1] at H
 have e2 : (decide ((l0.length : Int) > 1048576)) = false := by simpa using c1
 try rw [e2]
 refine Evr.condF rfl (Evr.skip (Evr.sr rfl (Opl.p1 (n := ?_))))
 obtain ⟨r1, h_r1, H⟩ := Option.bind_eq_some_iff.1 H
 refine Opl.call (spec_DrawResolved.ev hv0 h_r1) rfl rfl rfl rfl ⟨hv0.plain, trivial⟩ (by decide) ?_
 rintro _ ⟨pv2, pv3, _, rfl, h2, h3, rfl⟩
 refine Opl.p1 (n := Opl.p1 (v := pv2) (n := Opl.p1 (v := pv3) (n := Opl.p1 (v := .lit (.int .i64 r1.2.2)) (n := Opl.p1 (n := Opl.p1 (n := Opl.p1 (n := Opl.nil (Evr.sr rfl (Opl.p1 (n := Opl.p1 (n := Opl.p1 (n := ?_))))))))))))
 obtain ⟨r2, h_r2, H⟩ := Option.bind_eq_some_iff.1 H
 refine Opl.call (impl_Resolved.ev h2 h3 h_r2) rfl rfl rfl rfl ⟨h2.plain, h3.plain, (.lit _), trivial⟩ (by decide) ?_
 rintro _ ⟨pv5, _, rfl, h5, rfl⟩
 refine Opl.p1 (n := Opl.p1 (v := pv5) (n := Opl.p1 (v := .lit (.bool r2.2)) (n := Opl.p1 (n := Opl.p1 (n := Opl.nil (Evr.sr rfl (Opl.p1 (n := Opl.p1 (n := Opl.p1 (n := ?_))))))))))
 obtain ⟨r3, h_r3, H⟩ := Option.bind_eq_some_iff.1 H
 refine Opl.call (spec_Resolved.ev h2 h3 h_r3) rfl rfl rfl rfl ⟨h2.plain, h3.plain, (.lit _), trivial⟩ (by decide) ?_
 rintro _ ⟨pv7, _, rfl, h7, rfl⟩
 refine Opl.p1 (n := Opl.p1 (v := pv7) (n := Opl.p1 (v := .lit (.bool r3.2)) (n := Opl.p1 (n := Opl.p1 (n := Opl.nil (Evr.seq (Evr.sr rfl (Opl.p1 (n := Opl.p1 (n := Opl.p1 (n := Opl.p1 (n := ?_))))))))))))
 by_cases c2 : r2.2 ≠ r3.2
 case pos =>
  rw [if_pos c2] at H
  have e3 : (r2.2 != r3.2) = true := by simpa using c2
  try rw [e3]
  refine Opl.skp rfl (Opl.skp rfl (Opl.skp rfl (Opl.skp rfl (Opl.p1 (n := Opl.p1 (n := Opl.skp rfl (Opl.skp rfl (Opl.p1 (n := Opl.nil (Evr.condT rfl (Evr.seq ?_)))))))))))
  refine Evr.join (fun tm S => ∃ (kq1 : Nat) (x2q5_1 : Bool), laws_FnResolved.j1 kq1 x2q5_1 = some r ∧ Has tm [(2, .lit (.bool x2q5_1))]) ?_ fun hk1 => ?_
  ·
   rintro tm S ⟨kq1, x2q5_1, H, hh⟩
   rw [hh.eq]
   obtain _ | k1 := kq1
   · simp [laws_FnResolved.j1] at H
   simp only [laws_FnResolved.j1] at H
   obtain rfl := Option.some.inj H
   refine Evr.ret1 Try.func5 rfl ?_
   show (.lit (.bool x2q5_1) : PV) = _
   first | rfl | (simp only [go_sem]; rfl)
  ·
   refine Evr.regionN rfl (Opl.p1 (n := Opl.p1 (n := Opl.p1 (n := Opl.p1 (n := ?_)))))
   by_cases c3 : r2.2 = r3.2
   case neg =>
    rw [if_neg c3] at H
    have e7 : (r2.2 == r3.2) = false := by simpa using c3
    try rw [e7]
    refine Opl.skp rfl (Opl.skp rfl (Opl.skp rfl (Opl.p1 (n := Opl.p1 (n := Opl.skp rfl (Opl.skp rfl (Opl.skp rfl (Opl.skp rfl (Opl.skp rfl (Opl.p1 (n := Opl.p1 (n := Opl.nil ?_))))))))))))
    exact hk1 _ _ ⟨_, _, H, ⟨(by first | rfl | (show PV.lit (.bool _) = _; congr 2; simp_all)), trivial⟩⟩
   rw [if_pos c3] at H
   have e4 : (r2.2 == r3.2) = true := by simpa using c3
   try rw [e4]
   refine Opl.p1 (n := Opl.len (xs := r2.1) (by exact h5) K41 rfl rfl rfl rfl (Opl.p1 (n := Opl.p1 (n := Opl.p1 (n := ?_)))))
   by_cases c4 : (r2.1.length : Int) = 0
   case neg =>
    rw [if_neg c4] at H
    have e6 : ((r2.1.length : Int) == 0) = false := by simpa using c4
    try rw [e6]
    refine Opl.skp rfl (Opl.skp rfl (Opl.skp rfl (Opl.skp rfl (Opl.skp rfl (Opl.p1 (n := Opl.p1 (n := Opl.nil ?_)))))))
    exact hk1 _ _ ⟨_, _, H, ⟨(by first | rfl | (show PV.lit (.bool _) = _; congr 2; simp_all)), trivial⟩⟩
   rw [if_pos c4] at H
   have e5 : ((r2.1.length : Int) == 0) = true := by simpa using c4
   try rw [e5]
   refine Opl.p1 (n := ?_)
   obtain ⟨r4, h_r4, H⟩ := Option.bind_eq_some_iff.1 H
   refine Opl.callc (impl_ClauseValid.ev h2 h_r4) rfl rfl rfl rfl ⟨h2.plain, (.lit _), trivial⟩ (by decide) (Opl.p1 (n := ?_))
   obtain ⟨r5, h_r5, H⟩ := Option.bind_eq_some_iff.1 H
   refine Opl.callc (spec_ClauseValid.ev h2 h_r5) rfl rfl rfl rfl ⟨h2.plain, (.lit _), trivial⟩ (by decide) (Opl.p1 (n := Opl.p1 (n := Opl.p1 (n := Opl.nil ?_))))
   exact hk1 _ _ ⟨_, _, H, ⟨(by first | rfl | (show PV.lit (.bool _) = _; congr 2; simp_all)), trivial⟩⟩
 rw [if_neg c2] at H
 have e8 : (r2.2 != r3.2) = false := by simpa using c2
 try rw [e8]
 refine Opl.p1 (n := Opl.p1 (n := ?_))
 obtain ⟨r6, h_r6, H⟩ := Option.bind_eq_some_iff.1 H
 refine Opl.callc (laws_wcInts.ev h5 h7 h_r6) rfl rfl rfl rfl ⟨h5.plain, h7.plain, trivial⟩ (by decide) (Opl.p1 (n := Opl.p1 (n := Opl.p1 (n := ?_))))
 by_cases c5 : r6 = true
 case neg =>
  rw [if_neg c5] at H
  have e20 : (!r6) = true := by simpa using c5
  try rw [e20]
  refine Opl.skp rfl (Opl.skp rfl (Opl.p1 (n := Opl.nil (Evr.condT rfl (Evr.seq ?_)))))
  refine Evr.join (fun tm S => ∃ (kq4 : Nat) (x2q8_1 : Bool), laws_FnResolved.j4 kq4 x2q8_1 = some r ∧ Has tm [(2, .lit (.bool x2q8_1))]) ?_ fun hk4 => ?_
  ·
   rintro tm S ⟨kq4, x2q8_1, H, hh⟩
   rw [hh.eq]
   obtain _ | k3 := kq4
   · simp [laws_FnResolved.j4] at H
   simp only [laws_FnResolved.j4] at H
   obtain rfl := Option.some.inj H
   refine Evr.ret1 Try.func5 rfl ?_
   show (.lit (.bool x2q8_1) : PV) = _
   first | rfl | (simp only [go_sem]; rfl)
  ·
   refine Evr.regionN rfl (Opl.p1 (n := Opl.p1 (n := Opl.p1 (n := Opl.p1 (n := ?_)))))
   by_cases c12 : r2.2 = r3.2
   case neg =>
    rw [if_neg c12] at H
    have e24 : (r2.2 == r3.2) = false := by simpa using c12
    try rw [e24]
    refine Opl.skp rfl (Opl.skp rfl (Opl.skp rfl (Opl.p1 (n := Opl.p1 (n := Opl.skp rfl (Opl.skp rfl (Opl.skp rfl (Opl.skp rfl (Opl.skp rfl (Opl.p1 (n := Opl.p1 (n := Opl.nil ?_))))))))))))
    exact hk4 _ _ ⟨_, _, H, ⟨(by first | rfl | (show PV.lit (.bool _) = _; congr 2; simp_all)), trivial⟩⟩
   rw [if_pos c12] at H
   have e21 : (r2.2 == r3.2) = true := by simpa using c12
   try rw [e21]
   refine Opl.p1 (n := Opl.len (xs := r2.1) (by exact h5) K41 rfl rfl rfl rfl (Opl.p1 (n := Opl.p1 (n := Opl.p1 (n := ?_)))))
   by_cases c13 : (r2.1.length : Int) = 0
   case neg =>
    rw [if_neg c13] at H
    have e23 : ((r2.1.length : Int) == 0) = false := by simpa using c13
    try rw [e23]
    refine Opl.skp rfl (Opl.skp rfl (Opl.skp rfl (Opl.skp rfl (Opl.skp rfl (Opl.p1 (n := Opl.p1 (n := Opl.nil ?_)))))))
    exact hk4 _ _ ⟨_, _, H, ⟨(by first | rfl | (show PV.lit (.bool _) = _; congr 2; simp_all)), trivial⟩⟩
   rw [if_pos c13] at H
   have e22 : ((r2.1.length : Int) == 0) = true := by simpa using c13
   try rw [e22]
   refine Opl.p1 (n := ?_)
   obtain ⟨r12, h_r12, H⟩ := Option.bind_eq_some_iff.1 H
   refine Opl.callc (impl_ClauseValid.ev h2 h_r12) rfl rfl rfl rfl ⟨h2.plain, (.lit _), trivial⟩ (by decide) (Opl.p1 (n := ?_))
   obtain ⟨r13, h_r13, H⟩ := Option.bind_eq_some_iff.1 H
   refine Opl.callc (spec_ClauseValid.ev h2 h_r13) rfl rfl rfl rfl ⟨h2.plain, (.lit _), trivial⟩ (by decide) (Opl.p1 (n := Opl.p1 (n := Opl.p1 (n := Opl.nil ?_))))
   exact hk4 _ _ ⟨_, _, H, ⟨(by first | rfl | (show PV.lit (.bool _) = _; congr 2; simp_all)), trivial⟩⟩
 rw [if_pos c5] at H
 have e9 : (!r6) = false := by simpa using c5
 try rw [e9]
 refine Opl.p1 (n := Opl.p1 (n := Opl.p1 (n := Opl.nil ?_)))
 by_cases c6 : r2.2 = true
 case neg =>
  rw [if_neg c6] at H
  have e15 : (!r2.2) = true := by simpa using c6
  try rw [e15]
  refine Evr.condT rfl (Evr.seq ?_)
  refine Evr.join (fun tm S => ∃ (kq3 : Nat) (x2q7_1 : Bool), laws_FnResolved.j3 kq3 x2q7_1 = some r ∧ Has tm [(2, .lit (.bool x2q7_1))]) ?_ fun hk3 => ?_
  ·
   rintro tm S ⟨kq3, x2q7_1, H, hh⟩
   rw [hh.eq]
   obtain _ | k2 := kq3
   · simp [laws_FnResolved.j3] at H
   simp only [laws_FnResolved.j3] at H
   obtain rfl := Option.some.inj H
   refine Evr.ret1 Try.func5 rfl ?_
   show (.lit (.bool x2q7_1) : PV) = _
   first | rfl | (simp only [go_sem]; rfl)
  ·
   refine Evr.regionN rfl (Opl.p1 (n := Opl.p1 (n := Opl.p1 (n := Opl.p1 (n := ?_)))))
   by_cases c10 : r2.2 = r3.2
   case neg =>
    rw [if_neg c10] at H
    have e19 : (r2.2 == r3.2) = false := by simpa using c10
    try rw [e19]
    refine Opl.skp rfl (Opl.skp rfl (Opl.skp rfl (Opl.p1 (n := Opl.p1 (n := Opl.skp rfl (Opl.skp rfl (Opl.skp rfl (Opl.skp rfl (Opl.skp rfl (Opl.p1 (n := Opl.p1 (n := Opl.nil ?_))))))))))))
    exact hk3 _ _ ⟨_, _, H, ⟨(by first | rfl | (show PV.lit (.bool _) = _; congr 2; simp_all)), trivial⟩⟩
   rw [if_pos c10] at H
   have e16 : (r2.2 == r3.2) = true := by simpa using c10
   try rw [e16]
   refine Opl.p1 (n := Opl.len (xs := r2.1) (by exact h5) K41 rfl rfl rfl rfl (Opl.p1 (n := Opl.p1 (n := Opl.p1 (n := ?_)))))
   by_cases c11 : (r2.1.length : Int) = 0
   case neg =>
    rw [if_neg c11] at H
    have e18 : ((r2.1.length : Int) == 0) = false := by simpa using c11
    try rw [e18]
    refine Opl.skp rfl (Opl.skp rfl (Opl.skp rfl (Opl.skp rfl (Opl.skp rfl (Opl.p1 (n := Opl.p1 (n := Opl.nil ?_)))))))
    exact hk3 _ _ ⟨_, _, H, ⟨(by first | rfl | (show PV.lit (.bool _) = _; congr 2; simp_all)), trivial⟩⟩
   rw [if_pos c11] at H
   have e17 : ((r2.1.length : Int) == 0) = true := by simpa using c11
   try rw [e17]
   refine Opl.p1 (n := ?_)
   obtain ⟨r10, h_r10, H⟩ := Option.bind_eq_some_iff.1 H
   refine Opl.callc (impl_ClauseValid.ev h2 h_r10) rfl rfl rfl rfl ⟨h2.plain, (.lit _), trivial⟩ (by decide) (Opl.p1 (n := ?_))
   obtain ⟨r11, h_r11, H⟩ := Option.bind_eq_some_iff.1 H
   refine Opl.callc (spec_ClauseValid.ev h2 h_r11) rfl rfl rfl rfl ⟨h2.plain, (.lit _), trivial⟩ (by decide) (Opl.p1 (n := Opl.p1 (n := Opl.p1 (n := Opl.nil ?_))))
   exact hk3 _ _ ⟨_, _, H, ⟨(by first | rfl | (show PV.lit (.bool _) = _; congr 2; simp_all)), trivial⟩⟩
 rw [if_pos c6] at H
 have e10 : (!r2.2) = false := by simpa using c6
 try rw [e10]
 refine Evr.condF rfl (Evr.skip (Evr.sr rfl (Opl.p1 (n := Opl.p1 (n := Opl.liti (M := (cSl (cInt .i64))) (ys := [r1.1, r1.2.1]) [.tmp 65, .tmp 66] K22 T41 rfl rfl rfl (by exact ⟨⟨_, by first | rfl | exact h2.cells, h2⟩, ⟨_, by first | rfl | exact h3.cells, h3⟩, trivial⟩) rfl (by decide) rfl rfl ?_)))))
 rintro pv9 h8
 refine Opl.one (v := .agg [.lit (.int .i64 6), pv9]) rfl rfl (by simp only [go_sem]; simp only [fillL, Sl.cells h8]; rfl) (Opl.alloc T31 rfl rfl rfl ?_)
 rintro i1 S h9 u1 w1
 refine Opl.stb (vs := [.lit (.int .i64 6), pv9]) h9 rfl rfl Z31 rfl (Nat.le_of_ble_eq_true rfl) (by simp only [List.all_cons, List.all_nil, h8.one, Bool.and_true, Bool.true_and] <;> rfl) rfl rfl rfl ?_
 rintro S (h10 : Box (.ptr i1 0) [.lit (.int .i64 6), pv9] _) u2
 refine Opl.nil (Evr.sr rfl (Opl.p1 (n := Opl.liti (M := (cSl (cInt .i64))) (ys := [r2.1]) [.tmp 69] K22 T41 rfl rfl rfl (by exact ⟨⟨_, by first | rfl | exact h5.cells, h5⟩, trivial⟩) rfl (by decide) rfl rfl ?_)))
 rintro pv11 h11
 refine Opl.one (v := .agg [.lit (.int .i64 6), pv11]) rfl rfl (by simp only [go_sem]; simp only [fillL, Sl.cells h11]; rfl) (Opl.alloc T31 rfl rfl rfl ?_)
 rintro i2 S h12 u3 w3
 have ap1 := w3.box h10
 have h13 := u3.box h10 ap1
 refine Opl.stb (vs := [.lit (.int .i64 6), pv11]) h12 rfl rfl Z31 rfl (Nat.le_of_ble_eq_true rfl) (by simp only [List.all_cons, List.all_nil, h11.one, Bool.and_true, Bool.true_and] <;> rfl) rfl rfl rfl ?_
 rintro S (h14 : Box (.ptr i2 0) [.lit (.int .i64 6), pv11] _) u4
 have h15 := u4.box h13 ap1
 refine Opl.nil (Evr.seq (Evr.sr rfl (Opl.p1 (n := Opl.nil (Evr.block ?_)))))
 refine Evr.loop (Evr.rounds (n := k) (Inv := fun n tm S => n ≤ k ∧ ∃ (x72_1 : Int) (i3 : Abs.Id) (i4 : Abs.Id), laws_FnResolved.l2 n x72_1 r1 r2 = some r ∧ Has tm [(6, pv5), (10, .ptr i3 0), (11, .ptr i4 0), (72, .lit (.int .i64 x72_1))] ∧ Box (.ptr i3 0) [.lit (.int .i64 6), pv9] S ∧ Box (.ptr i4 0) [.lit (.int .i64 6), pv11] S ∧ Ap (.ptr i3 0) (.ptr i4 0)) ?_ ?_ ?_)
 · exact ⟨Nat.le_refl _, _, _, _, H, ⟨rfl, rfl, rfl, rfl, trivial⟩, h15, h14, ap1⟩
 ·
  rintro tm S ⟨_, _, _, _, H, -⟩
  simp [laws_FnResolved.l2] at H
 ·
  rintro n1 ih1 tm S ⟨hle, x72_1, i3, i4, H, hh, h16, h17, ap2⟩
  simp only [laws_FnResolved.l2] at H
  rw [hh.eq]
  refine Evr.sr rfl (Opl.p1 (n := Opl.nil (Evr.seq ?_)))
  by_cases c7 : x72_1 < 64
  case neg =>
   rw [if_neg c7] at H
   have e14 : (decide (x72_1 < 64)) = false := by simpa using c7
   try rw [e14]
   refine Evr.condF rfl (Evr.exit rfl (Evr.sr rfl (Opl.p1 (n := ?_))))
   obtain ⟨r9, h_r9, H⟩ := Option.bind_eq_some_iff.1 H
   refine Opl.callc (impl_ClauseValid.ev h5 h_r9) rfl rfl rfl rfl ⟨h5.plain, (.lit _), trivial⟩ (by decide) (Opl.p1 (n := Opl.nil ?_))
   obtain rfl := Option.some.inj H
   refine Evr.ret1 Try.func5 rfl ?_
   show (.lit (.bool r9) : PV) = _
   first | rfl | (simp only [go_sem]; rfl)
  rw [if_pos c7] at H
  have e11 : (decide (x72_1 < 64)) = true := by simpa using c7
  try rw [e11]
  refine Evr.condT rfl (Evr.skip (Evr.seq (Evr.block (Evr.sr rfl (Opl.p1 (n := Opl.p1 (n := Opl.nil (Evr.sr rfl (Opl.p1 (n := Opl.one (v := .lit (.int .i64 (Int.tmod x72_1 2))) rfl rfl (by simp only [go_sem]; rw [if_neg (by first | assumption | decide | omega)]; rfl) (Opl.p1 (n := Opl.one (v := .lit (.int .i64 (wrap64 (Int.tdiv x72_1 2)))) rfl rfl (by simp only [go_sem]; rw [if_neg (by first | assumption | decide | omega)]; rfl) (Opl.one (v := .lit (.int .i64 (Int.tmod (wrap64 (Int.tdiv x72_1 2)) 2))) rfl rfl (by simp only [go_sem]; rw [if_neg (by first | assumption | decide | omega)]; rfl) (Opl.p1 (n := Opl.one (v := .lit (.int .i64 (wrap64 (Int.tdiv x72_1 4)))) rfl rfl (by simp only [go_sem]; rw [if_neg (by first | assumption | decide | omega)]; rfl) (Opl.one (v := .lit (.int .i64 (Int.tmod (wrap64 (Int.tdiv x72_1 4)) 2))) rfl rfl (by simp only [go_sem]; rw [if_neg (by first | assumption | decide | omega)]; rfl) (Opl.p1 (n := Opl.one (v := .lit (.int .i64 (wrap64 (Int.tdiv x72_1 8)))) rfl rfl (by simp only [go_sem]; rw [if_neg (by first | assumption | decide | omega)]; rfl) (Opl.one (v := .lit (.int .i64 (Int.tmod (wrap64 (Int.tdiv x72_1 8)) 2))) rfl rfl (by simp only [go_sem]; rw [if_neg (by first | assumption | decide | omega)]; rfl) (Opl.p1 (n := Opl.one (v := .lit (.int .i64 (wrap64 (Int.tdiv x72_1 16)))) rfl rfl (by simp only [go_sem]; rw [if_neg (by first | assumption | decide | omega)]; rfl) (Opl.one (v := .lit (.int .i64 (Int.tmod (wrap64 (Int.tdiv x72_1 16)) 2))) rfl rfl (by simp only [go_sem]; rw [if_neg (by first | assumption | decide | omega)]; rfl) (Opl.p1 (n := Opl.one (v := .lit (.int .i64 (wrap64 (Int.tdiv x72_1 32)))) rfl rfl (by simp only [go_sem]; rw [if_neg (by first | assumption | decide | omega)]; rfl) (Opl.liti (M := (cInt .i64)) (ys := [(Int.tmod x72_1 2), (Int.tmod (wrap64 (Int.tdiv x72_1 2)) 2), (Int.tmod (wrap64 (Int.tdiv x72_1 4)) 2), (Int.tmod (wrap64 (Int.tdiv x72_1 8)) 2), (Int.tmod (wrap64 (Int.tdiv x72_1 16)) 2), (wrap64 (Int.tdiv x72_1 32))]) [.tmp 76, .tmp 79, .tmp 82, .tmp 85, .tmp 88, .tmp 90] K41 T3 rfl rfl rfl (by exact ⟨rfl, rfl, rfl, rfl, rfl, rfl, trivial⟩) rfl (by decide) rfl rfl ?_)))))))))))))))))))))))))
  rintro pv13 h18
  refine Opl.p1 (n := Opl.nil (Evr.seq ?_))
  refine Evr.join2 (fun tm S => ∃ (kq2 : Nat) (i5 : Abs.Id) (i6 : Abs.Id), laws_FnResolved.l2 kq2 (wrap64 (x72_1 + 1)) r1 r2 = some r ∧ kq2 ≤ n1 ∧ Has tm [(6, pv5), (10, .ptr i5 0), (11, .ptr i6 0), (72, .lit (.int .i64 x72_1))] ∧ Box (.ptr i5 0) [.lit (.int .i64 6), pv9] S ∧ Box (.ptr i6 0) [.lit (.int .i64 6), pv11] S ∧ Ap (.ptr i5 0) (.ptr i6 0)) ?_ fun hk2 => ?_
  ·
   rintro tm S ⟨kq2, i5, i6, H, hle, hh, h19, h20, ap3⟩
   rw [hh.eq]
   refine Evr.inBlock (Evr.regionN rfl (Opl.p1 (n := Opl.p1 (n := Opl.nil ?_))))
   exact ih1 _ (by omega) _ _ ⟨by omega, _, _, _, H, ⟨rfl, rfl, rfl, rfl, trivial⟩, h19, h20, ap3⟩
  ·
   refine Evr.regionN rfl (Opl.ldb (v := .agg [.lit (.int .i64 6), pv9]) h16 rfl T31 rfl rfl rfl rfl (Opl.p1 (n := ?_)))
   obtain ⟨r7, h_r7, H⟩ := Option.bind_eq_some_iff.1 H
   refine Opl.callc (impl_TrueIn.ev h8 h18 h_r7) rfl rfl rfl rfl ⟨(.aggL ⟨(.lit _), h8.plain, trivial⟩), h18.plain, trivial⟩ (by decide) (Opl.p1 (n := ?_))
   by_cases c8 : r7 = true
   case neg =>
    rw [if_neg c8] at H
    obtain rfl : r7 = false := by simpa using c8
    refine Opl.skp rfl (Opl.skp rfl (Opl.skp rfl (Opl.skp rfl (Opl.p1 (n := Opl.nil (Evr.condF rfl (Evr.skip ?_)))))))
    exact hk2 _ _ ⟨_, _, _, H, by omega, ⟨rfl, rfl, rfl, rfl, trivial⟩, h16, h17, ap2⟩
   rw [if_pos c8] at H
   obtain rfl : r7 = true := by simpa using c8
   refine Opl.ldb (v := .agg [.lit (.int .i64 6), pv11]) h17 rfl T31 rfl rfl rfl rfl (Opl.p1 (n := ?_))
   obtain ⟨r8, h_r8, H⟩ := Option.bind_eq_some_iff.1 H
   refine Opl.callc (impl_TrueIn.ev h11 h18 h_r8) rfl rfl rfl rfl ⟨(.aggL ⟨(.lit _), h11.plain, trivial⟩), h18.plain, trivial⟩ (by decide) (Opl.p1 (n := Opl.p1 (n := Opl.nil ?_)))
   by_cases c9 : r8 = true
   case pos =>
    rw [if_pos c9] at H
    have e12 : (!r8) = false := by simpa using c9
    try rw [e12]
    refine Evr.condF rfl (Evr.skip ?_)
    exact hk2 _ _ ⟨_, _, _, H, by omega, ⟨rfl, rfl, rfl, rfl, trivial⟩, h16, h17, ap2⟩
   rw [if_neg c9] at H
   have e13 : (!r8) = true := by simpa using c9
   try rw [e13]
   refine Evr.condT rfl (Evr.sr rfl (Opl.p1 (n := Opl.nil ?_)))
   obtain rfl := Option.some.inj H
   refine Evr.ret1 Try.func5 rfl ?_
   show (.lit (.bool false) : PV) = _
   first | rfl | (simp only [go_sem]; rfl)
end Go.Proofs.Ytaajnneigmgikaa.PA
