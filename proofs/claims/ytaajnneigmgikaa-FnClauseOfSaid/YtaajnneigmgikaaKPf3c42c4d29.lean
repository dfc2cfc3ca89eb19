/- Walks of Go functions: each is shown to answer as the Lean function beside it tells, under the conditions that its theorem names. -/
import Derived.Test.YtaajnneigmgikaaProg
import Derived.KernelRfl
import Derived.Below
import Derived.Deep.Draws
import Derived.Deep.AppendLies
import Derived.Maps.AppendAt
import Derived.OwnWalk
import Derived.Laws.BytesArg
import Derived.Laws.MakeOwn
import Derived.Laws.OwnMore
import Derived.Deep.OwnRows
import Derived.Tactics
import Derived.Lib.ConvBytes
import Derived.Laws.Slices
import Derived.WalkKit
import Derived.RowKit3
import Derived.Deep.LoopGhost
import Derived.Deep.QuietTactic
import Derived.BigQuiet
import Derived.WideLaws
import Derived.Deep.DeepCutAuto
import Derived.Deep.CutBlock
import Derived.Deep.RegionHeld3
import Derived.Laws.Rows
import Derived.Lib.AppendStr
import Derived.ArgAppend
import Derived.Laws.IdiomCopy
import Derived.OrdersHeld
import Derived.Laws.BitsLemmas
import Derived.RowKit
import Derived.Laws.StructEq
import Derived.Lib.SliceRun
import Derived.WalkSpells
import Derived.ChangeArms
import Derived.ChangeSlices
import Derived.Deep.Slices
import Derived.Attr
import Derived.Laws.Append
import Derived.Laws.AppendOwn
import Derived.Laws.Entries
import Derived.Calls
import Derived.Laws.Sem
import Derived.Test.YtaajnneigmgikaaKPb66cf089dd
import Derived.Test.YtaajnneigmgikaaKP7b8201d3b7
namespace Go.Proofs.Ytaajnneigmgikaa.PA
open Go Go.Abs Go.RowKit Go.Proofs Go.Proofs.YtaajnneigmgikaaW.PrintWords Go.Proofs.YtaajnneigmgikaaW.PrintLast Go.Proofs.YtaajnneigmgikaaW.PrintMore
set_option maxRecDepth 100000
set_option maxHeartbeats 4000000
set_option linter.unusedVariables false
set_option linter.unusedSimpArgs false
theorem laws_FnClauseOf.ev {k : Nat} {l0 : List Int} {v0 : PV} (hv0 : Sl (cInt .u8) l0 v0) {r : Bool} (H : laws_FnClauseOf.f k l0 = some r) : Ret Try.prog 4 [v0] fun v S => v = .lit (.bool r) := by
 unfold laws_FnClauseOf.f at H
 refine Ret.intro Try.func4 rfl (Nat.le_of_ble_eq_true rfl) rfl ?_
 rw [tm1]
 refine Evr.sr rfl (Opl.p1 (n := Opl.nil (Evr.seq (Evr.sr rfl (Opl.p1 (n := Opl.len (xs := l0) (by exact hv0) K40 rfl rfl rfl rfl (Opl.p1 (n := Opl.nil ?_))))))))
 by_cases c1 : (l0.length : Int) > 1048576
 case pos =>
  rw [if_pos c1] at H
  have e1 : (decide ((l0.length : Int) > 1048576)) = true := by simpa using c1
  try rw [e1]
  refine Evr.condT rfl (Evr.sr rfl (Opl.p1 (n := Opl.nil ?_)))
  obtain rfl := Option.some.inj H
  refine Evr.ret1 Try.func4 rfl ?_
  show (.lit (.bool true) : PV) = _
  first | rfl | (simp only [go_sem]; rfl)
 rw [if_neg c1] at H
 have e2 : (decide ((l0.length : Int) > 1048576)) = false := by simpa using c1
 try rw [e2]
 refine Evr.condF rfl (Evr.skip (Evr.sr rfl (Opl.p1 (n := ?_))))
 obtain ⟨r1, h_r1, H⟩ := Option.bind_eq_some_iff.1 H
 refine Opl.call (spec_DrawClauseOf.ev hv0 h_r1) rfl rfl rfl rfl ⟨hv0.plain, trivial⟩ (by decide) ?_
 rintro _ ⟨pv2, _, rfl, h2, rfl⟩
 refine Opl.p1 (n := Opl.p1 (v := pv2) (n := Opl.p1 (v := .lit (.int .i64 r1.2)) (n := Opl.p1 (n := Opl.p1 (n := Opl.nil (Evr.sr rfl (Opl.p1 (n := Opl.p1 (n := ?_)))))))))
 obtain ⟨r2, h_r2, H⟩ := Option.bind_eq_some_iff.1 H
 refine Opl.call (impl_ClauseOf.ev h2 h_r2) rfl rfl rfl rfl ⟨h2.plain, (.lit _), trivial⟩ (by decide) ?_
 rintro _ ⟨pv4, _, rfl, h4, rfl⟩
 refine Opl.p1 (n := Opl.p1 (v := pv4) (n := Opl.p1 (v := .lit (.bool r2.2)) (n := Opl.p1 (n := Opl.p1 (n := Opl.nil (Evr.sr rfl (Opl.p1 (n := Opl.p1 (n := ?_)))))))))
 obtain ⟨r3, h_r3, H⟩ := Option.bind_eq_some_iff.1 H
 refine Opl.call (spec_ClauseOf.ev h2 h_r3) rfl rfl rfl rfl ⟨h2.plain, (.lit _), trivial⟩ (by decide) ?_
 rintro _ ⟨pv6, _, rfl, h6, rfl⟩
 refine Opl.p1 (n := Opl.p1 (v := pv6) (n := Opl.p1 (v := .lit (.bool r3.2)) (n := Opl.p1 (n := Opl.p1 (n := Opl.nil (Evr.seq (Evr.sr rfl (Opl.p1 (n := Opl.p1 (n := Opl.p1 (n := Opl.p1 (n := ?_))))))))))))
 by_cases c2 : r2.2 ≠ r3.2
 case pos =>
  rw [if_pos c2] at H
  have e3 : (r2.2 != r3.2) = true := by simpa using c2
  try rw [e3]
  refine Opl.skp rfl (Opl.skp rfl (Opl.skp rfl (Opl.skp rfl (Opl.p1 (n := Opl.nil (Evr.condT rfl (Evr.sr rfl (Opl.p1 (n := Opl.nil ?_)))))))))
  obtain rfl := Option.some.inj H
  refine Evr.ret1 Try.func4 rfl ?_
  show (.lit (.bool false) : PV) = _
  first | rfl | (simp only [go_sem]; rfl)
 rw [if_neg c2] at H
 have e4 : (r2.2 != r3.2) = false := by simpa using c2
 try rw [e4]
 refine Opl.p1 (n := Opl.p1 (n := ?_))
 obtain ⟨r4, h_r4, H⟩ := Option.bind_eq_some_iff.1 H
 refine Opl.callc (laws_wcInts.ev h4 h6 h_r4) rfl rfl rfl rfl ⟨h4.plain, h6.plain, trivial⟩ (by decide) (Opl.p1 (n := Opl.p1 (n := Opl.nil ?_)))
 by_cases c3 : r4 = true
 case neg =>
  rw [if_neg c3] at H
  have e24 : (!r4) = true := by simpa using c3
  try rw [e24]
  refine Evr.condT rfl (Evr.sr rfl (Opl.p1 (n := Opl.nil ?_)))
  obtain rfl := Option.some.inj H
  refine Evr.ret1 Try.func4 rfl ?_
  show (.lit (.bool false) : PV) = _
  first | rfl | (simp only [go_sem]; rfl)
 rw [if_pos c3] at H
 have e5 : (!r4) = false := by simpa using c3
 try rw [e5]
 refine Evr.condF rfl (Evr.skip (Evr.seq (Evr.sr rfl (Opl.p1 (n := Opl.len (xs := r1.1) (by exact h2) K41 rfl rfl rfl rfl (Opl.p1 (n := Opl.nil (Evr.block ?_))))))))
 refine Evr.loop (Evr.rounds (n := k) (Inv := fun n tm S => n ≤ k ∧ ∃ (x6_1 : Bool) (x44_1 : Int), laws_FnClauseOf.l1 n x6_1 x44_1 r1 r2 = some r ∧ Has tm [(3, pv2), (4, .lit (.int .i64 r1.2)), (5, pv4), (6, .lit (.bool x6_1)), (42, pv2), (43, .lit (.int .i64 (r1.1.length : Int))), (44, .lit (.int .i64 x44_1))]) ?_ ?_ ?_)
 · exact ⟨Nat.le_refl _, _, _, H, ⟨rfl, rfl, rfl, (by first | rfl | (show PV.lit (.bool _) = _; congr 2; simp_all)), rfl, rfl, rfl, trivial⟩⟩
 ·
  rintro tm S ⟨_, _, _, H, -⟩
  simp [laws_FnClauseOf.l1] at H
 ·
  rintro n1 ih1 tm S ⟨hle, x6_1, x44_1, H, hh⟩
  simp only [laws_FnClauseOf.l1] at H
  rw [hh.eq]
  refine Evr.sr rfl (Opl.p1 (n := Opl.nil (Evr.seq ?_)))
  by_cases c4 : x44_1 < (r1.1.length : Int)
  case pos =>
   rw [if_pos c4] at H
   have e6 : (decide (x44_1 < (r1.1.length : Int))) = true := by simpa using c4
   try rw [e6]
   refine Evr.condT rfl (Evr.skip (Evr.seq (Evr.block (Evr.sr rfl ?_))))
   obtain ⟨c5, H⟩ := peel H
   obtain ⟨c6, H⟩ := peel H
   refine Opl.idx (M := (cInt .i64)) (xs := r1.1) (j := x44_1) (0 : Int) (by exact h2) rfl (by omega) (by omega) K41 Z3 rfl rfl ?_
   rintro p1 q1 h7
   obtain rfl : p1 = [.lit (.int .i64 (rd r1.1 x44_1))] := h7
   refine Opl.lda (.lit (.int .i64 (rd r1.1 x44_1))) rfl T3 rfl rfl rfl rfl (Opl.p1 (n := Opl.nil (Evr.seq ?_)))
   refine Evr.join2 (fun tm S => ∃ (kq1 : Nat) (x6_2 : Bool), laws_FnClauseOf.l1 kq1 x6_2 (wrap64 (x44_1 + 1)) r1 r2 = some r ∧ kq1 ≤ n1 ∧ Has tm [(3, pv2), (4, .lit (.int .i64 r1.2)), (5, pv4), (6, .lit (.bool x6_2)), (42, pv2), (43, .lit (.int .i64 (r1.1.length : Int))), (44, .lit (.int .i64 x44_1))]) ?_ fun hk1 => ?_
   ·
    rintro tm S ⟨kq1, x6_2, H, hle, hh⟩
    rw [hh.eq]
    refine Evr.inBlock (Evr.regionN rfl (Opl.p1 (n := Opl.p1 (n := Opl.nil ?_))))
    exact ih1 _ (by omega) _ _ ⟨by omega, _, _, H, ⟨rfl, rfl, rfl, (by first | rfl | (show PV.lit (.bool _) = _; congr 2; simp_all)), rfl, rfl, rfl, trivial⟩⟩
   ·
    refine Evr.regionN rfl (Opl.p1 (n := Opl.p1 (n := ?_)))
    by_cases c7 : x6_1 = true
    case neg =>
     rw [if_neg c7] at H
     have e10 : x6_1 = false := by simpa using c7
     try rw [e10] at H
     try rw [e10]
     refine Opl.skp rfl (Opl.skp rfl (Opl.skp rfl (Opl.skp rfl (Opl.p1 (n := Opl.nil (Evr.condF rfl (Evr.skip ?_)))))))
     exact hk1 _ _ ⟨_, _, H, by omega, ⟨rfl, rfl, rfl, (by first | rfl | (show PV.lit (.bool _) = _; congr 2; simp_all)), rfl, rfl, rfl, trivial⟩⟩
    rw [if_pos c7] at H
    have e7 : x6_1 = true := by simpa using c7
    try rw [e7] at H
    try rw [e7]
    refine Opl.p1 (n := Opl.p1 (n := ?_))
    obtain ⟨r5, h_r5, H⟩ := Option.bind_eq_some_iff.1 H
    refine Opl.callc (laws_wcHas.ev h4 h_r5) rfl rfl rfl rfl ⟨h4.plain, (.lit _), trivial⟩ (by decide) (Opl.p1 (n := Opl.p1 (n := Opl.nil ?_)))
    by_cases c8 : r5 = true
    case pos =>
     rw [if_pos c8] at H
     have e8 : (!r5) = false := by simpa using c8
     try rw [e8]
     refine Evr.condF rfl (Evr.skip ?_)
     exact hk1 _ _ ⟨_, _, H, by omega, ⟨rfl, rfl, rfl, (by first | rfl | (show PV.lit (.bool _) = _; congr 2; simp_all)), rfl, rfl, rfl, trivial⟩⟩
    rw [if_neg c8] at H
    have e9 : (!r5) = true := by simpa using c8
    try rw [e9]
    refine Evr.condT rfl (Evr.sr rfl (Opl.p1 (n := Opl.nil ?_)))
    obtain rfl := Option.some.inj H
    refine Evr.ret1 Try.func4 rfl ?_
    show (.lit (.bool false) : PV) = _
    first | rfl | (simp only [go_sem]; rfl)
  rw [if_neg c4] at H
  have e11 : (decide (x44_1 < (r1.1.length : Int))) = false := by simpa using c4
  try rw [e11]
  refine Evr.condF rfl (Evr.exit rfl (Evr.seq (Evr.sr rfl (Opl.p1 (n := Opl.len (xs := r2.1) (by exact h4) K41 rfl rfl rfl rfl (Opl.p1 (n := Opl.nil (Evr.block ?_))))))))
  refine Evr.loop (Evr.rounds (n := n1) (Inv := fun n tm S => n ≤ n1 ∧ ∃ (x58q4_1 : Int), laws_FnClauseOf.l2 n x58q4_1 r1 r2 x6_1 = some r ∧ Has tm [(3, pv2), (4, .lit (.int .i64 r1.2)), (5, pv4), (6, .lit (.bool x6_1)), (56, pv4), (57, .lit (.int .i64 (r2.1.length : Int))), (58, .lit (.int .i64 x58q4_1))]) ?_ ?_ ?_)
  · exact ⟨Nat.le_refl _, _, H, ⟨rfl, rfl, rfl, (by first | rfl | (show PV.lit (.bool _) = _; congr 2; simp_all)), rfl, rfl, rfl, trivial⟩⟩
  ·
   rintro tm S ⟨_, _, H, -⟩
   simp [laws_FnClauseOf.l2] at H
  ·
   rintro n2 ih2 tm S ⟨hle, x58q4_1, H, hh⟩
   simp only [laws_FnClauseOf.l2] at H
   rw [hh.eq]
   refine Evr.sr rfl (Opl.p1 (n := Opl.nil (Evr.seq ?_)))
   by_cases c9 : x58q4_1 < (r2.1.length : Int)
   case pos =>
    rw [if_pos c9] at H
    have e12 : (decide (x58q4_1 < (r2.1.length : Int))) = true := by simpa using c9
    try rw [e12]
    refine Evr.condT rfl (Evr.skip (Evr.seq (Evr.block (Evr.sr rfl ?_))))
    obtain ⟨c10, H⟩ := peel H
    obtain ⟨c11, H⟩ := peel H
    refine Opl.idx (M := (cInt .i64)) (xs := r2.1) (j := x58q4_1) (0 : Int) (by exact h4) rfl (by omega) (by omega) K41 Z3 rfl rfl ?_
    rintro p2 q2 h8
    obtain rfl : p2 = [.lit (.int .i64 (rd r2.1 x58q4_1))] := h8
    refine Opl.lda (.lit (.int .i64 (rd r2.1 x58q4_1))) rfl T3 rfl rfl rfl rfl (Opl.p1 (n := Opl.nil (Evr.sr rfl (Opl.p1 (n := Opl.p1 (n := ?_))))))
    obtain ⟨r6, h_r6, H⟩ := Option.bind_eq_some_iff.1 H
    refine Opl.callc (laws_wcHas.ev h2 h_r6) rfl rfl rfl rfl ⟨h2.plain, (.lit _), trivial⟩ (by decide) (Opl.p1 (n := Opl.nil ?_))
    by_cases c12 : r6 = true
    case neg =>
     rw [if_neg c12] at H
     have e14 : (!r6) = true := by simpa using c12
     try rw [e14]
     refine Evr.condT rfl (Evr.sr rfl (Opl.p1 (n := Opl.nil ?_)))
     obtain rfl := Option.some.inj H
     refine Evr.ret1 Try.func4 rfl ?_
     show (.lit (.bool false) : PV) = _
     first | rfl | (simp only [go_sem]; rfl)
    rw [if_pos c12] at H
    have e13 : (!r6) = false := by simpa using c12
    try rw [e13]
    refine Evr.condF rfl (Evr.skip (Evr.inBlock (Evr.regionN rfl (Opl.p1 (n := Opl.p1 (n := Opl.nil ?_))))))
    exact ih2 _ (by omega) _ _ ⟨by omega, _, H, ⟨rfl, rfl, rfl, (by first | rfl | (show PV.lit (.bool _) = _; congr 2; simp_all)), rfl, rfl, rfl, trivial⟩⟩
   rw [if_neg c9] at H
   have e15 : (decide (x58q4_1 < (r2.1.length : Int))) = false := by simpa using c9
   try rw [e15]
   refine Evr.condF rfl (Evr.exit rfl (Evr.sr rfl (Opl.p1 (n := Opl.p1 (n := Opl.p1 (n := ?_))))))
   by_cases c13 : x6_1 = true
   case pos =>
    rw [if_pos c13] at H
    have e16 : (!x6_1) = false := by simpa using c13
    try rw [e16]
    refine Opl.skp rfl (Opl.skp rfl (Opl.skp rfl (Opl.p1 (n := Opl.p1 (n := Opl.p1 (n := Opl.p1 (n := ?_)))))))
    by_cases c14 : x6_1 = true
    case neg =>
     rw [if_neg c14] at H
     have e18 : x6_1 = false := by simpa using c14
     try rw [e18] at H
     try rw [e18]
     refine Opl.skp rfl (Opl.skp rfl (Opl.skp rfl (Opl.p1 (n := Opl.p1 (n := Opl.p1 (n := Opl.nil ?_))))))
     obtain rfl := Option.some.inj H
     refine Evr.ret1 Try.func4 rfl ?_
     show (.lit (.bool false) : PV) = _
     first | rfl | (simp only [go_sem]; rfl)
    rw [if_pos c14] at H
    have e17 : x6_1 = true := by simpa using c14
    try rw [e17] at H
    try rw [e17]
    refine Opl.p1 (n := Opl.p1 (n := ?_))
    obtain ⟨r7, h_r7, H⟩ := Option.bind_eq_some_iff.1 H
    refine Opl.callc (impl_ClauseValid.ev h4 h_r7) rfl rfl rfl rfl ⟨h4.plain, (.lit _), trivial⟩ (by decide) (Opl.p1 (n := Opl.p1 (n := Opl.p1 (n := Opl.nil ?_))))
    obtain rfl := Option.some.inj H
    refine Evr.ret1 Try.func4 rfl ?_
    show (.lit (.bool r7) : PV) = _
    first | rfl | (simp only [go_sem]; rfl)
   rw [if_neg c13] at H
   have e19 : (!x6_1) = true := by simpa using c13
   try rw [e19]
   refine Opl.p1 (n := Opl.len (xs := r2.1) (by exact h4) K41 rfl rfl rfl rfl (Opl.p1 (n := Opl.p1 (n := Opl.p1 (n := ?_)))))
   by_cases c15 : (r2.1.length : Int) = 0
   case pos =>
    rw [if_pos c15] at H
    have e20 : ((r2.1.length : Int) == 0) = true := by simpa using c15
    try rw [e20]
    refine Opl.skp rfl (Opl.skp rfl (Opl.skp rfl (Opl.skp rfl (Opl.skp rfl (Opl.skp rfl (Opl.p1 (n := Opl.p1 (n := Opl.nil ?_))))))))
    obtain rfl := Option.some.inj H
    refine Evr.ret1 Try.func4 rfl ?_
    show (.lit (.bool true) : PV) = _
    first | rfl | (simp only [go_sem]; rfl)
   rw [if_neg c15] at H
   have e21 : ((r2.1.length : Int) == 0) = false := by simpa using c15
   try rw [e21]
   refine Opl.p1 (n := Opl.p1 (n := ?_))
   by_cases c16 : x6_1 = true
   case neg =>
    rw [if_neg c16] at H
    have e23 : x6_1 = false := by simpa using c16
    try rw [e23] at H
    try rw [e23]
    refine Opl.skp rfl (Opl.skp rfl (Opl.skp rfl (Opl.p1 (n := Opl.p1 (n := Opl.p1 (n := Opl.nil ?_))))))
    obtain rfl := Option.some.inj H
    refine Evr.ret1 Try.func4 rfl ?_
    show (.lit (.bool false) : PV) = _
    first | rfl | (simp only [go_sem]; rfl)
   rw [if_pos c16] at H
   have e22 : x6_1 = true := by simpa using c16
   try rw [e22] at H
   try rw [e22]
   refine Opl.p1 (n := Opl.p1 (n := ?_))
   obtain ⟨r8, h_r8, H⟩ := Option.bind_eq_some_iff.1 H
   refine Opl.callc (impl_ClauseValid.ev h4 h_r8) rfl rfl rfl rfl ⟨h4.plain, (.lit _), trivial⟩ (by decide) (Opl.p1 (n := Opl.p1 (n := Opl.p1 (n := Opl.nil ?_))))
   obtain rfl := Option.some.inj H
   refine Evr.ret1 Try.func4 rfl ?_
   show (.lit (.bool r8) : PV) = _
   first | rfl | (simp only [go_sem]; rfl)
end Go.Proofs.Ytaajnneigmgikaa.PA
