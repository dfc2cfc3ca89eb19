/- Walks of Go functions: each is shown to answer as the Lean function beside it tells, under the conditions that its theorem names. -/
import Derived.Test.YtikjlbanfbkhmaaProg
import Derived.KernelRfl
import Derived.Below
import Derived.Deep.Draws
import Derived.Deep.AppendLies
import Derived.Maps.AppendAt
import Derived.OwnWalk
import Derived.Laws.BytesArg
import Derived.Laws.MakeOwn
import Derived.Laws.OwnMore
import Derived.Deep.OwnRows
import Derived.Tactics
import Derived.Lib.ConvBytes
import Derived.Laws.Slices
import Derived.WalkKit
import Derived.RowKit3
import Derived.Deep.LoopGhost
import Derived.Deep.QuietTactic
import Derived.BigQuiet
import Derived.WideLaws
import Derived.Deep.DeepCutAuto
import Derived.Deep.CutBlock
import Derived.Deep.RegionHeld3
import Derived.Laws.Rows
import Derived.Lib.AppendStr
import Derived.ArgAppend
import Derived.Laws.IdiomCopy
import Derived.OrdersHeld
import Derived.Laws.BitsLemmas
import Derived.RowKit
import Derived.Laws.StructEq
import Derived.Lib.SliceRun
import Derived.WalkSpells
import Derived.ChangeArms
import Derived.ChangeSlices
import Derived.Deep.Slices
import Derived.Attr
import Derived.Laws.Append
import Derived.Laws.AppendOwn
import Derived.Laws.Entries
import Derived.Calls
import Derived.Laws.Sem
import Derived.Test.YtikjlbanfbkhmaaKP922e0edba0
import Derived.Test.YtikjlbanfbkhmaaKPdb02325ee0
namespace Go.Proofs.Ytikjlbanfbkhmaa.PA
open Go Go.Abs Go.RowKit Go.Proofs Go.Proofs.YtikjlbanfbkhmaaW.PrintWords Go.Proofs.YtikjlbanfbkhmaaW.PrintLast Go.Proofs.YtikjlbanfbkhmaaW.PrintMore
set_option maxRecDepth 100000
set_option maxHeartbeats 4000000
set_option linter.unusedVariables false
set_option linter.unusedSimpArgs false
theorem laws_FnGuessesAt.ev {k : Nat} {l0 : List Int} {v0 : PV} (hv0 : Sl (cInt .u8) l0 v0) {r : Bool} (H : laws_FnGuessesAt.f k l0 = some r) : Ret Try.prog 5 [v0] fun v S => v = .lit (.bool r) := by
 unfold laws_FnGuessesAt.f at H
 refine Ret.intro Try.func5 rfl (Nat.le_of_ble_eq_true rfl) rfl ?_
 rw [tm1]
 refine Evr.sr rfl (Opl.p1 (n := Opl.nil (Evr.seq (Evr.sr rfl (Opl.p1 (n := Opl.len (xs := l0) (by exact hv0) K52 rfl rfl rfl rfl (Opl.p1 (n := Opl.nil ?_))))))))
 by_cases c1 : (l0.length : Int) > 1048576
 case pos =>
  rw [if_pos c1] at H
  have e1 : (decide ((l0.length : Int) > 1048576)) = true := by simpa using c1
  try rw [e1]
  refine Evr.condT rfl (Evr.sr rfl (Opl.p1 (n := Opl.nil ?_)))
  obtain rfl := Option.some.inj H
  refine Evr.ret1 Try.func5 rfl ?_
  show (.lit (.bool true) : PV) = _
  first | rfl | (simp only [go_sem]; rfl)
 rw [if_neg c1] at H
 have e2 : (decide ((l0.length : Int) > 1048576)) = false := by simpa using c1
 try rw [e2]
 refine Evr.condF rfl (Evr.skip (Evr.sr rfl (Opl.p1 (n := ?_))))
 obtain ⟨r1, h_r1, H⟩ := Option.bind_eq_some_iff.1 H
 refine Opl.call (spec_DrawGuessesAt.ev hv0 h_r1) rfl rfl rfl rfl ⟨hv0.plain, trivial⟩ (by decide) ?_
 rintro _ ⟨pv2, pv3, pv4, _, rfl, h2, h3, h4, rfl⟩
 refine Opl.p1 (n := Opl.p1 (v := pv2) (n := Opl.p1 (v := pv3) (n := Opl.p1 (v := pv4) (n := Opl.p1 (v := .lit (.int .i64 r1.2.2.2)) (n := Opl.p1 (n := Opl.p1 (n := Opl.p1 (n := Opl.p1 (n := Opl.nil (Evr.sr rfl (Opl.p1 (n := Opl.p1 (n := Opl.p1 (n := Opl.p1 (n := ?_)))))))))))))))
 obtain ⟨r2, h_r2, H⟩ := Option.bind_eq_some_iff.1 H
 refine Opl.call ((impl_GuessesAt.ev h2 h3 h4 h_r2).mono fun _ _ h => Out.vec h) rfl rfl rfl rfl ⟨h2.plain, h3.plain, h4.plain, (.lit _), trivial⟩ (by decide) ?_
 rintro pv5 h5
 refine Opl.p1 (n := Opl.nil (Evr.seq (Evr.sr rfl (Opl.p1 (n := Opl.p1 (n := Opl.p1 (n := Opl.p1 (n := Opl.p1 (n := ?_)))))))))
 obtain ⟨r3, h_r3, H⟩ := Option.bind_eq_some_iff.1 H
 refine Opl.call ((spec_GuessesAt.ev h2 h3 h4 h_r3).mono fun _ _ h => Out.vec h) rfl rfl rfl rfl ⟨h2.plain, h3.plain, h4.plain, (.lit _), trivial⟩ (by decide) ?_
 rintro pv6 h6
 obtain ⟨r4, h_r4, H⟩ := Option.bind_eq_some_iff.1 H
 refine Opl.callc (laws_wcInts.ev h5 h6 h_r4) rfl rfl rfl rfl ⟨h5.plain, h6.plain, trivial⟩ (by decide) (Opl.p1 (n := Opl.p1 (n := ?_)))
 by_cases c2 : r4 = true
 case neg =>
  rw [if_neg c2] at H
  have e26 : (!r4) = true := by simpa using c2
  try rw [e26]
  refine Opl.skp rfl (Opl.skp rfl (Opl.skp rfl (Opl.skp rfl (Opl.skp rfl (Opl.skp rfl (Opl.skp rfl (Opl.p1 (n := Opl.nil (Evr.condT rfl (Evr.sr rfl (Opl.p1 (n := Opl.nil ?_))))))))))))
  obtain rfl := Option.some.inj H
  refine Evr.ret1 Try.func5 rfl ?_
  show (.lit (.bool false) : PV) = _
  first | rfl | (simp only [go_sem]; rfl)
 rw [if_pos c2] at H
 have e3 : (!r4) = false := by simpa using c2
 try rw [e3]
 refine Opl.p1 (n := Opl.p1 (n := ?_))
 obtain ⟨r5, h_r5, H⟩ := Option.bind_eq_some_iff.1 H
 refine Opl.callc (impl_GuessCount.ev h2 h_r5) rfl rfl rfl rfl ⟨h2.plain, (.lit _), trivial⟩ (by decide) (Opl.p1 (n := Opl.p1 (n := ?_)))
 obtain ⟨r6, h_r6, H⟩ := Option.bind_eq_some_iff.1 H
 refine Opl.callc (spec_GuessCount.ev h2 h_r6) rfl rfl rfl rfl ⟨h2.plain, (.lit _), trivial⟩ (by decide) (Opl.p1 (n := Opl.p1 (n := Opl.nil ?_)))
 by_cases c3 : r5 ≠ r6
 case pos =>
  rw [if_pos c3] at H
  have e4 : (r5 != r6) = true := by simpa using c3
  try rw [e4]
  refine Evr.condT rfl (Evr.sr rfl (Opl.p1 (n := Opl.nil ?_)))
  obtain rfl := Option.some.inj H
  refine Evr.ret1 Try.func5 rfl ?_
  show (.lit (.bool false) : PV) = _
  first | rfl | (simp only [go_sem]; rfl)
 rw [if_neg c3] at H
 have e5 : (r5 != r6) = false := by simpa using c3
 try rw [e5]
 refine Evr.condF rfl (Evr.skip (Evr.sr rfl (Opl.lits (M := (cInt .i64)) (ys := []) [] K26 T3 rfl rfl rfl trivial rfl (by decide) rfl rfl rfl ?_)))
 rintro pv7 S h7 u1 w1
 refine Opl.p1 (n := Opl.nil (Evr.seq (Evr.sr rfl (Opl.p1 (n := Opl.len (xs := r2) (by exact h5) K26 rfl rfl rfl rfl (Opl.p1 (n := Opl.nil (Evr.block ?_))))))))
 refine Evr.loop (Evr.rounds (n := k) (Inv := fun n tm S => n ≤ k ∧ ∃ (x8q4_1 : List Int) (x50_1 : Int) (pv8 : PV), laws_FnGuessesAt.l1 n x8q4_1 x50_1 r1 r2 = some r ∧ Has tm [(3, pv2), (4, pv3), (5, pv4), (6, .lit (.int .i64 r1.2.2.2)), (7, pv5), (8, pv8), (48, pv5), (49, .lit (.int .i64 (r2.length : Int))), (50, .lit (.int .i64 x50_1))] ∧ Vec (cInt .i64) x8q4_1 pv8 S) ?_ ?_ ?_)
 · exact ⟨Nat.le_refl _, _, _, _, H, ⟨rfl, rfl, rfl, rfl, rfl, rfl, rfl, rfl, rfl, trivial⟩, h7⟩
 ·
  rintro tm S ⟨_, _, _, _, H, -⟩
  simp [laws_FnGuessesAt.l1] at H
 ·
  rintro n1 ih1 tm S ⟨hle, x8q4_1, x50_1, pv8, H, hh, h8⟩
  simp only [laws_FnGuessesAt.l1] at H
  rw [hh.eq]
  refine Evr.sr rfl (Opl.p1 (n := Opl.nil (Evr.seq ?_)))
  by_cases c4 : x50_1 < (r2.length : Int)
  case neg =>
   rw [if_neg c4] at H
   have e25 : (decide (x50_1 < (r2.length : Int))) = false := by simpa using c4
   try rw [e25]
   refine Evr.condF rfl (Evr.exit rfl (Evr.sr rfl (Opl.p1 (n := ?_))))
   obtain ⟨r11, h_r11, H⟩ := Option.bind_eq_some_iff.1 H
   obtain ⟨pv24, h38, -, h39⟩ := Out.vec h8
   refine Opl.callw (laws_wcHas.ev h39 h_r11) rfl rfl rfl (.cons h38 (.cons (.refl _) .nil)) ⟨h39.plain, (.lit _), trivial⟩ (by decide) (Opl.p1 (n := Opl.p1 (n := Opl.nil ?_)))
   obtain rfl := Option.some.inj H
   refine Evr.ret1 Try.func5 rfl ?_
   show (.lit (.bool (!r11)) : PV) = _
   first | rfl | (simp only [go_sem]; rfl)
  rw [if_pos c4] at H
  have e6 : (decide (x50_1 < (r2.length : Int))) = true := by simpa using c4
  try rw [e6]
  refine Evr.condT rfl (Evr.skip (Evr.seq (Evr.block (Evr.sr rfl (Opl.p1 (n := ?_))))))
  obtain ⟨c5, H⟩ := peel H
  obtain ⟨c6, H⟩ := peel H
  refine Opl.idx (M := (cInt .i64)) (xs := r2) (j := x50_1) (0 : Int) (by exact h5) rfl (by omega) (by omega) K26 Z3 rfl rfl ?_
  rintro p1 q1 h9
  obtain rfl : p1 = [.lit (.int .i64 (rd r2 x50_1))] := h9
  refine Opl.lda (.lit (.int .i64 (rd r2 x50_1))) rfl T3 rfl rfl rfl rfl (Opl.p1 (n := Opl.p1 (n := Opl.nil (Evr.sr rfl (Opl.p1 (n := Opl.p1 (n := Opl.p1 (n := Opl.nil (Evr.seq (Evr.sr rfl (Opl.p1 (n := Opl.p1 (n := Opl.len (xs := r2) (by exact h5) K26 rfl rfl rfl rfl (Opl.eql (a := (wrap64 (x50_1 + 1))) (b := (r2.length : Int)) K3 rfl rfl rfl rfl (Opl.nil ?_)))))))))))))))
  refine Evr.join (fun tm S => ∃ (kq1 : Nat) (x11q2_1 : Int) (pv9 : PV), laws_FnGuessesAt.j2 kq1 x11q2_1 r1 r2 x8q4_1 x50_1 = some r ∧ kq1 ≤ n1 ∧ Has tm [(3, pv2), (4, pv3), (5, pv4), (6, .lit (.int .i64 r1.2.2.2)), (7, pv5), (8, pv9), (9, .lit (.int .i64 x50_1)), (10, .lit (.int .i64 (rd r2 x50_1))), (11, .lit (.int .i64 x11q2_1)), (48, pv5), (49, .lit (.int .i64 (r2.length : Int))), (50, .lit (.int .i64 x50_1))] ∧ Vec (cInt .i64) x8q4_1 pv9 S) ?_ fun hk1 => ?_
  ·
   rintro tm S ⟨kq1, x11q2_1, pv9, H, hle, hh, h10⟩
   rw [hh.eq]
   refine Evr.sr rfl (Opl.lits (M := (cSl (cInt .i64))) (ys := []) [] K23 T26 rfl rfl rfl trivial rfl (by decide) rfl rfl rfl ?_)
   rintro pv10 S h11 u2 w2
   have ap1 := w2.vec h10
   have h12 := u2.vec h10 ap1
   refine Opl.p1 (n := ?_)
   obtain _ | k1 := kq1
   · simp [laws_FnGuessesAt.j2] at H
   simp only [laws_FnGuessesAt.j2] at H
   obtain ⟨c7, H⟩ := peel H
   obtain ⟨c8, H⟩ := peel H
   obtain ⟨c9, H⟩ := peel H
   obtain ⟨c10, H⟩ := peel H
   obtain ⟨c11, H⟩ := peel H
   obtain ⟨c12, H⟩ := peel H
   refine Opl.app (M := (cSl (cInt .i64))) (xs := ([] : List (List Int))) (ys := r1.2.1) (v := pv10) h11 (.sl h3) (oSl (cInt .i64)) rfl rfl K23 T26 rfl rfl (by (try simp only [List.length_cons, List.length_nil]); omega) (by show (_ + _) * 24 ≤ 140737488355328; (try simp only [List.length_cons, List.length_nil]); omega) rfl rfl rfl rfl rfl ?_
   rintro pv11 S h13 u3 w3
   have ap2 := w3.vec h12
   have h14 := u3.vec h12 ap1
   refine Opl.p1 (n := Opl.app (M := (cSl (cInt .i64))) (xs := (([] : List (List Int)) ++ r1.2.1)) (ys := r1.2.2.1) (v := pv11) h13 (.sl h4) (oSl (cInt .i64)) rfl rfl K23 T26 rfl rfl (by (try simp only [List.length_cons, List.length_nil]); omega) (by show (_ + _) * 24 ≤ 140737488355328; (try simp only [List.length_cons, List.length_nil]); omega) rfl rfl rfl rfl rfl ?_)
   rintro pv12 S h15 u4 w4
   have ap3 := w4.vec h14
   have h16 := u4.vec h14 ap2
   refine Opl.p1 (n := Opl.idv (M := (cSl (cInt .i64))) (xs := ((([] : List (List Int)) ++ r1.2.1) ++ r1.2.2.1)) (j := x50_1) (v := pv12) h15 rfl rfl (by omega) (by omega) K23 Z26 rfl rfl ?_)
   rintro d1 z1 q2 h17 h18
   refine Opl.ldv (M := (cSl (cInt .i64))) (xs := ((([] : List (List Int)) ++ r1.2.1) ++ r1.2.2.1)) (j := x50_1) ([] : List Int) h17 h18 (by omega) (by omega) rfl T26 rfl rfl rfl ?_
   rintro p2 q3 h19
   obtain ⟨pv13, rfl, h20⟩ := h19
   refine ⟨pv13, rfl, ?_⟩
   refine Opl.p1 (n := Opl.nil (Evr.seq (Evr.sr rfl (Opl.p1 (n := Opl.p1 (n := Opl.p1 (n := Opl.p1 (n := Opl.p1 (n := Opl.idx (M := (cInt .i64)) (xs := r2) (j := x11q2_1) (0 : Int) (by exact h5) rfl (by omega) (by omega) K26 Z3 rfl rfl ?_)))))))))
   rintro p3 q4 h21
   obtain rfl : p3 = [.lit (.int .i64 (rd r2 x11q2_1))] := h21
   refine Opl.lda (.lit (.int .i64 (rd r2 x11q2_1))) rfl T3 rfl rfl rfl rfl ?_
   obtain ⟨r7, h_r7, H⟩ := Option.bind_eq_some_iff.1 H
   refine Opl.callc (impl_GuessNext.ev h2 h_r7) rfl rfl rfl rfl ⟨h2.plain, (.lit _), (.lit _), (.lit _), trivial⟩ (by decide) (Opl.p1 (n := Opl.p1 (n := ?_)))
   by_cases c13 : r7 = true
   case neg =>
    rw [if_neg c13] at H
    have e22 : (!r7) = true := by simpa using c13
    try rw [e22]
    refine Opl.skp rfl (Opl.skp rfl (Opl.skp rfl (Opl.skp rfl (Opl.skp rfl (Opl.skp rfl (Opl.skp rfl (Opl.p1 (n := Opl.nil (Evr.condT rfl (Evr.sr rfl (Opl.p1 (n := Opl.nil ?_))))))))))))
    obtain rfl := Option.some.inj H
    refine Evr.ret1 Try.func5 rfl ?_
    show (.lit (.bool false) : PV) = _
    first | rfl | (simp only [go_sem]; rfl)
   rw [if_pos c13] at H
   have e7 : (!r7) = false := by simpa using c13
   try rw [e7]
   refine Opl.p1 (n := Opl.p1 (n := Opl.p1 (n := ?_)))
   obtain ⟨r8, h_r8, H⟩ := Option.bind_eq_some_iff.1 H
   refine Opl.call ((impl_GuessLetter.ev h2 h_r8).mono fun _ _ h => Out.vec h) rfl rfl rfl rfl ⟨h2.plain, (.lit _), (.lit _), trivial⟩ (by decide) ?_
   rintro pv14 h22
   refine Opl.p1 (n := ?_)
   obtain ⟨r9, h_r9, H⟩ := Option.bind_eq_some_iff.1 H
   refine Opl.callc (laws_wcInts.ev h22 h20 h_r9) rfl rfl rfl rfl ⟨h22.plain, h20.plain, trivial⟩ (by decide) (Opl.p1 (n := Opl.p1 (n := Opl.nil ?_)))
   by_cases c14 : r9 = true
   case neg =>
    rw [if_neg c14] at H
    have e21 : (!r9) = true := by simpa using c14
    try rw [e21]
    refine Evr.condT rfl (Evr.sr rfl (Opl.p1 (n := Opl.nil ?_)))
    obtain rfl := Option.some.inj H
    refine Evr.ret1 Try.func5 rfl ?_
    show (.lit (.bool false) : PV) = _
    first | rfl | (simp only [go_sem]; rfl)
   rw [if_pos c14] at H
   have e8 : (!r9) = false := by simpa using c14
   try rw [e8]
   refine Evr.condF rfl (Evr.skip (Evr.sr rfl (Opl.p1 (n := Opl.p1 (n := Opl.p1 (n := ?_))))))
   obtain ⟨r10, h_r10, H⟩ := Option.bind_eq_some_iff.1 H
   refine Opl.call ((impl_GuessKept.ev h2 h_r10).mono fun _ _ h => Out.vec h) rfl rfl rfl rfl ⟨h2.plain, (.lit _), (.lit _), trivial⟩ (by decide) ?_
   rintro pv15 h23
   refine Opl.len (xs := r10) (by exact h23) K26 rfl rfl rfl rfl (Opl.p1 (n := Opl.nil (Evr.block ?_)))
   refine Evr.loop (Evr.rounds (n := k1) (Inv := fun n tm S => n ≤ k1 ∧ ∃ (x8q6_1 : List Int) (x94q2_1 : Int) (pv16 : PV), laws_FnGuessesAt.l3 n x8q6_1 x94q2_1 r1 r2 x50_1 r10 = some r ∧ Has tm [(3, pv2), (4, pv3), (5, pv4), (6, .lit (.int .i64 r1.2.2.2)), (7, pv5), (8, pv16), (9, .lit (.int .i64 x50_1)), (48, pv5), (49, .lit (.int .i64 (r2.length : Int))), (50, .lit (.int .i64 x50_1)), (92, pv15), (93, .lit (.int .i64 (r10.length : Int))), (94, .lit (.int .i64 x94q2_1))] ∧ Vec (cInt .i64) x8q6_1 pv16 S) ?_ ?_ ?_)
   · exact ⟨Nat.le_refl _, _, _, _, H, ⟨rfl, rfl, rfl, rfl, rfl, rfl, rfl, rfl, rfl, rfl, rfl, rfl, rfl, trivial⟩, h16⟩
   ·
    rintro tm S ⟨_, _, _, _, H, -⟩
    simp [laws_FnGuessesAt.l3] at H
   ·
    rintro n2 ih2 tm S ⟨hle, x8q6_1, x94q2_1, pv16, H, hh, h24⟩
    simp only [laws_FnGuessesAt.l3] at H
    rw [hh.eq]
    refine Evr.sr rfl (Opl.p1 (n := Opl.nil (Evr.seq ?_)))
    by_cases c15 : x94q2_1 < (r10.length : Int)
    case neg =>
     rw [if_neg c15] at H
     have e20 : (decide (x94q2_1 < (r10.length : Int))) = false := by simpa using c15
     try rw [e20]
     refine Evr.condF rfl (Evr.exit rfl (Evr.inBlock (Evr.regionN rfl (Opl.p1 (n := Opl.p1 (n := Opl.nil ?_))))))
     exact ih1 _ (by omega) _ _ ⟨by omega, _, _, _, H, ⟨rfl, rfl, rfl, rfl, rfl, rfl, rfl, rfl, rfl, trivial⟩, h24⟩
    rw [if_pos c15] at H
    have e9 : (decide (x94q2_1 < (r10.length : Int))) = true := by simpa using c15
    try rw [e9]
    refine Evr.condT rfl (Evr.skip (Evr.seq (Evr.block (Evr.sr rfl (Opl.p1 (n := ?_))))))
    obtain ⟨c16, H⟩ := peel H
    obtain ⟨c17, H⟩ := peel H
    refine Opl.idx (M := (cInt .i64)) (xs := r10) (j := x94q2_1) (0 : Int) (by exact h23) rfl (by omega) (by omega) K26 Z3 rfl rfl ?_
    rintro p4 q5 h25
    obtain rfl : p4 = [.lit (.int .i64 (rd r10 x94q2_1))] := h25
    refine Opl.lda (.lit (.int .i64 (rd r10 x94q2_1))) rfl T3 rfl rfl rfl rfl (Opl.p1 (n := Opl.p1 (n := Opl.nil (Evr.seq (Evr.sr rfl (Opl.p1 (n := Opl.p1 (n := Opl.nil ?_))))))))
    by_cases c18 : x50_1 = 0
    case neg =>
     rw [if_neg c18] at H
     have e15 : (x50_1 == 0) = false := by simpa using c18
     try rw [e15]
     refine Evr.condF rfl (Evr.skip (Evr.seq ?_))
     refine Evr.join2 (fun tm S => ∃ (kq4 : Nat) (x8q6_4 : List Int) (pv22 : PV), laws_FnGuessesAt.l3 kq4 x8q6_4 (wrap64 (x94q2_1 + 1)) r1 r2 x50_1 r10 = some r ∧ kq4 ≤ n2 ∧ Has tm [(3, pv2), (4, pv3), (5, pv4), (6, .lit (.int .i64 r1.2.2.2)), (7, pv5), (8, pv22), (9, .lit (.int .i64 x50_1)), (48, pv5), (49, .lit (.int .i64 (r2.length : Int))), (50, .lit (.int .i64 x50_1)), (92, pv15), (93, .lit (.int .i64 (r10.length : Int))), (94, .lit (.int .i64 x94q2_1))] ∧ Vec (cInt .i64) x8q6_4 pv22 S) ?_ fun hk4 => ?_
     ·
      rintro tm S ⟨kq4, x8q6_4, pv22, H, hle, hh, h33⟩
      rw [hh.eq]
      refine Evr.inBlock (Evr.regionN rfl (Opl.p1 (n := Opl.p1 (n := Opl.nil ?_))))
      exact ih2 _ (by omega) _ _ ⟨by omega, _, _, _, H, ⟨rfl, rfl, rfl, rfl, rfl, rfl, rfl, rfl, rfl, rfl, rfl, rfl, rfl, trivial⟩, h33⟩
     ·
      refine Evr.regionN rfl (Opl.p1 (n := Opl.p1 (n := Opl.len (xs := r1.2.1) (by exact h3) K23 rfl rfl rfl rfl (Opl.p1 (n := Opl.p1 (n := ?_))))))
      obtain _ | k3 := n2
      · simp [laws_FnGuessesAt.j4] at H
      simp only [laws_FnGuessesAt.j4] at H
      by_cases c24 : x50_1 ≥ (r1.2.1.length : Int)
      case neg =>
       rw [if_neg c24] at H
       have e19 : (decide (x50_1 ≥ (r1.2.1.length : Int))) = false := by simpa using c24
       try rw [e19]
       refine Opl.skp rfl (Opl.skp rfl (Opl.p1 (n := Opl.nil (Evr.condF rfl (Evr.skip ?_)))))
       exact hk4 _ _ ⟨_, _, _, H, by omega, ⟨rfl, rfl, rfl, rfl, rfl, rfl, rfl, rfl, rfl, rfl, rfl, rfl, rfl, trivial⟩, h24⟩
      rw [if_pos c24] at H
      have e16 : (decide (x50_1 ≥ (r1.2.1.length : Int))) = true := by simpa using c24
      try rw [e16]
      refine Opl.p1 (n := Opl.p1 (n := Opl.p1 (n := Opl.nil ?_)))
      refine Evr.join (fun tm S => ∃ (kq5 : Nat) (x8q6_5 : List Int) (pv23 : PV), laws_FnGuessesAt.l3 kq5 x8q6_5 (wrap64 (x94q2_1 + 1)) r1 r2 x50_1 r10 = some r ∧ kq5 ≤ k3 ∧ Has tm [(3, pv2), (4, pv3), (5, pv4), (6, .lit (.int .i64 r1.2.2.2)), (7, pv5), (8, pv23), (9, .lit (.int .i64 x50_1)), (48, pv5), (49, .lit (.int .i64 (r2.length : Int))), (50, .lit (.int .i64 x50_1)), (92, pv15), (93, .lit (.int .i64 (r10.length : Int))), (94, .lit (.int .i64 x94q2_1))] ∧ Vec (cInt .i64) x8q6_5 pv23 S) ?_ fun hk5 => ?_
      ·
       rintro tm S ⟨kq5, x8q6_5, pv23, H, hle, hh, h34⟩
       rw [hh.eq]
       exact hk4 _ _ ⟨_, _, _, H, by omega, ⟨rfl, rfl, rfl, rfl, rfl, rfl, rfl, rfl, rfl, rfl, rfl, rfl, rfl, trivial⟩, h34⟩
      ·
       by_cases c25 : (rd r10 x94q2_1) = 1
       case neg =>
        rw [if_neg c25] at H
        have e18 : ((rd r10 x94q2_1) == 1) = false := by simpa using c25
        try rw [e18]
        refine Evr.condF rfl (Evr.skip ?_)
        exact hk5 _ _ ⟨_, _, _, H, by omega, ⟨rfl, rfl, rfl, rfl, rfl, rfl, rfl, rfl, rfl, rfl, rfl, rfl, rfl, trivial⟩, h24⟩
       rw [if_pos c25] at H
       have e17 : ((rd r10 x94q2_1) == 1) = true := by simpa using c25
       try rw [e17]
       refine Evr.condT rfl (Evr.regionN rfl (Opl.p1 (n := Opl.p1 (n := ?_))))
       obtain ⟨c26, H⟩ := peel H
       obtain ⟨c27, H⟩ := peel H
       refine Opl.idv (M := (cInt .i64)) (xs := x8q6_1) (j := x94q2_1) (v := pv16) h24 rfl rfl (by omega) (by omega) K26 Z3 rfl rfl ?_
       rintro d3 z3 q7 h35 h36
       refine Opl.stv (M := (cInt .i64)) (xs := x8q6_1) (j := x94q2_1) (y := 1) (vs := [.lit (.int .i64 1)]) h35 h36 (by omega) (by omega) rfl rfl (by exact rfl) Z3 rfl rfl rfl rfl ?_
       rw [← q7]
       rintro S h37 u7
       refine Opl.nil ?_
       exact hk5 _ _ ⟨_, _, _, H, by omega, ⟨rfl, rfl, rfl, rfl, rfl, rfl, rfl, rfl, rfl, rfl, rfl, rfl, rfl, trivial⟩, h37⟩
    rw [if_pos c18] at H
    have e10 : (x50_1 == 0) = true := by simpa using c18
    try rw [e10]
    refine Evr.condT rfl (Evr.regionN rfl (Opl.p1 (n := Opl.liti (M := (cInt .i64)) (ys := [0]) [.const (.int .i64 0)] K26 T3 rfl rfl rfl (by exact ⟨rfl, trivial⟩) rfl (by decide) rfl rfl ?_)))
    rintro pv18 h26
    obtain ⟨c19, H⟩ := peel H
    obtain _ | k2 := n2
    · simp [laws_FnGuessesAt.j4] at H
    simp only [laws_FnGuessesAt.j4] at H
    refine Opl.app (M := (cInt .i64)) (xs := x8q6_1) (ys := [0]) (v := pv16) h24 (.sl h26) (oInt .i64) rfl rfl K26 T3 rfl rfl (by (try simp only [List.length_cons, List.length_nil]); omega) (by show (_ + _) * 8 ≤ 140737488355328; (try simp only [List.length_cons, List.length_nil]); omega) rfl rfl rfl rfl rfl ?_
    rintro pv19 S h27 u5 w5
    refine Opl.p1 (n := Opl.nil (Evr.seq ?_))
    refine Evr.join2 (fun tm S => ∃ (kq2 : Nat) (x8q6_2 : List Int) (pv20 : PV), laws_FnGuessesAt.l3 kq2 x8q6_2 (wrap64 (x94q2_1 + 1)) r1 r2 x50_1 r10 = some r ∧ kq2 ≤ k2 ∧ Has tm [(3, pv2), (4, pv3), (5, pv4), (6, .lit (.int .i64 r1.2.2.2)), (7, pv5), (8, pv20), (9, .lit (.int .i64 x50_1)), (48, pv5), (49, .lit (.int .i64 (r2.length : Int))), (50, .lit (.int .i64 x50_1)), (92, pv15), (93, .lit (.int .i64 (r10.length : Int))), (94, .lit (.int .i64 x94q2_1))] ∧ Vec (cInt .i64) x8q6_2 pv20 S) ?_ fun hk2 => ?_
    ·
     rintro tm S ⟨kq2, x8q6_2, pv20, H, hle, hh, h28⟩
     rw [hh.eq]
     refine Evr.inBlock (Evr.regionN rfl (Opl.p1 (n := Opl.p1 (n := Opl.nil ?_))))
     exact ih2 _ (by omega) _ _ ⟨by omega, _, _, _, H, ⟨rfl, rfl, rfl, rfl, rfl, rfl, rfl, rfl, rfl, rfl, rfl, rfl, rfl, trivial⟩, h28⟩
    ·
     refine Evr.regionN rfl (Opl.p1 (n := Opl.p1 (n := Opl.len (xs := r1.2.1) (by exact h3) K23 rfl rfl rfl rfl (Opl.p1 (n := Opl.p1 (n := ?_))))))
     by_cases c20 : x50_1 ≥ (r1.2.1.length : Int)
     case neg =>
      rw [if_neg c20] at H
      have e14 : (decide (x50_1 ≥ (r1.2.1.length : Int))) = false := by simpa using c20
      try rw [e14]
      refine Opl.skp rfl (Opl.skp rfl (Opl.p1 (n := Opl.nil (Evr.condF rfl (Evr.skip ?_)))))
      exact hk2 _ _ ⟨_, _, _, H, by omega, ⟨rfl, rfl, rfl, rfl, rfl, rfl, rfl, rfl, rfl, rfl, rfl, rfl, rfl, trivial⟩, h27⟩
     rw [if_pos c20] at H
     have e11 : (decide (x50_1 ≥ (r1.2.1.length : Int))) = true := by simpa using c20
     try rw [e11]
     refine Opl.p1 (n := Opl.p1 (n := Opl.p1 (n := Opl.nil ?_)))
     refine Evr.join (fun tm S => ∃ (kq3 : Nat) (x8q6_3 : List Int) (pv21 : PV), laws_FnGuessesAt.l3 kq3 x8q6_3 (wrap64 (x94q2_1 + 1)) r1 r2 x50_1 r10 = some r ∧ kq3 ≤ k2 ∧ Has tm [(3, pv2), (4, pv3), (5, pv4), (6, .lit (.int .i64 r1.2.2.2)), (7, pv5), (8, pv21), (9, .lit (.int .i64 x50_1)), (48, pv5), (49, .lit (.int .i64 (r2.length : Int))), (50, .lit (.int .i64 x50_1)), (92, pv15), (93, .lit (.int .i64 (r10.length : Int))), (94, .lit (.int .i64 x94q2_1))] ∧ Vec (cInt .i64) x8q6_3 pv21 S) ?_ fun hk3 => ?_
     ·
      rintro tm S ⟨kq3, x8q6_3, pv21, H, hle, hh, h29⟩
      rw [hh.eq]
      exact hk2 _ _ ⟨_, _, _, H, by omega, ⟨rfl, rfl, rfl, rfl, rfl, rfl, rfl, rfl, rfl, rfl, rfl, rfl, rfl, trivial⟩, h29⟩
     ·
      by_cases c21 : (rd r10 x94q2_1) = 1
      case neg =>
       rw [if_neg c21] at H
       have e13 : ((rd r10 x94q2_1) == 1) = false := by simpa using c21
       try rw [e13]
       refine Evr.condF rfl (Evr.skip ?_)
       exact hk3 _ _ ⟨_, _, _, H, by omega, ⟨rfl, rfl, rfl, rfl, rfl, rfl, rfl, rfl, rfl, rfl, rfl, rfl, rfl, trivial⟩, h27⟩
      rw [if_pos c21] at H
      have e12 : ((rd r10 x94q2_1) == 1) = true := by simpa using c21
      try rw [e12]
      refine Evr.condT rfl (Evr.regionN rfl (Opl.p1 (n := Opl.p1 (n := ?_))))
      obtain ⟨c22, H⟩ := peel H
      obtain ⟨c23, H⟩ := peel H
      refine Opl.idv (M := (cInt .i64)) (xs := (x8q6_1 ++ [0])) (j := x94q2_1) (v := pv19) h27 rfl rfl (by omega) (by omega) K26 Z3 rfl rfl ?_
      rintro d2 z2 q6 h30 h31
      refine Opl.stv (M := (cInt .i64)) (xs := (x8q6_1 ++ [0])) (j := x94q2_1) (y := 1) (vs := [.lit (.int .i64 1)]) h30 h31 (by omega) (by omega) rfl rfl (by exact rfl) Z3 rfl rfl rfl rfl ?_
      rw [← q6]
      rintro S h32 u6
      refine Opl.nil ?_
      exact hk3 _ _ ⟨_, _, _, H, by omega, ⟨rfl, rfl, rfl, rfl, rfl, rfl, rfl, rfl, rfl, rfl, rfl, rfl, rfl, trivial⟩, h32⟩
  ·
   by_cases c28 : (wrap64 (x50_1 + 1)) = (r2.length : Int)
   case neg =>
    rw [if_neg c28] at H
    have e24 : ((wrap64 (x50_1 + 1)) == (r2.length : Int)) = false := by simpa using c28
    try rw [e24]
    refine Evr.condF rfl (Evr.skip ?_)
    exact hk1 _ _ ⟨_, _, _, H, by omega, ⟨rfl, rfl, rfl, rfl, rfl, rfl, rfl, rfl, rfl, rfl, rfl, rfl, trivial⟩, h8⟩
   rw [if_pos c28] at H
   have e23 : ((wrap64 (x50_1 + 1)) == (r2.length : Int)) = true := by simpa using c28
   try rw [e23]
   refine Evr.condT rfl (Evr.regionN rfl (Opl.p1 (n := Opl.len (xs := r1.2.1) (by exact h3) K23 rfl rfl rfl rfl (Opl.p1 (n := Opl.nil ?_)))))
   exact hk1 _ _ ⟨_, _, _, H, by omega, ⟨rfl, rfl, rfl, rfl, rfl, rfl, rfl, rfl, rfl, rfl, rfl, rfl, trivial⟩, h8⟩
end Go.Proofs.Ytikjlbanfbkhmaa.PA
