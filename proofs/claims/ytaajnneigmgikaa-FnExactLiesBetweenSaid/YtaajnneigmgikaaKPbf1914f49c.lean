/- Walks of Go functions: each is shown to answer as the Lean function beside it tells, under the conditions that its theorem names. -/
import Derived.Test.YtaajnneigmgikaaProg
import Derived.KernelRfl
import Derived.Below
import Derived.Deep.Draws
import Derived.Deep.AppendLies
import Derived.Maps.AppendAt
import Derived.OwnWalk
import Derived.Laws.BytesArg
import Derived.Laws.MakeOwn
import Derived.Laws.OwnMore
import Derived.Deep.OwnRows
import Derived.Tactics
import Derived.Lib.ConvBytes
import Derived.Laws.Slices
import Derived.WalkKit
import Derived.RowKit3
import Derived.Deep.LoopGhost
import Derived.Deep.QuietTactic
import Derived.BigQuiet
import Derived.WideLaws
import Derived.Deep.DeepCutAuto
import Derived.Deep.CutBlock
import Derived.Deep.RegionHeld3
import Derived.Laws.Rows
import Derived.Lib.AppendStr
import Derived.ArgAppend
import Derived.Laws.IdiomCopy
import Derived.OrdersHeld
import Derived.Laws.BitsLemmas
import Derived.RowKit
import Derived.Laws.StructEq
import Derived.Lib.SliceRun
import Derived.WalkSpells
import Derived.ChangeArms
import Derived.ChangeSlices
import Derived.Deep.Slices
import Derived.Attr
import Derived.Laws.Append
import Derived.Laws.AppendOwn
import Derived.Laws.Entries
import Derived.Calls
import Derived.Laws.Sem
import Derived.Test.YtaajnneigmgikaaKPb0cdcfdf32
namespace Go.Proofs.Ytaajnneigmgikaa.PA
open Go Go.Abs Go.RowKit Go.Proofs Go.Proofs.YtaajnneigmgikaaW.PrintWords Go.Proofs.YtaajnneigmgikaaW.PrintLast Go.Proofs.YtaajnneigmgikaaW.PrintMore
set_option maxRecDepth 100000
set_option maxHeartbeats 4000000
set_option linter.unusedVariables false
set_option linter.unusedSimpArgs false
theorem spec_l1In.ev {a0 : Int} {a1 : Int} {a2 : Int} {r : Bool} (H : spec_l1In.f a0 a1 a2 = some r) : Ret Try.prog 69 [.lit (.int .i64 a0), .lit (.int .i64 a1), .lit (.int .i64 a2)] fun v S => v = .lit (.bool r) := by
 unfold spec_l1In.f at H
 refine Ret.intro Try.func69 rfl (Nat.le_of_ble_eq_true rfl) rfl ?_
 rw [tm3]
 refine Evr.sr rfl (Opl.p1 (n := Opl.nil (Evr.sr rfl (Opl.p1 (n := Opl.p1 (n := Opl.p1 (n := Opl.p1 (n := ?_))))))))
 by_cases c1 : a0 ≥ a1
 case neg =>
  rw [if_neg c1] at H
  have e2 : (decide (a0 ≥ a1)) = false := by simpa using c1
  try rw [e2]
  refine Opl.skp rfl (Opl.skp rfl (Opl.skp rfl (Opl.p1 (n := Opl.p1 (n := Opl.nil ?_)))))
  obtain rfl := Option.some.inj H
  refine Evr.ret1 Try.func69 rfl ?_
  show (.lit (.bool false) : PV) = _
  first | rfl | (simp only [go_sem]; rfl)
 rw [if_pos c1] at H
 have e1 : (decide (a0 ≥ a1)) = true := by simpa using c1
 try rw [e1]
 refine Opl.p1 (n := Opl.p1 (n := Opl.p1 (n := Opl.p1 (n := Opl.p1 (n := Opl.nil ?_)))))
 obtain rfl := Option.some.inj H
 refine Evr.ret1 Try.func69 rfl ?_
 show (.lit (.bool (decide (a0 ≤ a2))) : PV) = _
 first | rfl | (simp only [go_sem]; rfl)
theorem spec_CircuitValid.ev {k : Nat} {a0_0 : Int} {l0_1 : List IAnd} {v0_1 : PV} (hv0_1 : Sl cIAnd l0_1 v0_1) {r : Bool} (H : spec_CircuitValid.f k a0_0 l0_1 = some r) : Ret Try.prog 40 [.agg [.lit (.int .i64 a0_0), v0_1]] fun v S => v = .lit (.bool r) := by
 unfold spec_CircuitValid.f at H
 refine Ret.intro Try.func40 rfl (Nat.le_of_ble_eq_true rfl) rfl ?_
 rw [tm1]
 refine Evr.sr rfl (Opl.box (cs := [.lit (.int .i64 a0_0), v0_1]) rfl rfl rfl rfl ?_)
 rintro i1 S h1 u1 w1
 refine Opl.p1 (n := Opl.nil (Evr.seq (Evr.seq ?_)))
 refine Evr.join (fun tm S => ∃ (kq1 : Nat) (x14_1 : Bool) (i2 : Abs.Id), spec_CircuitValid.j0 kq1 x14_1 a0_0 l0_1 = some r ∧ Has tm [(1, .ptr i2 0), (14, .lit (.bool x14_1))] ∧ Box (.ptr i2 0) [.lit (.int .i64 a0_0), v0_1] S) ?_ fun hk1 => ?_
 ·
  rintro tm S ⟨kq1, x14_1, i2, H, hh, h2⟩
  rw [hh.eq]
  obtain _ | k1 := kq1
  · simp [spec_CircuitValid.j0] at H
  simp only [spec_CircuitValid.j0] at H
  by_cases c1 : x14_1 = true
  case pos =>
   rw [if_pos c1] at H
   obtain rfl : x14_1 = true := by simpa using c1
   refine Evr.condT rfl (Evr.sr rfl (Opl.p1 (n := Opl.nil ?_)))
   obtain rfl := Option.some.inj H
   refine Evr.ret1 Try.func40 rfl ?_
   show (.lit (.bool false) : PV) = _
   first | rfl | (simp only [go_sem]; rfl)
  rw [if_neg c1] at H
  obtain rfl : x14_1 = false := by simpa using c1
  refine Evr.condF rfl (Evr.skip (Evr.seq (Evr.sr rfl (Opl.p1 (n := Opl.nil (Evr.block ?_))))))
  refine Evr.loop (Evr.rounds (n := k1) (Inv := fun n tm S => n ≤ k1 ∧ ∃ (x3_1 : Int) (i3 : Abs.Id), spec_CircuitValid.l0 n x3_1 a0_0 l0_1 = some r ∧ Has tm [(1, .ptr i3 0), (3, .lit (.int .i64 x3_1))] ∧ Box (.ptr i3 0) [.lit (.int .i64 a0_0), v0_1] S) ?_ ?_ ?_)
  · exact ⟨Nat.le_refl _, _, _, H, ⟨rfl, rfl, trivial⟩, h2⟩
  ·
   rintro tm S ⟨_, _, _, H, -⟩
   simp [spec_CircuitValid.l0] at H
  ·
   rintro n1 ih1 tm S ⟨hle, x3_1, i3, H, hh, h3⟩
   simp only [spec_CircuitValid.l0] at H
   rw [hh.eq]
   refine Evr.seq (Evr.sr rfl (Opl.p1 (n := Opl.p1 (v := .ptr i3 1) (n := Opl.ldb (v := v0_1) h3 rfl T33 rfl rfl rfl rfl (Opl.len (xs := l0_1) (by exact hv0_1) K33 rfl rfl rfl rfl (Opl.p1 (n := Opl.nil ?_)))))))
   by_cases c2 : x3_1 < (l0_1.length : Int)
   case neg =>
    rw [if_neg c2] at H
    have e6 : (decide (x3_1 < (l0_1.length : Int))) = false := by simpa using c2
    try rw [e6]
    refine Evr.condF rfl (Evr.exit rfl (Evr.sr rfl (Opl.p1 (n := Opl.nil ?_))))
    obtain rfl := Option.some.inj H
    refine Evr.ret1 Try.func40 rfl ?_
    show (.lit (.bool true) : PV) = _
    first | rfl | (simp only [go_sem]; rfl)
   rw [if_pos c2] at H
   have e1 : (decide (x3_1 < (l0_1.length : Int))) = true := by simpa using c2
   try rw [e1]
   refine Evr.condT rfl (Evr.skip (Evr.seq (Evr.block (Evr.sr rfl (Opl.p1 (v := .ptr i3 0) (n := Opl.ldb (v := .lit (.int .i64 a0_0)) h3 rfl T3 rfl rfl rfl rfl (Opl.add (k := .i64) (a := 1) (b := a0_0) K3 rfl rfl rfl rfl (Opl.one (v := .lit (.int .i64 x3_1)) rfl rfl rfl (Opl.add (k := .i64) (a := (wrap64 (1 + a0_0))) (b := x3_1) K3 rfl rfl rfl rfl (Opl.mul (k := .i64) (a := 2) (b := (wrap64 ((wrap64 (1 + a0_0)) + x3_1))) K3 rfl rfl rfl rfl (Opl.subi (k := .i64) (a := (wrap64 (2 * (wrap64 ((wrap64 (1 + a0_0)) + x3_1))))) (b := 1) K3 rfl rfl rfl rfl (Opl.one (v := .lit (.int .i64 (wrap64 ((wrap64 (2 * (wrap64 ((wrap64 (1 + a0_0)) + x3_1)))) - 1)))) rfl rfl rfl (Opl.nil (Evr.sr rfl (Opl.p1 (v := .ptr i3 1) (n := Opl.ldb (v := v0_1) h3 rfl T33 rfl rfl rfl rfl (Opl.one (v := .lit (.int .i64 x3_1)) rfl rfl rfl ?_)))))))))))))))))
   obtain ⟨c3, H⟩ := peel H
   refine Opl.idx (M := cIAnd) (xs := l0_1) (j := x3_1) zIAnd (by exact hv0_1) rfl (by omega) (by omega) K33 Z96 rfl rfl ?_
   rintro p1 q1 h4
   obtain rfl := cIAnd_R (x := (rd_IAnd l0_1 x3_1)) h4
   refine Opl.p1 (v := .fel ((.lit (.int .i64 ((rd_IAnd l0_1 x3_1).f0))) :: (.lit (.int .i64 ((rd_IAnd l0_1 x3_1).f1))) :: q1)) (n := Opl.lda (.lit (.int .i64 ((rd_IAnd l0_1 x3_1).f0))) rfl T3 rfl rfl rfl rfl (Opl.one (v := .lit (.int .i64 (wrap64 ((wrap64 (2 * (wrap64 ((wrap64 (1 + a0_0)) + x3_1)))) - 1)))) rfl rfl rfl ?_))
   obtain ⟨t125, h_t125, H⟩ := Option.bind_eq_some_iff.1 H
   refine Opl.callc (spec_l1In.ev h_t125) rfl rfl rfl rfl ⟨(.lit _), (.lit _), (.lit _), trivial⟩ (by decide) (Opl.p1 (n := Opl.one (v := .lit (.bool (!t125))) rfl rfl rfl ?_))
   by_cases c4 : t125 = true
   case neg =>
    rw [if_neg c4] at H
    have e5 : (!t125) = true := by simpa using c4
    try rw [e5]
    refine Opl.skp rfl (Opl.skp rfl (Opl.skp rfl (Opl.skp rfl (Opl.skp rfl (Opl.skp rfl (Opl.skp rfl (Opl.skp rfl (Opl.skp rfl (Opl.p1 (n := Opl.nil (Evr.condT rfl (Evr.sr rfl (Opl.one (v := .lit (.bool false)) rfl rfl rfl (Opl.nil ?_))))))))))))))
    obtain rfl := Option.some.inj H
    refine Evr.ret1 Try.func40 rfl ?_
    show (.lit (.bool false) : PV) = _
    first | rfl | (simp only [go_sem]; rfl)
   rw [if_pos c4] at H
   have e2 : (!t125) = false := by simpa using c4
   try rw [e2]
   refine Opl.p1 (v := .ptr i3 1) (n := Opl.ldb (v := v0_1) h3 rfl T33 rfl rfl rfl rfl (Opl.one (v := .lit (.int .i64 x3_1)) rfl rfl rfl (Opl.idx (M := cIAnd) (xs := l0_1) (j := x3_1) zIAnd (by exact hv0_1) rfl (by omega) (by omega) K33 Z96 rfl rfl ?_)))
   rintro p2 q2 h5
   obtain rfl := cIAnd_R (x := (rd_IAnd l0_1 x3_1)) h5
   refine Opl.p1 (v := .fel ((.lit (.int .i64 ((rd_IAnd l0_1 x3_1).f1))) :: q2)) (n := Opl.lda (.lit (.int .i64 ((rd_IAnd l0_1 x3_1).f1))) rfl T3 rfl rfl rfl rfl (Opl.one (v := .lit (.int .i64 (wrap64 ((wrap64 (2 * (wrap64 ((wrap64 (1 + a0_0)) + x3_1)))) - 1)))) rfl rfl rfl ?_))
   obtain ⟨t127, h_t127, H⟩ := Option.bind_eq_some_iff.1 H
   refine Opl.callc (spec_l1In.ev h_t127) rfl rfl rfl rfl ⟨(.lit _), (.lit _), (.lit _), trivial⟩ (by decide) (Opl.p1 (n := Opl.p1 (n := Opl.nil ?_)))
   by_cases c5 : t127 = true
   case neg =>
    rw [if_neg c5] at H
    have e4 : (!t127) = true := by simpa using c5
    try rw [e4]
    refine Evr.condT rfl (Evr.sr rfl (Opl.one (v := .lit (.bool false)) rfl rfl rfl (Opl.nil ?_)))
    obtain rfl := Option.some.inj H
    refine Evr.ret1 Try.func40 rfl ?_
    show (.lit (.bool false) : PV) = _
    first | rfl | (simp only [go_sem]; rfl)
   rw [if_pos c5] at H
   have e3 : (!t127) = false := by simpa using c5
   try rw [e3]
   refine Evr.condF rfl (Evr.skip (Evr.inBlock (Evr.regionN rfl (Opl.one (v := .lit (.int .i64 x3_1)) rfl rfl rfl (Opl.add (k := .i64) (a := x3_1) (b := 1) K3 rfl rfl rfl rfl (Opl.one (v := .lit (.int .i64 (wrap64 (x3_1 + 1)))) rfl rfl rfl (Opl.nil ?_)))))))
   exact ih1 _ (by omega) _ _ ⟨by omega, _, _, H, ⟨rfl, rfl, trivial⟩, h3⟩
 ·
  refine Evr.regionN rfl (Opl.p1 (v := .ptr i1 0) (n := Opl.ldb (v := .lit (.int .i64 a0_0)) h1 rfl T3 rfl rfl rfl rfl ?_))
  obtain ⟨t123, h_t123, H⟩ := Option.bind_eq_some_iff.1 H
  refine Opl.callc (spec_l1In.ev h_t123) rfl rfl rfl rfl ⟨(.lit _), (.lit _), (.lit _), trivial⟩ (by decide) (Opl.p1 (n := Opl.p1 (n := ?_)))
  by_cases c6 : t123 = true
  case neg =>
   rw [if_neg c6] at H
   have e8 : (!t123) = true := by simpa using c6
   try rw [e8]
   refine Opl.skp rfl (Opl.skp rfl (Opl.skp rfl (Opl.skp rfl (Opl.p1 (n := Opl.nil ?_)))))
   exact hk1 _ _ ⟨_, _, _, H, ⟨rfl, (by first | rfl | (show PV.lit (.bool _) = _; congr 2; simp_all)), trivial⟩, h1⟩
  rw [if_pos c6] at H
  have e7 : (!t123) = false := by simpa using c6
  try rw [e7]
  refine Opl.p1 (v := .ptr i1 1) (n := Opl.ldb (v := v0_1) h1 rfl T33 rfl rfl rfl rfl (Opl.len (xs := l0_1) (by exact hv0_1) K33 rfl rfl rfl rfl (Opl.p1 (n := Opl.p1 (n := Opl.nil ?_)))))
  exact hk1 _ _ ⟨_, _, _, H, ⟨rfl, (by first | rfl | (show PV.lit (.bool _) = _; congr 2; simp_all)), trivial⟩, h1⟩
theorem spec_l7Nodes.ev {a0_0 : Int} {l0_1 : List IAnd} {v0_1 : PV} (hv0_1 : Sl cIAnd l0_1 v0_1) {r : Int} (H : spec_l7Nodes.f a0_0 l0_1 = some r) : Ret Try.prog 79 [.agg [.lit (.int .i64 a0_0), v0_1]] fun v S => v = .lit (.int .i64 r) := by
 unfold spec_l7Nodes.f at H
 refine Ret.intro Try.func79 rfl (Nat.le_of_ble_eq_true rfl) rfl ?_
 rw [tm1]
 refine Evr.sr rfl (Opl.box (cs := [.lit (.int .i64 a0_0), v0_1]) rfl rfl rfl rfl ?_)
 rintro i1 S h1 u1 w1
 refine Opl.p1 (n := Opl.nil (Evr.sr rfl (Opl.p1 (v := .ptr i1 0) (n := Opl.ldb (v := .lit (.int .i64 a0_0)) h1 rfl T3 rfl rfl rfl rfl (Opl.add (k := .i64) (a := 1) (b := a0_0) K3 rfl rfl rfl rfl (Opl.p1 (v := .ptr i1 1) (n := Opl.ldb (v := v0_1) h1 rfl T33 rfl rfl rfl rfl (Opl.len (xs := l0_1) (by exact hv0_1) K33 rfl rfl rfl rfl (Opl.add (k := .i64) (a := (wrap64 (1 + a0_0))) (b := (l0_1.length : Int)) K3 rfl rfl rfl rfl (Opl.one (v := .lit (.int .i64 (wrap64 ((wrap64 (1 + a0_0)) + (l0_1.length : Int))))) rfl rfl rfl (Opl.nil ?_)))))))))))
 obtain rfl := Option.some.inj H
 refine Evr.ret1 Try.func79 rfl ?_
 show (.lit (.int .i64 (wrap64 ((wrap64 (1 + a0_0)) + (l0_1.length : Int)))) : PV) = _
 first | rfl | (simp only [go_sem]; rfl)
theorem spec_l7Edge.ev {a0_0 : Int} {l0_1 : List IAnd} {v0_1 : PV} (hv0_1 : Sl cIAnd l0_1 v0_1) {a1 : Int} {r : Bool} (H : spec_l7Edge.f a0_0 l0_1 a1 = some r) : Ret Try.prog 41 [.agg [.lit (.int .i64 a0_0), v0_1], .lit (.int .i64 a1)] fun v S => v = .lit (.bool r) := by
 unfold spec_l7Edge.f at H
 refine Ret.intro Try.func41 rfl (Nat.le_of_ble_eq_true rfl) rfl ?_
 rw [tm2]
 refine Evr.sr rfl (Opl.box (cs := [.lit (.int .i64 a0_0), v0_1]) rfl rfl rfl rfl ?_)
 rintro i1 S h1 u1 w1
 refine Opl.p1 (n := Opl.nil (Evr.sr rfl (Opl.p1 (n := Opl.ldb (v := .agg [.lit (.int .i64 a0_0), v0_1]) h1 rfl T35 rfl rfl rfl rfl ?_))))
 obtain ⟨t130, h_t130, H⟩ := Option.bind_eq_some_iff.1 H
 refine Opl.callc (spec_l7Nodes.ev hv0_1 h_t130) rfl rfl rfl rfl ⟨(.aggL ⟨(.lit _), hv0_1.plain, trivial⟩), trivial⟩ (by decide) (Opl.mul (k := .i64) (a := 2) (b := t130) K3 rfl rfl rfl rfl (Opl.subi (k := .i64) (a := (wrap64 (2 * t130))) (b := 1) K3 rfl rfl rfl rfl ?_))
 obtain ⟨t131, h_t131, H⟩ := Option.bind_eq_some_iff.1 H
 refine Opl.callc (spec_l1In.ev h_t131) rfl rfl rfl rfl ⟨(.lit _), (.lit _), (.lit _), trivial⟩ (by decide) (Opl.one (v := .lit (.bool t131)) rfl rfl rfl (Opl.nil ?_))
 obtain rfl := Option.some.inj H
 refine Evr.ret1 Try.func41 rfl ?_
 show (.lit (.bool t131) : PV) = _
 first | rfl | (simp only [go_sem]; rfl)
theorem spec_l7Reach.ev {k : Nat} {a0_0 : Int} {l0_1 : List IAnd} {v0_1 : PV} (hv0_1 : Sl cIAnd l0_1 v0_1) {a1 : Int} {r : (List Bool)} (H : spec_l7Reach.f k a0_0 l0_1 a1 = some r) : Ret Try.prog 96 [.agg [.lit (.int .i64 a0_0), v0_1], .lit (.int .i64 a1)] fun v S => Vec cBool r v S := by
 unfold spec_l7Reach.f at H
 refine Ret.intro Try.func96 rfl (Nat.le_of_ble_eq_true rfl) rfl ?_
 rw [tm2]
 refine Evr.sr rfl (Opl.box (cs := [.lit (.int .i64 a0_0), v0_1]) rfl rfl rfl rfl ?_)
 rintro i1 S h1 u1 w1
 refine Opl.p1 (n := Opl.nil (Evr.sr rfl (Opl.ldb (v := .agg [.lit (.int .i64 a0_0), v0_1]) h1 rfl T35 rfl rfl rfl rfl ?_)))
 obtain ⟨t171, h_t171, H⟩ := Option.bind_eq_some_iff.1 H
 refine Opl.callc (spec_l7Nodes.ev hv0_1 h_t171) rfl rfl rfl rfl ⟨(.aggL ⟨(.lit _), hv0_1.plain, trivial⟩), trivial⟩ (by decide) ?_
 obtain ⟨c1, H⟩ := peel H
 obtain ⟨c2, H⟩ := peel H
 obtain ⟨y172, hy_, H⟩ := Option.bind_eq_some_iff.1 H
 obtain rfl := Option.some.inj hy_
 obtain ⟨c3, H⟩ := peel H
 obtain ⟨c4, H⟩ := peel H
 refine Opl.make (M := cBool) (m := t171) false (by exact rfl) rfl rfl K75 T4 rfl (by omega) (by show (t171).toNat * 1 ≤ 281474976710656; omega) (by omega) rfl rfl rfl ?_
 rintro pv1 S h2 u2 w2
 have ap1 := w2.box h1
 have h3 := u2.box h1 ap1
 refine Opl.p1 (n := Opl.nil (Evr.sr rfl (Opl.p1 (n := Opl.p1 (n := Opl.one (v := .lit (.int .i64 (wrap64 (Int.tdiv a1 2)))) rfl rfl (by simp only [go_sem]; rw [if_neg (by first | assumption | decide | omega)]; rfl) (Opl.idv (M := cBool) (xs := (List.replicate t171.toNat false)) (j := (wrap64 (Int.tdiv a1 2))) (v := pv1) h2 rfl rfl (by first | omega | (simp only [List.length_set] at *; omega)) (by first | omega | (simp only [List.length_set] at *; omega)) K75 Z4 rfl rfl ?_))))))
 rintro d1 z1 q1 h4 h5
 refine Opl.stv (M := cBool) (xs := (List.replicate t171.toNat false)) (j := (wrap64 (Int.tdiv a1 2))) (y := true) (vs := [.lit (.bool true)]) h4 h5 (by first | omega | (simp only [List.length_set] at *; omega)) (by first | omega | (simp only [List.length_set] at *; omega)) rfl rfl (by exact rfl) Z4 rfl rfl rfl rfl ?_
 rw [← q1]
 rintro S h6 u3
 have h7 := u3.box h3 ap1
 refine Opl.nil (Evr.seq (Evr.sr rfl (Opl.p1 (v := .ptr i1 1) (n := Opl.ldb (v := v0_1) h7 rfl T33 rfl rfl rfl rfl (Opl.len (xs := l0_1) (by exact hv0_1) K33 rfl rfl rfl rfl (Opl.subi (k := .i64) (a := (l0_1.length : Int)) (b := 1) K3 rfl rfl rfl rfl (Opl.one (v := .lit (.int .i64 (wrap64 ((l0_1.length : Int) - 1)))) rfl rfl rfl (Opl.nil (Evr.block ?_)))))))))
 refine Evr.loop (Evr.rounds (n := k) (Inv := fun n tm S => n ≤ k ∧ ∃ (x5_1 : List Bool) (x6_1 : Int) (i2 : Abs.Id) (pv2 : PV), spec_l7Reach.l0 n x5_1 x6_1 a0_0 l0_1 = some r ∧ Has tm [(2, .ptr i2 0), (5, pv2), (6, .lit (.int .i64 x6_1))] ∧ Box (.ptr i2 0) [.lit (.int .i64 a0_0), v0_1] S ∧ Vec cBool x5_1 pv2 S ∧ Ap (.ptr i2 0) pv2) ?_ ?_ ?_)
 · exact ⟨Nat.le_refl _, _, _, _, _, H, ⟨rfl, rfl, rfl, trivial⟩, h7, h6, ap1⟩
 ·
  rintro tm S ⟨_, _, _, _, _, H, -⟩
  simp [spec_l7Reach.l0] at H
 ·
  rintro n1 ih1 tm S ⟨hle, x5_1, x6_1, i2, pv2, H, hh, h8, h9, ap2⟩
  simp only [spec_l7Reach.l0] at H
  rw [hh.eq]
  refine Evr.seq (Evr.sr rfl (Opl.p1 (n := Opl.p1 (n := Opl.nil ?_))))
  by_cases c5 : x6_1 ≥ 0
  case neg =>
   rw [if_neg c5] at H
   have e4 : (decide (x6_1 ≥ 0)) = false := by simpa using c5
   try rw [e4]
   refine Evr.condF rfl (Evr.exit rfl (Evr.sr rfl (Opl.p1 (n := Opl.p1 (n := Opl.nil ?_)))))
   obtain rfl := Option.some.inj H
   refine Evr.ret1 Try.func96 rfl ?_
   show Vec _ _ pv2 _
   exact h9
  rw [if_pos c5] at H
  have e1 : (decide (x6_1 ≥ 0)) = true := by simpa using c5
  try rw [e1]
  refine Evr.condT rfl (Evr.skip (Evr.seq (Evr.block (Evr.sr rfl (Opl.p1 (n := Opl.p1 (v := .ptr i2 0) (n := Opl.ldb (v := .lit (.int .i64 a0_0)) h8 rfl T3 rfl rfl rfl rfl (Opl.add (k := .i64) (a := 1) (b := a0_0) K3 rfl rfl rfl rfl (Opl.one (v := .lit (.int .i64 x6_1)) rfl rfl rfl (Opl.add (k := .i64) (a := (wrap64 (1 + a0_0))) (b := x6_1) K3 rfl rfl rfl rfl ?_))))))))))
  obtain ⟨c6, H⟩ := peel H
  obtain ⟨c7, H⟩ := peel H
  refine Opl.idv (M := cBool) (xs := x5_1) (j := (wrap64 ((wrap64 (1 + a0_0)) + x6_1))) (v := pv2) h9 rfl rfl (by first | omega | (simp only [List.length_set] at *; omega)) (by first | omega | (simp only [List.length_set] at *; omega)) K75 Z4 rfl rfl ?_
  rintro d2 z2 q2 h10 h11
  refine Opl.ldv (M := cBool) (xs := x5_1) (j := (wrap64 ((wrap64 (1 + a0_0)) + x6_1))) false h10 h11 (by first | omega | (simp only [List.length_set] at *; omega)) (by first | omega | (simp only [List.length_set] at *; omega)) rfl T4 rfl rfl rfl ?_
  rintro p1 q3 h12
  obtain rfl : p1 = [.lit (.bool (rdOf false x5_1 (wrap64 ((wrap64 (1 + a0_0)) + x6_1))))] := h12
  refine ⟨.lit (.bool (rdOf false x5_1 (wrap64 ((wrap64 (1 + a0_0)) + x6_1)))), rfl, ?_⟩
  refine Opl.nil ?_
  refine Evr.join (fun tm S => ∃ (kq1 : Nat) (x5_2 : List Bool) (i3 : Abs.Id) (pv3 : PV), spec_l7Reach.l0 kq1 x5_2 (wrap64 (x6_1 - 1)) a0_0 l0_1 = some r ∧ kq1 ≤ n1 ∧ Has tm [(2, .ptr i3 0), (5, pv3), (6, .lit (.int .i64 x6_1))] ∧ Box (.ptr i3 0) [.lit (.int .i64 a0_0), v0_1] S ∧ Vec cBool x5_2 pv3 S ∧ Ap (.ptr i3 0) pv3) ?_ fun hk1 => ?_
  ·
   rintro tm S ⟨kq1, x5_2, i3, pv3, H, hle, hh, h13, h14, ap3⟩
   rw [hh.eq]
   refine Evr.inBlock (Evr.regionN rfl (Opl.p1 (n := Opl.subi (k := .i64) (a := x6_1) (b := 1) K3 rfl rfl rfl rfl (Opl.one (v := .lit (.int .i64 (wrap64 (x6_1 - 1)))) rfl rfl rfl (Opl.nil ?_)))))
   exact ih1 _ (by omega) _ _ ⟨by omega, _, _, _, _, H, ⟨rfl, rfl, rfl, trivial⟩, h13, h14, ap3⟩
  ·
   by_cases c8 : rdOf false x5_1 (wrap64 ((wrap64 (1 + a0_0)) + x6_1)) = true
   case neg =>
    rw [if_neg c8] at H
    have e3 : (rdOf false x5_1 (wrap64 ((wrap64 (1 + a0_0)) + x6_1))) = false := by simpa using c8
    try rw [e3]
    refine Evr.condF rfl (Evr.skip ?_)
    exact hk1 _ _ ⟨_, _, _, _, H, by omega, ⟨rfl, rfl, rfl, trivial⟩, h8, h9, ap2⟩
   rw [if_pos c8] at H
   have e2 : (rdOf false x5_1 (wrap64 ((wrap64 (1 + a0_0)) + x6_1))) = true := by simpa using c8
   try rw [e2]
   refine Evr.condT rfl (Evr.sr rfl (Opl.one (v := pv2) rfl rfl rfl (Opl.p1 (v := .ptr i2 1) (n := Opl.ldb (v := v0_1) h8 rfl T33 rfl rfl rfl rfl (Opl.one (v := .lit (.int .i64 x6_1)) rfl rfl rfl ?_)))))
   obtain ⟨c9, H⟩ := peel H
   obtain ⟨c10, H⟩ := peel H
   obtain ⟨c11, H⟩ := peel H
   obtain ⟨c12, H⟩ := peel H
   obtain ⟨c13, H⟩ := peel H
   obtain ⟨c14, H⟩ := peel H
   refine Opl.idx (M := cIAnd) (xs := l0_1) (j := x6_1) zIAnd (by exact hv0_1) rfl (by first | omega | (simp only [List.length_set] at *; omega)) (by first | omega | (simp only [List.length_set] at *; omega)) K33 Z96 rfl rfl ?_
   rintro p2 q4 h15
   obtain rfl := cIAnd_R (x := (rd_IAnd l0_1 x6_1)) h15
   refine Opl.p1 (v := .fel ((.lit (.int .i64 ((rd_IAnd l0_1 x6_1).f0))) :: (.lit (.int .i64 ((rd_IAnd l0_1 x6_1).f1))) :: q4)) (n := Opl.lda (.lit (.int .i64 ((rd_IAnd l0_1 x6_1).f0))) rfl T3 rfl rfl rfl rfl (Opl.one (v := .lit (.int .i64 (wrap64 (Int.tdiv ((rd_IAnd l0_1 x6_1).f0) 2)))) rfl rfl (by simp only [go_sem]; rw [if_neg (by first | assumption | decide | omega)]; rfl) (Opl.idv (M := cBool) (xs := x5_1) (j := (wrap64 (Int.tdiv ((rd_IAnd l0_1 x6_1).f0) 2))) (v := pv2) h9 rfl rfl (by first | omega | (simp only [List.length_set] at *; omega)) (by first | omega | (simp only [List.length_set] at *; omega)) K75 Z4 rfl rfl ?_)))
   rintro d3 z3 q5 h16 h17
   refine Opl.stv (M := cBool) (xs := x5_1) (j := (wrap64 (Int.tdiv ((rd_IAnd l0_1 x6_1).f0) 2))) (y := true) (vs := [.lit (.bool true)]) h16 h17 (by first | omega | (simp only [List.length_set] at *; omega)) (by first | omega | (simp only [List.length_set] at *; omega)) rfl rfl (by exact rfl) Z4 rfl rfl rfl rfl ?_
   rw [← q5]
   rintro S h18 u4
   have h19 := u4.box h8 ap2
   refine Opl.nil (Evr.regionN rfl (Opl.one (v := pv2) rfl rfl rfl (Opl.p1 (v := .ptr i2 1) (n := Opl.ldb (v := v0_1) h19 rfl T33 rfl rfl rfl rfl (Opl.one (v := .lit (.int .i64 x6_1)) rfl rfl rfl (Opl.idx (M := cIAnd) (xs := l0_1) (j := x6_1) zIAnd (by exact hv0_1) rfl (by first | omega | (simp only [List.length_set] at *; omega)) (by first | omega | (simp only [List.length_set] at *; omega)) K33 Z96 rfl rfl ?_))))))
   rintro p3 q6 h20
   obtain rfl := cIAnd_R (x := (rd_IAnd l0_1 x6_1)) h20
   refine Opl.p1 (v := .fel ((.lit (.int .i64 ((rd_IAnd l0_1 x6_1).f1))) :: q6)) (n := Opl.lda (.lit (.int .i64 ((rd_IAnd l0_1 x6_1).f1))) rfl T3 rfl rfl rfl rfl (Opl.one (v := .lit (.int .i64 (wrap64 (Int.tdiv ((rd_IAnd l0_1 x6_1).f1) 2)))) rfl rfl (by simp only [go_sem]; rw [if_neg (by first | assumption | decide | omega)]; rfl) (Opl.idv (M := cBool) (xs := (x5_1.set (wrap64 (Int.tdiv ((rd_IAnd l0_1 x6_1).f0) 2)).toNat true)) (j := (wrap64 (Int.tdiv ((rd_IAnd l0_1 x6_1).f1) 2))) (v := pv2) h18 rfl rfl (by first | omega | (simp only [List.length_set] at *; omega)) (by first | omega | (simp only [List.length_set] at *; omega)) K75 Z4 rfl rfl ?_)))
   rintro d4 z4 q7 h21 h22
   refine Opl.stv (M := cBool) (xs := (x5_1.set (wrap64 (Int.tdiv ((rd_IAnd l0_1 x6_1).f0) 2)).toNat true)) (j := (wrap64 (Int.tdiv ((rd_IAnd l0_1 x6_1).f1) 2))) (y := true) (vs := [.lit (.bool true)]) h21 h22 (by first | omega | (simp only [List.length_set] at *; omega)) (by first | omega | (simp only [List.length_set] at *; omega)) rfl rfl (by exact rfl) Z4 rfl rfl rfl rfl ?_
   rw [← q7]
   rintro S h23 u5
   have h24 := u5.box h19 ap2
   refine Opl.nil ?_
   exact hk1 _ _ ⟨_, _, _, _, H, by omega, ⟨rfl, rfl, rfl, trivial⟩, h24, h23, ap2⟩
theorem spec_NeedsInputs.ev {k : Nat} {a0_0 : Int} {l0_1 : List IAnd} {v0_1 : PV} (hv0_1 : Sl cIAnd l0_1 v0_1) {a1 : Int} {r : (List Int)} (H : spec_NeedsInputs.f k a0_0 l0_1 a1 = some r) : Ret Try.prog 43 [.agg [.lit (.int .i64 a0_0), v0_1], .lit (.int .i64 a1)] fun v S => Vec (cInt .i64) r v S := by
 unfold spec_NeedsInputs.f at H
 refine Ret.intro Try.func43 rfl (Nat.le_of_ble_eq_true rfl) rfl ?_
 rw [tm2]
 refine Evr.sr rfl (Opl.box (cs := [.lit (.int .i64 a0_0), v0_1]) rfl rfl rfl rfl ?_)
 rintro i1 S h1 u1 w1
 refine Opl.p1 (n := Opl.nil (Evr.sr rfl (Opl.lits (M := (cInt .i64)) (ys := []) [] K41 T3 rfl rfl rfl trivial rfl (by decide) rfl rfl rfl ?_)))
 rintro pv1 S h2 u2 w2
 have ap1 := w2.box h1
 have h3 := u2.box h1 ap1
 refine Opl.p1 (n := Opl.nil (Evr.seq (Evr.seq ?_)))
 refine Evr.join (fun tm S => ∃ (kq1 : Nat) (x17_1 : Bool) (i2 : Abs.Id) (pv2 : PV), spec_NeedsInputs.j0 kq1 a1 (([] : List Int) : List Int) x17_1 a0_0 l0_1 = some r ∧ Has tm [(1, .lit (.int .i64 a1)), (2, .ptr i2 0), (5, pv2), (17, .lit (.bool x17_1))] ∧ Box (.ptr i2 0) [.lit (.int .i64 a0_0), v0_1] S ∧ Vec (cInt .i64) ([] : List Int) pv2 S ∧ Ap (.ptr i2 0) pv2) ?_ fun hk1 => ?_
 ·
  rintro tm S ⟨kq1, x17_1, i2, pv2, H, hh, h4, h5, ap2⟩
  rw [hh.eq]
  obtain _ | k1 := kq1
  · simp [spec_NeedsInputs.j0] at H
  simp only [spec_NeedsInputs.j0] at H
  by_cases c1 : x17_1 = true
  case pos =>
   rw [if_pos c1] at H
   obtain rfl : x17_1 = true := by simpa using c1
   refine Evr.condT rfl (Evr.sr rfl (Opl.p1 (n := Opl.p1 (n := Opl.nil ?_))))
   obtain rfl := Option.some.inj H
   refine Evr.ret1 Try.func43 rfl ?_
   show Vec _ _ pv2 _
   exact h5
  rw [if_neg c1] at H
  obtain rfl : x17_1 = false := by simpa using c1
  refine Evr.condF rfl (Evr.skip (Evr.sr rfl (Opl.ldb (v := .agg [.lit (.int .i64 a0_0), v0_1]) h4 rfl T35 rfl rfl rfl rfl (Opl.p1 (n := ?_)))))
  obtain ⟨t187, h_t187, H⟩ := Option.bind_eq_some_iff.1 H
  refine Opl.call ((spec_l7Reach.ev hv0_1 h_t187).mono fun _ _ h => Out.vec h) rfl rfl rfl rfl ⟨(.aggL ⟨(.lit _), hv0_1.plain, trivial⟩), (.lit _), trivial⟩ (by decide) ?_
  rintro pv3 h6
  refine Opl.p1 (n := Opl.nil (Evr.seq (Evr.sr rfl (Opl.p1 (n := Opl.nil (Evr.block ?_))))))
  refine Evr.loop (Evr.rounds (n := k1) (Inv := fun n tm S => n ≤ k1 ∧ ∃ (x5_1 : List Int) (x7_1 : Int) (i3 : Abs.Id) (pv4 : PV), spec_NeedsInputs.l0 n x5_1 t187 x7_1 a0_0 l0_1 = some r ∧ Has tm [(2, .ptr i3 0), (5, pv4), (6, pv3), (7, .lit (.int .i64 x7_1))] ∧ Box (.ptr i3 0) [.lit (.int .i64 a0_0), v0_1] S ∧ Vec (cInt .i64) x5_1 pv4 S ∧ Ap (.ptr i3 0) pv4) ?_ ?_ ?_)
  · exact ⟨Nat.le_refl _, _, _, _, _, H, ⟨rfl, rfl, rfl, rfl, trivial⟩, h4, h5, ap2⟩
  ·
   rintro tm S ⟨_, _, _, _, _, H, -⟩
   simp [spec_NeedsInputs.l0] at H
  ·
   rintro n1 ih1 tm S ⟨hle, x5_1, x7_1, i3, pv4, H, hh, h7, h8, ap3⟩
   simp only [spec_NeedsInputs.l0] at H
   rw [hh.eq]
   refine Evr.seq (Evr.sr rfl (Opl.p1 (n := Opl.p1 (v := .ptr i3 0) (n := Opl.ldb (v := .lit (.int .i64 a0_0)) h7 rfl T3 rfl rfl rfl rfl (Opl.p1 (n := Opl.nil ?_))))))
   by_cases c2 : x7_1 < a0_0
   case neg =>
    rw [if_neg c2] at H
    have e4 : (decide (x7_1 < a0_0)) = false := by simpa using c2
    try rw [e4]
    refine Evr.condF rfl (Evr.exit rfl (Evr.sr rfl (Opl.p1 (n := Opl.p1 (n := Opl.nil ?_)))))
    obtain rfl := Option.some.inj H
    refine Evr.ret1 Try.func43 rfl ?_
    show Vec _ _ pv4 _
    exact h8
   rw [if_pos c2] at H
   have e1 : (decide (x7_1 < a0_0)) = true := by simpa using c2
   try rw [e1]
   refine Evr.condT rfl (Evr.skip (Evr.seq (Evr.block (Evr.sr rfl (Opl.p1 (n := Opl.p1 (n := Opl.add (k := .i64) (a := 1) (b := x7_1) K3 rfl rfl rfl rfl ?_)))))))
   obtain ⟨c3, H⟩ := peel H
   obtain ⟨c4, H⟩ := peel H
   refine Opl.idx (M := cBool) (xs := t187) (j := (wrap64 (1 + x7_1))) false (by exact h6) rfl (by omega) (by omega) K75 Z4 rfl rfl ?_
   rintro p1 q1 h9
   obtain rfl : p1 = [.lit (.bool (rdOf false t187 (wrap64 (1 + x7_1))))] := h9
   refine Opl.lda (.lit (.bool (rdOf false t187 (wrap64 (1 + x7_1))))) rfl T4 rfl rfl rfl rfl (Opl.nil ?_)
   refine Evr.join (fun tm S => ∃ (kq2 : Nat) (x5_2 : List Int) (i4 : Abs.Id) (pv5 : PV), spec_NeedsInputs.l0 kq2 x5_2 t187 (wrap64 (x7_1 + 1)) a0_0 l0_1 = some r ∧ kq2 ≤ n1 ∧ Has tm [(2, .ptr i4 0), (5, pv5), (6, pv3), (7, .lit (.int .i64 x7_1))] ∧ Box (.ptr i4 0) [.lit (.int .i64 a0_0), v0_1] S ∧ Vec (cInt .i64) x5_2 pv5 S ∧ Ap (.ptr i4 0) pv5) ?_ fun hk2 => ?_
   ·
    rintro tm S ⟨kq2, x5_2, i4, pv5, H, hle, hh, h10, h11, ap4⟩
    rw [hh.eq]
    refine Evr.inBlock (Evr.regionN rfl (Opl.p1 (n := Opl.add (k := .i64) (a := x7_1) (b := 1) K3 rfl rfl rfl rfl (Opl.one (v := .lit (.int .i64 (wrap64 (x7_1 + 1)))) rfl rfl rfl (Opl.nil ?_)))))
    exact ih1 _ (by omega) _ _ ⟨by omega, _, _, _, _, H, ⟨rfl, rfl, rfl, rfl, trivial⟩, h10, h11, ap4⟩
   ·
    by_cases c5 : rdOf false t187 (wrap64 (1 + x7_1)) = true
    case neg =>
     rw [if_neg c5] at H
     have e3 : (rdOf false t187 (wrap64 (1 + x7_1))) = false := by simpa using c5
     try rw [e3]
     refine Evr.condF rfl (Evr.skip ?_)
     exact hk2 _ _ ⟨_, _, _, _, H, by omega, ⟨rfl, rfl, rfl, rfl, trivial⟩, h7, h8, ap3⟩
    rw [if_pos c5] at H
    have e2 : (rdOf false t187 (wrap64 (1 + x7_1))) = true := by simpa using c5
    try rw [e2]
    refine Evr.condT rfl (Evr.regionN rfl (Opl.one (v := pv4) rfl rfl rfl (Opl.one (v := .lit (.int .i64 x7_1)) rfl rfl rfl (Opl.lits (M := (cInt .i64)) (ys := [x7_1]) [.tmp 34] K41 T3 rfl rfl rfl (by exact ⟨rfl, trivial⟩) rfl (by decide) rfl rfl rfl ?_))))
    rintro pv6 S h12 u3 w3
    have ap5 := w3.box h7
    have h13 := u3.box h7 ap5
    have ap6 := w3.vec h8
    have h14 := u3.vec h8 ap6
    obtain ⟨c6, H⟩ := peel H
    refine Opl.app (M := (cInt .i64)) (xs := x5_1) (ys := [x7_1]) (v := pv4) h14 (.vec h12) (oInt .i64) rfl rfl K41 T3 rfl rfl (by (try simp only [List.length_cons, List.length_nil]); omega) (by show (_ + _) * 8 ≤ 140737488355328; (try simp only [List.length_cons, List.length_nil]); omega) rfl rfl rfl rfl rfl ?_
    rintro pv7 S h15 u4 w4
    have ap7 := w4.box h13
    have h16 := u4.box h13 ap3
    have ap8 := w4.vec h12
    have h17 := u4.vec h12 ap6.symm
    refine Opl.one (v := pv7) rfl rfl rfl (Opl.nil ?_)
    exact hk2 _ _ ⟨_, _, _, _, H, by omega, ⟨rfl, rfl, rfl, rfl, trivial⟩, h16, h15, ap7⟩
 ·
  refine Evr.regionN rfl (Opl.ldb (v := .agg [.lit (.int .i64 a0_0), v0_1]) h3 rfl T35 rfl rfl rfl rfl ?_)
  obtain ⟨y182, hy_, H⟩ := Option.bind_eq_some_iff.1 H
  obtain rfl := Option.some.inj hy_
  obtain ⟨t185, h_t185, H⟩ := Option.bind_eq_some_iff.1 H
  refine Opl.callc (spec_CircuitValid.ev hv0_1 h_t185) rfl rfl rfl rfl ⟨(.aggL ⟨(.lit _), hv0_1.plain, trivial⟩), trivial⟩ (by decide) (Opl.p1 (n := Opl.p1 (n := ?_)))
  by_cases c7 : t185 = true
  case neg =>
   rw [if_neg c7] at H
   have e6 : (!t185) = true := by simpa using c7
   try rw [e6]
   refine Opl.skp rfl (Opl.skp rfl (Opl.skp rfl (Opl.skp rfl (Opl.p1 (n := Opl.nil ?_)))))
   exact hk1 _ _ ⟨_, _, _, _, H, ⟨rfl, rfl, rfl, (by first | rfl | (show PV.lit (.bool _) = _; congr 2; simp_all)), trivial⟩, h3, h2, ap1⟩
  rw [if_pos c7] at H
  have e5 : (!t185) = false := by simpa using c7
  try rw [e5]
  refine Opl.ldb (v := .agg [.lit (.int .i64 a0_0), v0_1]) h3 rfl T35 rfl rfl rfl rfl (Opl.p1 (n := ?_))
  obtain ⟨t186, h_t186, H⟩ := Option.bind_eq_some_iff.1 H
  refine Opl.callc (spec_l7Edge.ev hv0_1 h_t186) rfl rfl rfl rfl ⟨(.aggL ⟨(.lit _), hv0_1.plain, trivial⟩), (.lit _), trivial⟩ (by decide) (Opl.p1 (n := Opl.p1 (n := Opl.nil ?_)))
  exact hk1 _ _ ⟨_, _, _, _, H, ⟨rfl, rfl, rfl, (by first | rfl | (show PV.lit (.bool _) = _; congr 2; simp_all)), trivial⟩, h3, h2, ap1⟩
theorem spec_l11Abs.ev {a0 : Int} {r : Int} (H : spec_l11Abs.f a0 = some r) : Ret Try.prog 77 [.lit (.int .i64 a0)] fun v S => v = .lit (.int .i64 r) := by
 unfold spec_l11Abs.f at H
 refine Ret.intro Try.func77 rfl (Nat.le_of_ble_eq_true rfl) rfl ?_
 rw [tm1]
 refine Evr.sr rfl (Opl.p1 (n := Opl.nil (Evr.seq (Evr.sr rfl (Opl.p1 (n := Opl.p1 (n := Opl.nil ?_)))))))
 by_cases c1 : a0 < 0
 case neg =>
  rw [if_neg c1] at H
  have e2 : (decide (a0 < 0)) = false := by simpa using c1
  try rw [e2]
  refine Evr.condF rfl (Evr.skip (Evr.sr rfl (Opl.p1 (n := Opl.p1 (n := Opl.nil ?_)))))
  obtain rfl := Option.some.inj H
  refine Evr.ret1 Try.func77 rfl ?_
  show (.lit (.int .i64 a0) : PV) = _
  first | rfl | (simp only [go_sem]; rfl)
 rw [if_pos c1] at H
 have e1 : (decide (a0 < 0)) = true := by simpa using c1
 try rw [e1]
 refine Evr.condT rfl (Evr.sr rfl (Opl.p1 (n := Opl.one (v := .lit (.int .i64 (wrap64 (-a0)))) rfl rfl (by simp only [go_sem, Int.zero_sub, w64]; rfl) (Opl.one (v := .lit (.int .i64 (wrap64 (-a0)))) rfl rfl rfl (Opl.nil ?_)))))
 obtain rfl := Option.some.inj H
 refine Evr.ret1 Try.func77 rfl ?_
 show (.lit (.int .i64 (wrap64 (-a0))) : PV) = _
 first | rfl | (simp only [go_sem]; rfl)
theorem spec_l11Lit.ev {a0 : Int} {a1 : Int} {r : Bool} (H : spec_l11Lit.f a0 a1 = some r) : Ret Try.prog 70 [.lit (.int .i64 a0), .lit (.int .i64 a1)] fun v S => v = .lit (.bool r) := by
 unfold spec_l11Lit.f at H
 refine Ret.intro Try.func70 rfl (Nat.le_of_ble_eq_true rfl) rfl ?_
 rw [tm2]
 refine Evr.sr rfl (Opl.p1 (n := Opl.nil (Evr.sr rfl (Opl.p1 (n := Opl.p1 (n := Opl.p1 (n := ?_)))))))
 by_cases c1 : a0 = 0
 case pos =>
  rw [if_pos c1] at H
  have e1 : (a0 != 0) = false := by simpa using c1
  try rw [e1]
  refine Opl.skp rfl (Opl.skp rfl (Opl.skp rfl (Opl.skp rfl (Opl.skp rfl (Opl.p1 (n := Opl.p1 (n := Opl.nil ?_)))))))
  obtain rfl := Option.some.inj H
  refine Evr.ret1 Try.func70 rfl ?_
  show (.lit (.bool false) : PV) = _
  first | rfl | (simp only [go_sem]; rfl)
 rw [if_neg c1] at H
 have e2 : (a0 != 0) = true := by simpa using c1
 try rw [e2]
 refine Opl.p1 (n := Opl.p1 (n := Opl.one (v := .lit (.int .i64 (wrap64 (-a1)))) rfl rfl (by simp only [go_sem, Int.zero_sub, w64]; rfl) (Opl.one (v := .lit (.int .i64 a1)) rfl rfl rfl ?_)))
 obtain ⟨t107, h_t107, H⟩ := Option.bind_eq_some_iff.1 H
 refine Opl.callc (spec_l1In.ev h_t107) rfl rfl rfl rfl ⟨(.lit _), (.lit _), (.lit _), trivial⟩ (by decide) (Opl.p1 (n := Opl.one (v := .lit (.bool t107)) rfl rfl rfl (Opl.nil ?_)))
 obtain rfl := Option.some.inj H
 refine Evr.ret1 Try.func70 rfl ?_
 show (.lit (.bool t107) : PV) = _
 first | rfl | (simp only [go_sem]; rfl)
theorem spec_ClauseValid.ev {k : Nat} {l0 : List Int} {v0 : PV} (hv0 : Sl (cInt .i64) l0 v0) {a1 : Int} {r : Bool} (H : spec_ClauseValid.f k l0 a1 = some r) : Ret Try.prog 25 [v0, .lit (.int .i64 a1)] fun v S => v = .lit (.bool r) := by
 unfold spec_ClauseValid.f at H
 refine Ret.intro Try.func25 rfl (Nat.le_of_ble_eq_true rfl) rfl ?_
 rw [tm2]
 refine Evr.sr rfl (Opl.p1 (n := Opl.nil (Evr.seq (Evr.sr rfl (Opl.p1 (n := Opl.nil (Evr.block ?_)))))))
 refine Evr.loop (Evr.rounds (n := k) (Inv := fun n tm S => n ≤ k ∧ ∃ (x5_1 : Int), spec_ClauseValid.l0 n l0 a1 x5_1 = some r ∧ Has tm [(0, v0), (1, .lit (.int .i64 a1)), (5, .lit (.int .i64 x5_1))]) ?_ ?_ ?_)
 · exact ⟨Nat.le_refl _, _, H, ⟨rfl, rfl, rfl, trivial⟩⟩
 ·
  rintro tm S ⟨_, _, H, -⟩
  simp [spec_ClauseValid.l0] at H
 ·
  rintro n1 ih1 tm S ⟨hle, x5_1, H, hh⟩
  simp only [spec_ClauseValid.l0] at H
  rw [hh.eq]
  refine Evr.seq (Evr.sr rfl (Opl.p1 (n := Opl.p1 (n := Opl.len (xs := l0) (by exact hv0) K41 rfl rfl rfl rfl (Opl.p1 (n := Opl.nil ?_))))))
  by_cases c1 : x5_1 < (l0.length : Int)
  case neg =>
   rw [if_neg c1] at H
   have e6 : (decide (x5_1 < (l0.length : Int))) = false := by simpa using c1
   try rw [e6]
   refine Evr.condF rfl (Evr.exit rfl (Evr.sr rfl (Opl.p1 (n := ?_))))
   obtain ⟨t114, h_t114, H⟩ := Option.bind_eq_some_iff.1 H
   refine Opl.callc (spec_l1In.ev h_t114) rfl rfl rfl rfl ⟨(.lit _), (.lit _), (.lit _), trivial⟩ (by decide) (Opl.p1 (n := Opl.nil ?_))
   obtain rfl := Option.some.inj H
   refine Evr.ret1 Try.func25 rfl ?_
   show (.lit (.bool t114) : PV) = _
   first | rfl | (simp only [go_sem]; rfl)
  rw [if_pos c1] at H
  have e1 : (decide (x5_1 < (l0.length : Int))) = true := by simpa using c1
  try rw [e1]
  refine Evr.condT rfl (Evr.skip (Evr.seq (Evr.block (Evr.seq ?_))))
  refine Evr.join (fun tm S => ∃ (kq1 : Nat) (x36_1 : Bool), spec_ClauseValid.j1 kq1 l0 a1 x5_1 x36_1 = some r ∧ kq1 ≤ n1 ∧ Has tm [(0, v0), (1, .lit (.int .i64 a1)), (5, .lit (.int .i64 x5_1)), (36, .lit (.bool x36_1))]) ?_ fun hk1 => ?_
  ·
   rintro tm S ⟨kq1, x36_1, H, hle, hh⟩
   rw [hh.eq]
   obtain _ | k1 := kq1
   · simp [spec_ClauseValid.j1] at H
   simp only [spec_ClauseValid.j1] at H
   by_cases c2 : x36_1 = true
   case pos =>
    rw [if_pos c2] at H
    obtain rfl : x36_1 = true := by simpa using c2
    refine Evr.condT rfl (Evr.sr rfl (Opl.p1 (n := Opl.nil ?_)))
    obtain rfl := Option.some.inj H
    refine Evr.ret1 Try.func25 rfl ?_
    show (.lit (.bool false) : PV) = _
    first | rfl | (simp only [go_sem]; rfl)
   rw [if_neg c2] at H
   obtain rfl : x36_1 = false := by simpa using c2
   refine Evr.condF rfl (Evr.skip (Evr.inBlock (Evr.regionN rfl (Opl.p1 (n := Opl.add (k := .i64) (a := x5_1) (b := 1) K3 rfl rfl rfl rfl (Opl.one (v := .lit (.int .i64 (wrap64 (x5_1 + 1)))) rfl rfl rfl (Opl.nil ?_)))))))
   exact ih1 _ (by omega) _ _ ⟨by omega, _, H, ⟨rfl, rfl, rfl, trivial⟩⟩
  ·
   refine Evr.regionD rfl (by kernel_rfl) (Opl.p1 (n := Opl.p1 (n := ?_)))
   obtain ⟨c3, H⟩ := peel H
   refine Opl.idx (M := (cInt .i64)) (xs := l0) (j := x5_1) (0 : Int) (by exact hv0) rfl (by omega) (by omega) K41 Z3 rfl rfl ?_
   rintro p1 q1 h1
   obtain rfl : p1 = [.lit (.int .i64 (rd l0 x5_1))] := h1
   refine Opl.lda (.lit (.int .i64 (rd l0 x5_1))) rfl T3 rfl rfl rfl rfl (Opl.p1 (n := ?_))
   obtain ⟨t109, h_t109, H⟩ := Option.bind_eq_some_iff.1 H
   refine Opl.callc (spec_l11Lit.ev h_t109) rfl rfl rfl rfl ⟨(.lit _), (.lit _), trivial⟩ (by decide) (Opl.p1 (n := Opl.p1 (n := ?_)))
   by_cases c4 : t109 = true
   case neg =>
    rw [if_neg c4] at H
    have e5 : (!t109) = true := by simpa using c4
    try rw [e5]
    refine Opl.skp rfl (Opl.skp rfl (Opl.skp rfl (Opl.skp rfl (Opl.skp rfl (Opl.skp rfl (Opl.skp rfl (Opl.skp rfl (Opl.skp rfl (Opl.skp rfl (Opl.skp rfl (Opl.skp rfl (Opl.skp rfl (Opl.skp rfl (Opl.skp rfl (Opl.skp rfl (Opl.p1 (n := Opl.nil ?_)))))))))))))))))
    exact hk1 _ _ ⟨_, _, H, by omega, ⟨rfl, rfl, rfl, (by first | rfl | (show PV.lit (.bool _) = _; congr 2; simp_all)), trivial⟩⟩
   rw [if_pos c4] at H
   have e2 : (!t109) = false := by simpa using c4
   try rw [e2]
   refine Opl.p1 (n := Opl.p1 (n := Opl.p1 (n := ?_)))
   by_cases c5 : x5_1 > 0
   case neg =>
    rw [if_neg c5] at H
    have e4 : (decide (x5_1 > 0)) = false := by simpa using c5
    try rw [e4]
    refine Opl.skp rfl (Opl.skp rfl (Opl.skp rfl (Opl.skp rfl (Opl.skp rfl (Opl.skp rfl (Opl.skp rfl (Opl.skp rfl (Opl.skp rfl (Opl.skp rfl (Opl.skp rfl (Opl.skp rfl (Opl.p1 (n := Opl.p1 (n := Opl.nil ?_))))))))))))))
    exact hk1 _ _ ⟨_, _, H, by omega, ⟨rfl, rfl, rfl, (by first | rfl | (show PV.lit (.bool _) = _; congr 2; simp_all)), trivial⟩⟩
   rw [if_pos c5] at H
   have e3 : (decide (x5_1 > 0)) = true := by simpa using c5
   try rw [e3]
   refine Opl.p1 (n := Opl.p1 (n := Opl.idx (M := (cInt .i64)) (xs := l0) (j := x5_1) (0 : Int) (by exact hv0) rfl (by omega) (by omega) K41 Z3 rfl rfl ?_))
   rintro p2 q2 h2
   obtain rfl : p2 = [.lit (.int .i64 (rd l0 x5_1))] := h2
   refine Opl.lda (.lit (.int .i64 (rd l0 x5_1))) rfl T3 rfl rfl rfl rfl ?_
   obtain ⟨t111, h_t111, H⟩ := Option.bind_eq_some_iff.1 H
   refine Opl.callc (spec_l11Abs.ev h_t111) rfl rfl rfl rfl ⟨(.lit _), trivial⟩ (by decide) (Opl.p1 (n := Opl.p1 (n := Opl.subi (k := .i64) (a := x5_1) (b := 1) K3 rfl rfl rfl rfl ?_)))
   obtain ⟨c6, H⟩ := peel H
   obtain ⟨c7, H⟩ := peel H
   refine Opl.idx (M := (cInt .i64)) (xs := l0) (j := (wrap64 (x5_1 - 1))) (0 : Int) (by exact hv0) rfl (by omega) (by omega) K41 Z3 rfl rfl ?_
   rintro p3 q3 h3
   obtain rfl : p3 = [.lit (.int .i64 (rd l0 (wrap64 (x5_1 - 1))))] := h3
   refine Opl.lda (.lit (.int .i64 (rd l0 (wrap64 (x5_1 - 1))))) rfl T3 rfl rfl rfl rfl ?_
   obtain ⟨t113, h_t113, H⟩ := Option.bind_eq_some_iff.1 H
   refine Opl.callc (spec_l11Abs.ev h_t113) rfl rfl rfl rfl ⟨(.lit _), trivial⟩ (by decide) (Opl.p1 (n := Opl.p1 (n := Opl.p1 (n := Opl.nil ?_))))
   exact hk1 _ _ ⟨_, _, H, by omega, ⟨rfl, rfl, rfl, (by first | rfl | (show PV.lit (.bool _) = _; congr 2; simp_all)), trivial⟩⟩
theorem spec_ClausesValid.ev {k : Nat} {a0_0 : Int} {l0_1 : List (List Int)} {v0_1 : PV} (hv0_1 : Sl (cSl (cInt .i64)) l0_1 v0_1) {r : Bool} (H : spec_ClausesValid.f k a0_0 l0_1 = some r) : Ret Try.prog 94 [.agg [.lit (.int .i64 a0_0), v0_1]] fun v S => v = .lit (.bool r) := by
 unfold spec_ClausesValid.f at H
 refine Ret.intro Try.func94 rfl (Nat.le_of_ble_eq_true rfl) rfl ?_
 rw [tm1]
 refine Evr.sr rfl (Opl.box (cs := [.lit (.int .i64 a0_0), v0_1]) rfl rfl rfl rfl ?_)
 rintro i1 S h1 u1 w1
 refine Opl.p1 (n := Opl.nil (Evr.seq (Evr.seq ?_)))
 refine Evr.join (fun tm S => ∃ (kq1 : Nat) (x13_1 : Bool) (i2 : Abs.Id), spec_ClausesValid.j0 kq1 x13_1 a0_0 l0_1 = some r ∧ Has tm [(1, .ptr i2 0), (13, .lit (.bool x13_1))] ∧ Box (.ptr i2 0) [.lit (.int .i64 a0_0), v0_1] S) ?_ fun hk1 => ?_
 ·
  rintro tm S ⟨kq1, x13_1, i2, H, hh, h2⟩
  rw [hh.eq]
  obtain _ | k1 := kq1
  · simp [spec_ClausesValid.j0] at H
  simp only [spec_ClausesValid.j0] at H
  by_cases c1 : x13_1 = true
  case pos =>
   rw [if_pos c1] at H
   obtain rfl : x13_1 = true := by simpa using c1
   refine Evr.condT rfl (Evr.sr rfl (Opl.p1 (n := Opl.nil ?_)))
   obtain rfl := Option.some.inj H
   refine Evr.ret1 Try.func94 rfl ?_
   show (.lit (.bool false) : PV) = _
   first | rfl | (simp only [go_sem]; rfl)
  rw [if_neg c1] at H
  obtain rfl : x13_1 = false := by simpa using c1
  refine Evr.condF rfl (Evr.skip (Evr.seq (Evr.sr rfl (Opl.p1 (n := Opl.nil (Evr.block ?_))))))
  refine Evr.loop (Evr.rounds (n := k1) (Inv := fun n tm S => n ≤ k1 ∧ ∃ (x3_1 : Int) (i3 : Abs.Id), spec_ClausesValid.l0 n x3_1 a0_0 l0_1 = some r ∧ Has tm [(1, .ptr i3 0), (3, .lit (.int .i64 x3_1))] ∧ Box (.ptr i3 0) [.lit (.int .i64 a0_0), v0_1] S) ?_ ?_ ?_)
  · exact ⟨Nat.le_refl _, _, _, H, ⟨rfl, rfl, trivial⟩, h2⟩
  ·
   rintro tm S ⟨_, _, _, H, -⟩
   simp [spec_ClausesValid.l0] at H
  ·
   rintro n1 ih1 tm S ⟨hle, x3_1, i3, H, hh, h3⟩
   simp only [spec_ClausesValid.l0] at H
   rw [hh.eq]
   refine Evr.seq (Evr.sr rfl (Opl.p1 (n := Opl.p1 (v := .ptr i3 1) (n := Opl.ldb (v := v0_1) h3 rfl T22 rfl rfl rfl rfl (Opl.len (xs := l0_1) (by exact hv0_1) K22 rfl rfl rfl rfl (Opl.p1 (n := Opl.nil ?_)))))))
   by_cases c2 : x3_1 < (l0_1.length : Int)
   case neg =>
    rw [if_neg c2] at H
    have e4 : (decide (x3_1 < (l0_1.length : Int))) = false := by simpa using c2
    try rw [e4]
    refine Evr.condF rfl (Evr.exit rfl (Evr.sr rfl (Opl.p1 (n := Opl.nil ?_))))
    obtain rfl := Option.some.inj H
    refine Evr.ret1 Try.func94 rfl ?_
    show (.lit (.bool true) : PV) = _
    first | rfl | (simp only [go_sem]; rfl)
   rw [if_pos c2] at H
   have e1 : (decide (x3_1 < (l0_1.length : Int))) = true := by simpa using c2
   try rw [e1]
   refine Evr.condT rfl (Evr.skip (Evr.seq (Evr.block (Evr.seq (Evr.regionD rfl (by kernel_rfl) (Opl.p1 (v := .ptr i3 1) (n := Opl.ldb (v := v0_1) h3 rfl T22 rfl rfl rfl rfl (Opl.p1 (n := ?_)))))))))
   obtain ⟨c3, H⟩ := peel H
   refine Opl.idx (M := (cSl (cInt .i64))) (xs := l0_1) (j := x3_1) ([] : List Int) (by exact hv0_1) rfl (by omega) (by omega) K22 Z41 rfl rfl ?_
   rintro p1 q1 h4
   obtain ⟨pv1, rfl, h5⟩ := h4
   refine Opl.lda (pv1) rfl T41 rfl rfl rfl rfl (Opl.p1 (v := .ptr i3 0) (n := Opl.ldb (v := .lit (.int .i64 a0_0)) h3 rfl T3 rfl rfl rfl rfl ?_))
   obtain ⟨t118, h_t118, H⟩ := Option.bind_eq_some_iff.1 H
   refine Opl.callc (spec_ClauseValid.ev h5 h_t118) rfl rfl rfl rfl ⟨h5.plain, (.lit _), trivial⟩ (by decide) (Opl.p1 (n := Opl.nil ?_))
   by_cases c4 : t118 = true
   case neg =>
    rw [if_neg c4] at H
    have e3 : (!t118) = true := by simpa using c4
    try rw [e3]
    refine Evr.condT rfl (Evr.sr rfl (Opl.p1 (n := Opl.nil ?_)))
    obtain rfl := Option.some.inj H
    refine Evr.ret1 Try.func94 rfl ?_
    show (.lit (.bool false) : PV) = _
    first | rfl | (simp only [go_sem]; rfl)
   rw [if_pos c4] at H
   have e2 : (!t118) = false := by simpa using c4
   try rw [e2]
   refine Evr.condF rfl (Evr.skip (Evr.inBlock (Evr.regionN rfl (Opl.p1 (n := Opl.add (k := .i64) (a := x3_1) (b := 1) K3 rfl rfl rfl rfl (Opl.one (v := .lit (.int .i64 (wrap64 (x3_1 + 1)))) rfl rfl rfl (Opl.nil ?_)))))))
   exact ih1 _ (by omega) _ _ ⟨by omega, _, _, H, ⟨rfl, rfl, trivial⟩, h3⟩
 ·
  refine Evr.regionN rfl (Opl.p1 (v := .ptr i1 0) (n := Opl.ldb (v := .lit (.int .i64 a0_0)) h1 rfl T3 rfl rfl rfl rfl ?_))
  obtain ⟨t116, h_t116, H⟩ := Option.bind_eq_some_iff.1 H
  refine Opl.callc (spec_l1In.ev h_t116) rfl rfl rfl rfl ⟨(.lit _), (.lit _), (.lit _), trivial⟩ (by decide) (Opl.p1 (n := Opl.p1 (n := ?_)))
  by_cases c5 : t116 = true
  case neg =>
   rw [if_neg c5] at H
   have e6 : (!t116) = true := by simpa using c5
   try rw [e6]
   refine Opl.skp rfl (Opl.skp rfl (Opl.skp rfl (Opl.skp rfl (Opl.p1 (n := Opl.nil ?_)))))
   exact hk1 _ _ ⟨_, _, _, H, ⟨rfl, (by first | rfl | (show PV.lit (.bool _) = _; congr 2; simp_all)), trivial⟩, h1⟩
  rw [if_pos c5] at H
  have e5 : (!t116) = false := by simpa using c5
  try rw [e5]
  refine Opl.p1 (v := .ptr i1 1) (n := Opl.ldb (v := v0_1) h1 rfl T22 rfl rfl rfl rfl (Opl.len (xs := l0_1) (by exact hv0_1) K22 rfl rfl rfl rfl (Opl.p1 (n := Opl.p1 (n := Opl.nil ?_)))))
  exact hk1 _ _ ⟨_, _, _, H, ⟨rfl, (by first | rfl | (show PV.lit (.bool _) = _; congr 2; simp_all)), trivial⟩, h1⟩
theorem spec_l4List.ev {k : Nat} {l0 : List Bool} {v0 : PV} (hv0 : Sl cBool l0 v0) {r : (List Int)} (H : spec_l4List.f k l0 = some r) : Ret Try.prog 123 [v0] fun v S => Vec (cInt .i64) r v S := by
 unfold spec_l4List.f at H
 refine Ret.intro Try.func123 rfl (Nat.le_of_ble_eq_true rfl) rfl ?_
 rw [tm1]
 refine Evr.sr rfl (Opl.p1 (n := Opl.nil (Evr.sr rfl (Opl.lits (M := (cInt .i64)) (ys := []) [] K41 T3 rfl rfl rfl trivial rfl (by decide) rfl rfl rfl ?_))))
 rintro pv1 S h1 u1 w1
 refine Opl.p1 (n := Opl.nil (Evr.seq (Evr.sr rfl (Opl.p1 (n := Opl.nil (Evr.block ?_))))))
 refine Evr.loop (Evr.rounds (n := k) (Inv := fun n tm S => n ≤ k ∧ ∃ (x3_1 : List Int) (x4_1 : Int) (pv2 : PV), spec_l4List.l0 n l0 x3_1 x4_1 = some r ∧ Has tm [(0, v0), (3, pv2), (4, .lit (.int .i64 x4_1))] ∧ Vec (cInt .i64) x3_1 pv2 S) ?_ ?_ ?_)
 · exact ⟨Nat.le_refl _, _, _, _, H, ⟨rfl, rfl, rfl, trivial⟩, h1⟩
 ·
  rintro tm S ⟨_, _, _, _, H, -⟩
  simp [spec_l4List.l0] at H
 ·
  rintro n1 ih1 tm S ⟨hle, x3_1, x4_1, pv2, H, hh, h2⟩
  simp only [spec_l4List.l0] at H
  rw [hh.eq]
  refine Evr.seq (Evr.sr rfl (Opl.p1 (n := Opl.p1 (n := Opl.len (xs := l0) (by exact hv0) K75 rfl rfl rfl rfl (Opl.p1 (n := Opl.nil ?_))))))
  by_cases c1 : x4_1 < (l0.length : Int)
  case neg =>
   rw [if_neg c1] at H
   have e4 : (decide (x4_1 < (l0.length : Int))) = false := by simpa using c1
   try rw [e4]
   refine Evr.condF rfl (Evr.exit rfl (Evr.sr rfl (Opl.p1 (n := Opl.p1 (n := Opl.nil ?_)))))
   obtain rfl := Option.some.inj H
   refine Evr.ret1 Try.func123 rfl ?_
   show Vec _ _ pv2 _
   exact h2
  rw [if_pos c1] at H
  have e1 : (decide (x4_1 < (l0.length : Int))) = true := by simpa using c1
  try rw [e1]
  refine Evr.condT rfl (Evr.skip (Evr.seq (Evr.block (Evr.sr rfl (Opl.p1 (n := Opl.p1 (n := ?_)))))))
  obtain ⟨c2, H⟩ := peel H
  refine Opl.idx (M := cBool) (xs := l0) (j := x4_1) false (by exact hv0) rfl (by omega) (by omega) K75 Z4 rfl rfl ?_
  rintro p1 q1 h3
  obtain rfl : p1 = [.lit (.bool (rdOf false l0 x4_1))] := h3
  refine Opl.lda (.lit (.bool (rdOf false l0 x4_1))) rfl T4 rfl rfl rfl rfl (Opl.nil ?_)
  refine Evr.join (fun tm S => ∃ (kq1 : Nat) (x3_2 : List Int) (pv3 : PV), spec_l4List.l0 kq1 l0 x3_2 (wrap64 (x4_1 + 1)) = some r ∧ kq1 ≤ n1 ∧ Has tm [(0, v0), (3, pv3), (4, .lit (.int .i64 x4_1))] ∧ Vec (cInt .i64) x3_2 pv3 S) ?_ fun hk1 => ?_
  ·
   rintro tm S ⟨kq1, x3_2, pv3, H, hle, hh, h4⟩
   rw [hh.eq]
   refine Evr.inBlock (Evr.regionN rfl (Opl.p1 (n := Opl.add (k := .i64) (a := x4_1) (b := 1) K3 rfl rfl rfl rfl (Opl.one (v := .lit (.int .i64 (wrap64 (x4_1 + 1)))) rfl rfl rfl (Opl.nil ?_)))))
   exact ih1 _ (by omega) _ _ ⟨by omega, _, _, _, H, ⟨rfl, rfl, rfl, trivial⟩, h4⟩
  ·
   by_cases c3 : rdOf false l0 x4_1 = true
   case neg =>
    rw [if_neg c3] at H
    have e3 : (rdOf false l0 x4_1) = false := by simpa using c3
    try rw [e3]
    refine Evr.condF rfl (Evr.skip ?_)
    exact hk1 _ _ ⟨_, _, _, H, by omega, ⟨rfl, rfl, rfl, trivial⟩, h2⟩
   rw [if_pos c3] at H
   have e2 : (rdOf false l0 x4_1) = true := by simpa using c3
   try rw [e2]
   refine Evr.condT rfl (Evr.regionN rfl (Opl.p1 (n := Opl.p1 (n := Opl.lits (M := (cInt .i64)) (ys := [x4_1]) [.tmp 17] K41 T3 rfl rfl rfl (by exact ⟨rfl, trivial⟩) rfl (by decide) rfl rfl rfl ?_))))
   rintro pv4 S h5 u2 w2
   have ap1 := w2.vec h2
   have h6 := u2.vec h2 ap1
   obtain ⟨c4, H⟩ := peel H
   refine Opl.app (M := (cInt .i64)) (xs := x3_1) (ys := [x4_1]) (v := pv2) h6 (.vec h5) (oInt .i64) rfl rfl K41 T3 rfl rfl (by (try simp only [List.length_cons, List.length_nil]); omega) (by show (_ + _) * 8 ≤ 140737488355328; (try simp only [List.length_cons, List.length_nil]); omega) rfl rfl rfl rfl rfl ?_
   rintro pv5 S h7 u3 w3
   have ap2 := w3.vec h5
   have h8 := u3.vec h5 ap1.symm
   refine Opl.p1 (n := Opl.nil ?_)
   exact hk1 _ _ ⟨_, _, _, H, by omega, ⟨rfl, rfl, rfl, trivial⟩, h7⟩
theorem spec_AtomsOf.ev {k : Nat} {a0_0 : Int} {l0_1 : List (List Int)} {v0_1 : PV} (hv0_1 : Sl (cSl (cInt .i64)) l0_1 v0_1) {a1 : Int} {a2 : Int} {r : (List Int)} (H : spec_AtomsOf.f k a0_0 l0_1 a1 a2 = some r) : Ret Try.prog 95 [.agg [.lit (.int .i64 a0_0), v0_1], .lit (.int .i64 a1), .lit (.int .i64 a2)] fun v S => Vec (cInt .i64) r v S := by
 unfold spec_AtomsOf.f at H
 refine Ret.intro Try.func95 rfl (Nat.le_of_ble_eq_true rfl) rfl ?_
 rw [tm3]
 refine Evr.sr rfl (Opl.box (cs := [.lit (.int .i64 a0_0), v0_1]) rfl rfl rfl rfl ?_)
 rintro i1 S h1 u1 w1
 refine Opl.p1 (n := Opl.nil (Evr.seq (Evr.seq ?_)))
 refine Evr.join (fun tm S => ∃ (kq1 : Nat) (x25_1 : Bool) (i2 : Abs.Id), spec_AtomsOf.j0 kq1 a1 a2 x25_1 a0_0 l0_1 = some r ∧ Has tm [(1, .lit (.int .i64 a1)), (2, .lit (.int .i64 a2)), (3, .ptr i2 0), (25, .lit (.bool x25_1))] ∧ Box (.ptr i2 0) [.lit (.int .i64 a0_0), v0_1] S) ?_ fun hk1 => ?_
 ·
  rintro tm S ⟨kq1, x25_1, i2, H, hh, h2⟩
  rw [hh.eq]
  obtain _ | k1 := kq1
  · simp [spec_AtomsOf.j0] at H
  simp only [spec_AtomsOf.j0] at H
  by_cases c1 : x25_1 = true
  case pos =>
   rw [if_pos c1] at H
   obtain rfl : x25_1 = true := by simpa using c1
   refine Evr.condT rfl (Evr.sr rfl (Opl.p1 (n := Opl.nil ?_)))
   obtain rfl := Option.some.inj H
   refine Evr.ret1 Try.func95 rfl ?_
   show Vec _ _ (.lit (.slice none 0 0)) _
   exact .nil
  rw [if_neg c1] at H
  obtain rfl : x25_1 = false := by simpa using c1
  refine Evr.condF rfl (Evr.skip (Evr.sr rfl (Opl.p1 (v := .ptr i2 0) (n := Opl.ldb (v := .lit (.int .i64 a0_0)) h2 rfl T3 rfl rfl rfl rfl (Opl.add (k := .i64) (a := a0_0) (b := 1) K3 rfl rfl rfl rfl ?_)))))
  obtain ⟨c2, H⟩ := peel H
  obtain ⟨c3, H⟩ := peel H
  refine Opl.make (M := cBool) (m := (wrap64 (a0_0 + 1))) false (by exact rfl) rfl rfl K75 T4 rfl (by omega) (by show ((wrap64 (a0_0 + 1))).toNat * 1 ≤ 281474976710656; omega) (by omega) rfl rfl rfl ?_
  rintro pv1 S h3 u2 w2
  have ap1 := w2.box h2
  have h4 := u2.box h2 ap1
  refine Opl.one (v := pv1) rfl rfl rfl (Opl.nil (Evr.seq (Evr.sr rfl (Opl.one (v := .lit (.int .i64 a1)) rfl rfl rfl (Opl.one (v := .lit (.int .i64 a1)) rfl rfl rfl (Opl.nil (Evr.block ?_)))))))
  refine Evr.loop (Evr.rounds (n := k1) (Inv := fun n tm S => n ≤ k1 ∧ ∃ (x7_1 : List Bool) (x8_1 : Int) (i3 : Abs.Id) (pv2 : PV), spec_AtomsOf.l0 n a2 x7_1 x8_1 a0_0 l0_1 = some r ∧ Has tm [(2, .lit (.int .i64 a2)), (3, .ptr i3 0), (7, pv2), (8, .lit (.int .i64 x8_1))] ∧ Box (.ptr i3 0) [.lit (.int .i64 a0_0), v0_1] S ∧ Vec cBool x7_1 pv2 S ∧ Ap (.ptr i3 0) pv2) ?_ ?_ ?_)
  · exact ⟨Nat.le_refl _, _, _, _, _, H, ⟨rfl, rfl, rfl, rfl, trivial⟩, h4, h3, ap1⟩
  ·
   rintro tm S ⟨_, _, _, _, _, H, -⟩
   simp [spec_AtomsOf.l0] at H
  ·
   rintro n1 ih1 tm S ⟨hle, x7_1, x8_1, i3, pv2, H, hh, h5, h6, ap2⟩
   simp only [spec_AtomsOf.l0] at H
   rw [hh.eq]
   refine Evr.seq (Evr.sr rfl (Opl.p1 (n := Opl.p1 (n := Opl.p1 (n := Opl.nil ?_)))))
   by_cases c4 : x8_1 < a2
   case neg =>
    rw [if_neg c4] at H
    have e4 : (decide (x8_1 < a2)) = false := by simpa using c4
    try rw [e4]
    refine Evr.condF rfl (Evr.exit rfl (Evr.sr rfl (Opl.p1 (n := ?_))))
    obtain ⟨t151, h_t151, H⟩ := Option.bind_eq_some_iff.1 H
    obtain ⟨pv6, h18, -, h19⟩ := Out.vec h6
    refine Opl.callav (sInt .i64) (spec_l4List.ev h19 h_t151) rfl rfl rfl (.cons h18 .nil) ⟨h19.plain, trivial⟩ rfl ?_
    rintro pv7 S h20 u4 w3
    have ap4 := w3.box h5
    have h21 := u4.box h5 ap4
    have ap5 := w3.vec h6
    have h22 := u4.vec h6 ap5
    refine Opl.p1 (n := Opl.nil ?_)
    obtain rfl := Option.some.inj H
    refine Evr.ret1 Try.func95 rfl ?_
    show Vec _ _ pv7 _
    exact h20
   rw [if_pos c4] at H
   have e1 : (decide (x8_1 < a2)) = true := by simpa using c4
   try rw [e1]
   refine Evr.condT rfl (Evr.skip (Evr.seq (Evr.block (Evr.sr rfl (Opl.p1 (n := Opl.nil (Evr.block ?_)))))))
   refine Evr.loop (Evr.rounds (n := n1) (Inv := fun n tm S => n ≤ n1 ∧ ∃ (x7_2 : List Bool) (x9_1 : Int) (i4 : Abs.Id) (pv3 : PV), spec_AtomsOf.l1 n a2 x7_2 x8_1 x9_1 a0_0 l0_1 = some r ∧ Has tm [(2, .lit (.int .i64 a2)), (3, .ptr i4 0), (7, pv3), (8, .lit (.int .i64 x8_1)), (9, .lit (.int .i64 x9_1))] ∧ Box (.ptr i4 0) [.lit (.int .i64 a0_0), v0_1] S ∧ Vec cBool x7_2 pv3 S ∧ Ap (.ptr i4 0) pv3) ?_ ?_ ?_)
   · exact ⟨Nat.le_refl _, _, _, _, _, H, ⟨rfl, rfl, rfl, rfl, rfl, trivial⟩, h5, h6, ap2⟩
   ·
    rintro tm S ⟨_, _, _, _, _, H, -⟩
    simp [spec_AtomsOf.l1] at H
   ·
    rintro n2 ih2 tm S ⟨hle, x7_2, x9_1, i4, pv3, H, hh, h7, h8, ap3⟩
    simp only [spec_AtomsOf.l1] at H
    rw [hh.eq]
    refine Evr.seq (Evr.sr rfl (Opl.p1 (n := Opl.p1 (v := .ptr i4 1) (n := Opl.ldb (v := v0_1) h7 rfl T22 rfl rfl rfl rfl (Opl.p1 (n := ?_))))))
    obtain ⟨c5, H⟩ := peel H
    obtain ⟨c6, H⟩ := peel H
    refine Opl.idx (M := (cSl (cInt .i64))) (xs := l0_1) (j := x8_1) ([] : List Int) (by exact hv0_1) rfl (by omega) (by omega) K22 Z41 rfl rfl ?_
    rintro p1 q1 h9
    obtain ⟨pv4, rfl, h10⟩ := h9
    refine Opl.lda (pv4) rfl T41 rfl rfl rfl rfl (Opl.len (xs := (rd_Lint l0_1 x8_1)) (by exact h10) K41 rfl rfl rfl rfl (Opl.p1 (n := Opl.nil ?_)))
    by_cases c7 : x9_1 < ((rd_Lint l0_1 x8_1).length : Int)
    case neg =>
     rw [if_neg c7] at H
     have e3 : (decide (x9_1 < ((rd_Lint l0_1 x8_1).length : Int))) = false := by simpa using c7
     try rw [e3]
     refine Evr.condF rfl (Evr.exit rfl (Evr.inBlock (Evr.regionN rfl (Opl.p1 (n := Opl.add (k := .i64) (a := x8_1) (b := 1) K3 rfl rfl rfl rfl (Opl.one (v := .lit (.int .i64 (wrap64 (x8_1 + 1)))) rfl rfl rfl (Opl.nil ?_)))))))
     exact ih1 _ (by omega) _ _ ⟨by omega, _, _, _, _, H, ⟨rfl, rfl, rfl, rfl, trivial⟩, h7, h8, ap3⟩
    rw [if_pos c7] at H
    have e2 : (decide (x9_1 < ((rd_Lint l0_1 x8_1).length : Int))) = true := by simpa using c7
    try rw [e2]
    refine Evr.condT rfl (Evr.skip (Evr.seq (Evr.block (Evr.regionN rfl (Opl.p1 (n := Opl.p1 (v := .ptr i4 1) (n := Opl.ldb (v := v0_1) h7 rfl T22 rfl rfl rfl rfl (Opl.p1 (n := ?_)))))))))
    obtain ⟨c8, H⟩ := peel H
    refine Opl.idx (M := (cSl (cInt .i64))) (xs := l0_1) (j := x8_1) ([] : List Int) (by exact hv0_1) rfl (by omega) (by omega) K22 Z41 rfl rfl ?_
    rintro p2 q2 h11
    obtain ⟨pv5, rfl, h12⟩ := h11
    refine Opl.lda (pv5) rfl T41 rfl rfl rfl rfl (Opl.p1 (n := Opl.idx (M := (cInt .i64)) (xs := (rd_Lint l0_1 x8_1)) (j := x9_1) (0 : Int) (by exact h12) rfl (by omega) (by omega) K41 Z3 rfl rfl ?_))
    rintro p3 q3 h13
    obtain rfl : p3 = [.lit (.int .i64 (rd (rd_Lint l0_1 x8_1) x9_1))] := h13
    refine Opl.lda (.lit (.int .i64 (rd (rd_Lint l0_1 x8_1) x9_1))) rfl T3 rfl rfl rfl rfl ?_
    obtain ⟨t149, h_t149, H⟩ := Option.bind_eq_some_iff.1 H
    refine Opl.callc (spec_l11Abs.ev h_t149) rfl rfl rfl rfl ⟨(.lit _), trivial⟩ (by decide) ?_
    obtain ⟨c9, H⟩ := peel H
    obtain ⟨c10, H⟩ := peel H
    refine Opl.idv (M := cBool) (xs := x7_2) (j := t149) (v := pv3) h8 rfl rfl (by omega) (by omega) K75 Z4 rfl rfl ?_
    rintro d1 z1 q4 h14 h15
    refine Opl.stv (M := cBool) (xs := x7_2) (j := t149) (y := true) (vs := [.lit (.bool true)]) h14 h15 (by omega) (by omega) rfl rfl (by exact rfl) Z4 rfl rfl rfl rfl ?_
    rw [← q4]
    rintro S h16 u3
    have h17 := u3.box h7 ap3
    refine Opl.nil (Evr.inBlock (Evr.regionN rfl (Opl.p1 (n := Opl.add (k := .i64) (a := x9_1) (b := 1) K3 rfl rfl rfl rfl (Opl.one (v := .lit (.int .i64 (wrap64 (x9_1 + 1)))) rfl rfl rfl (Opl.nil ?_))))))
    exact ih2 _ (by omega) _ _ ⟨by omega, _, _, _, _, H, ⟨rfl, rfl, rfl, rfl, rfl, trivial⟩, h17, h16, ap3⟩
 ·
  refine Evr.regionN rfl (Opl.ldb (v := .agg [.lit (.int .i64 a0_0), v0_1]) h1 rfl T31 rfl rfl rfl rfl ?_)
  obtain ⟨t141, h_t141, H⟩ := Option.bind_eq_some_iff.1 H
  refine Opl.callc (spec_ClausesValid.ev hv0_1 h_t141) rfl rfl rfl rfl ⟨(.aggL ⟨(.lit _), hv0_1.plain, trivial⟩), trivial⟩ (by decide) (Opl.p1 (n := Opl.p1 (n := ?_)))
  by_cases c11 : t141 = true
  case neg =>
   rw [if_neg c11] at H
   have e8 : (!t141) = true := by simpa using c11
   try rw [e8]
   refine Opl.skp rfl (Opl.skp rfl (Opl.skp rfl (Opl.skp rfl (Opl.p1 (n := Opl.p1 (n := Opl.skp rfl (Opl.skp rfl (Opl.skp rfl (Opl.skp rfl (Opl.skp rfl (Opl.p1 (n := Opl.nil ?_))))))))))))
   exact hk1 _ _ ⟨_, _, _, H, ⟨rfl, rfl, rfl, (by first | rfl | (show PV.lit (.bool _) = _; congr 2; simp_all)), trivial⟩, h1⟩
  rw [if_pos c11] at H
  have e5 : (!t141) = false := by simpa using c11
  try rw [e5]
  refine Opl.p1 (n := Opl.p1 (n := ?_))
  obtain ⟨t142, h_t142, H⟩ := Option.bind_eq_some_iff.1 H
  refine Opl.callc (spec_l1In.ev h_t142) rfl rfl rfl rfl ⟨(.lit _), (.lit _), (.lit _), trivial⟩ (by decide) (Opl.p1 (n := Opl.p1 (n := Opl.p1 (n := ?_))))
  by_cases c12 : t142 = true
  case neg =>
   rw [if_neg c12] at H
   have e7 : (!t142) = true := by simpa using c12
   try rw [e7]
   refine Opl.skp rfl (Opl.skp rfl (Opl.skp rfl (Opl.skp rfl (Opl.skp rfl (Opl.p1 (n := Opl.nil ?_))))))
   exact hk1 _ _ ⟨_, _, _, H, ⟨rfl, rfl, rfl, (by first | rfl | (show PV.lit (.bool _) = _; congr 2; simp_all)), trivial⟩, h1⟩
  rw [if_pos c12] at H
  have e6 : (!t142) = false := by simpa using c12
  try rw [e6]
  refine Opl.p1 (n := Opl.p1 (v := .ptr i1 1) (n := Opl.ldb (v := v0_1) h1 rfl T22 rfl rfl rfl rfl (Opl.len (xs := l0_1) (by exact hv0_1) K22 rfl rfl rfl rfl (Opl.p1 (n := Opl.p1 (n := Opl.nil ?_))))))
  exact hk1 _ _ ⟨_, _, _, H, ⟨rfl, rfl, rfl, (by first | rfl | (show PV.lit (.bool _) = _; congr 2; simp_all)), trivial⟩, h1⟩
theorem spec_l2Has.ev {k : Nat} {l0 : List Int} {v0 : PV} (hv0 : Sl (cInt .i64) l0 v0) {a1 : Int} {r : Bool} (H : spec_l2Has.f k l0 a1 = some r) : Ret Try.prog 44 [v0, .lit (.int .i64 a1)] fun v S => v = .lit (.bool r) := by
 unfold spec_l2Has.f at H
 refine Ret.intro Try.func44 rfl (Nat.le_of_ble_eq_true rfl) rfl ?_
 rw [tm2]
 refine Evr.sr rfl (Opl.p1 (n := Opl.nil (Evr.seq (Evr.sr rfl (Opl.p1 (n := Opl.nil (Evr.block ?_)))))))
 refine Evr.loop (Evr.rounds (n := k) (Inv := fun n tm S => n ≤ k ∧ ∃ (x5_1 : Int), spec_l2Has.l0 n l0 a1 x5_1 = some r ∧ Has tm [(0, v0), (1, .lit (.int .i64 a1)), (5, .lit (.int .i64 x5_1))]) ?_ ?_ ?_)
 · exact ⟨Nat.le_refl _, _, H, ⟨rfl, rfl, rfl, trivial⟩⟩
 ·
  rintro tm S ⟨_, _, H, -⟩
  simp [spec_l2Has.l0] at H
 ·
  rintro n1 ih1 tm S ⟨hle, x5_1, H, hh⟩
  simp only [spec_l2Has.l0] at H
  rw [hh.eq]
  refine Evr.seq (Evr.sr rfl (Opl.p1 (n := Opl.p1 (n := Opl.len (xs := l0) (by exact hv0) K41 rfl rfl rfl rfl (Opl.p1 (n := Opl.nil ?_))))))
  by_cases c1 : x5_1 < (l0.length : Int)
  case neg =>
   rw [if_neg c1] at H
   have e4 : (decide (x5_1 < (l0.length : Int))) = false := by simpa using c1
   try rw [e4]
   refine Evr.condF rfl (Evr.exit rfl (Evr.sr rfl (Opl.p1 (n := Opl.nil ?_))))
   obtain rfl := Option.some.inj H
   refine Evr.ret1 Try.func44 rfl ?_
   show (.lit (.bool false) : PV) = _
   first | rfl | (simp only [go_sem]; rfl)
  rw [if_pos c1] at H
  have e1 : (decide (x5_1 < (l0.length : Int))) = true := by simpa using c1
  try rw [e1]
  refine Evr.condT rfl (Evr.skip (Evr.seq (Evr.block (Evr.sr rfl (Opl.p1 (n := Opl.p1 (n := ?_)))))))
  obtain ⟨c2, H⟩ := peel H
  refine Opl.idx (M := (cInt .i64)) (xs := l0) (j := x5_1) (0 : Int) (by exact hv0) rfl (by omega) (by omega) K41 Z3 rfl rfl ?_
  rintro p1 q1 h1
  obtain rfl : p1 = [.lit (.int .i64 (rd l0 x5_1))] := h1
  refine Opl.lda (.lit (.int .i64 (rd l0 x5_1))) rfl T3 rfl rfl rfl rfl (Opl.p1 (n := Opl.p1 (n := Opl.nil ?_)))
  by_cases c3 : (rd l0 x5_1) = a1
  case pos =>
   rw [if_pos c3] at H
   have e2 : ((rd l0 x5_1) == a1) = true := by simpa using c3
   try rw [e2]
   refine Evr.condT rfl (Evr.sr rfl (Opl.p1 (n := Opl.nil ?_)))
   obtain rfl := Option.some.inj H
   refine Evr.ret1 Try.func44 rfl ?_
   show (.lit (.bool true) : PV) = _
   first | rfl | (simp only [go_sem]; rfl)
  rw [if_neg c3] at H
  have e3 : ((rd l0 x5_1) == a1) = false := by simpa using c3
  try rw [e3]
  refine Evr.condF rfl (Evr.skip (Evr.inBlock (Evr.regionN rfl (Opl.p1 (n := Opl.add (k := .i64) (a := x5_1) (b := 1) K3 rfl rfl rfl rfl (Opl.one (v := .lit (.int .i64 (wrap64 (x5_1 + 1)))) rfl rfl rfl (Opl.nil ?_)))))))
  exact ih1 _ (by omega) _ _ ⟨by omega, _, H, ⟨rfl, rfl, rfl, trivial⟩⟩
theorem spec_SharedAtoms.ev {k : Nat} {a0_0 : Int} {l0_1 : List (List Int)} {v0_1 : PV} (hv0_1 : Sl (cSl (cInt .i64)) l0_1 v0_1) {a1 : Int} {r : (List Int)} (H : spec_SharedAtoms.f k a0_0 l0_1 a1 = some r) : Ret Try.prog 42 [.agg [.lit (.int .i64 a0_0), v0_1], .lit (.int .i64 a1)] fun v S => Vec (cInt .i64) r v S := by
 unfold spec_SharedAtoms.f at H
 refine Ret.intro Try.func42 rfl (Nat.le_of_ble_eq_true rfl) rfl ?_
 rw [tm2]
 refine Evr.sr rfl (Opl.box (cs := [.lit (.int .i64 a0_0), v0_1]) rfl rfl rfl rfl ?_)
 rintro i1 S h1 u1 w1
 refine Opl.p1 (n := Opl.nil (Evr.sr rfl (Opl.lits (M := (cInt .i64)) (ys := []) [] K41 T3 rfl rfl rfl trivial rfl (by decide) rfl rfl rfl ?_)))
 rintro pv1 S h2 u2 w2
 have ap1 := w2.box h1
 have h3 := u2.box h1 ap1
 refine Opl.p1 (n := Opl.nil (Evr.sr rfl (Opl.ldb (v := .agg [.lit (.int .i64 a0_0), v0_1]) h3 rfl T31 rfl rfl rfl rfl (Opl.p1 (n := ?_)))))
 obtain ⟨t158, h_t158, H⟩ := Option.bind_eq_some_iff.1 H
 refine Opl.call ((spec_AtomsOf.ev hv0_1 h_t158).mono fun _ _ h => Out.vec h) rfl rfl rfl rfl ⟨(.aggL ⟨(.lit _), hv0_1.plain, trivial⟩), (.lit _), (.lit _), trivial⟩ (by decide) ?_
 rintro pv2 h4
 refine Opl.p1 (n := Opl.nil (Evr.sr rfl (Opl.ldb (v := .agg [.lit (.int .i64 a0_0), v0_1]) h3 rfl T31 rfl rfl rfl rfl (Opl.p1 (n := Opl.p1 (v := .ptr i1 1) (n := Opl.ldb (v := v0_1) h3 rfl T22 rfl rfl rfl rfl (Opl.len (xs := l0_1) (by exact hv0_1) K22 rfl rfl rfl rfl ?_)))))))
 obtain ⟨t161, h_t161, H⟩ := Option.bind_eq_some_iff.1 H
 refine Opl.call ((spec_AtomsOf.ev hv0_1 h_t161).mono fun _ _ h => Out.vec h) rfl rfl rfl rfl ⟨(.aggL ⟨(.lit _), hv0_1.plain, trivial⟩), (.lit _), (.lit _), trivial⟩ (by decide) ?_
 rintro pv3 h5
 refine Opl.p1 (n := Opl.nil (Evr.seq (Evr.sr rfl (Opl.p1 (n := Opl.nil (Evr.block ?_))))))
 refine Evr.loop (Evr.rounds (n := k) (Inv := fun n tm S => n ≤ k ∧ ∃ (x5_1 : List Int) (x8_1 : Int) (pv4 : PV), spec_SharedAtoms.l0 n x5_1 t158 t161 x8_1 = some r ∧ Has tm [(5, pv4), (6, pv2), (7, pv3), (8, .lit (.int .i64 x8_1))] ∧ Vec (cInt .i64) x5_1 pv4 S) ?_ ?_ ?_)
 · exact ⟨Nat.le_refl _, _, _, _, H, ⟨rfl, rfl, rfl, rfl, trivial⟩, h2⟩
 ·
  rintro tm S ⟨_, _, _, _, H, -⟩
  simp [spec_SharedAtoms.l0] at H
 ·
  rintro n1 ih1 tm S ⟨hle, x5_1, x8_1, pv4, H, hh, h6⟩
  simp only [spec_SharedAtoms.l0] at H
  rw [hh.eq]
  refine Evr.seq (Evr.sr rfl (Opl.p1 (n := Opl.p1 (n := Opl.len (xs := t158) (by exact h4) K41 rfl rfl rfl rfl (Opl.p1 (n := Opl.nil ?_))))))
  by_cases c1 : x8_1 < (t158.length : Int)
  case neg =>
   rw [if_neg c1] at H
   have e2 : (decide (x8_1 < (t158.length : Int))) = false := by simpa using c1
   try rw [e2]
   refine Evr.condF rfl (Evr.exit rfl (Evr.sr rfl (Opl.p1 (n := Opl.p1 (n := Opl.nil ?_)))))
   obtain rfl := Option.some.inj H
   refine Evr.ret1 Try.func42 rfl ?_
   show Vec _ _ pv4 _
   exact h6
  rw [if_pos c1] at H
  have e1 : (decide (x8_1 < (t158.length : Int))) = true := by simpa using c1
  try rw [e1]
  refine Evr.condT rfl (Evr.skip (Evr.seq (Evr.block (Evr.sr rfl (Opl.p1 (n := Opl.p1 (n := Opl.p1 (n := ?_))))))))
  obtain ⟨c2, H⟩ := peel H
  refine Opl.idx (M := (cInt .i64)) (xs := t158) (j := x8_1) (0 : Int) (by exact h4) rfl (by omega) (by omega) K41 Z3 rfl rfl ?_
  rintro p1 q1 h7
  obtain rfl : p1 = [.lit (.int .i64 (rd t158 x8_1))] := h7
  refine Opl.lda (.lit (.int .i64 (rd t158 x8_1))) rfl T3 rfl rfl rfl rfl ?_
  obtain ⟨t165, h_t165, H⟩ := Option.bind_eq_some_iff.1 H
  refine Opl.callc (spec_l2Has.ev h5 h_t165) rfl rfl rfl rfl ⟨h5.plain, (.lit _), trivial⟩ (by decide) (Opl.nil ?_)
  refine Evr.join (fun tm S => ∃ (kq1 : Nat) (x5_2 : List Int) (pv5 : PV), spec_SharedAtoms.l0 kq1 x5_2 t158 t161 (wrap64 (x8_1 + 1)) = some r ∧ kq1 ≤ n1 ∧ Has tm [(5, pv5), (6, pv2), (7, pv3), (8, .lit (.int .i64 x8_1))] ∧ Vec (cInt .i64) x5_2 pv5 S) ?_ fun hk1 => ?_
  ·
   rintro tm S ⟨kq1, x5_2, pv5, H, hle, hh, h8⟩
   rw [hh.eq]
   refine Evr.inBlock (Evr.regionN rfl (Opl.p1 (n := Opl.add (k := .i64) (a := x8_1) (b := 1) K3 rfl rfl rfl rfl (Opl.one (v := .lit (.int .i64 (wrap64 (x8_1 + 1)))) rfl rfl rfl (Opl.nil ?_)))))
   exact ih1 _ (by omega) _ _ ⟨by omega, _, _, _, H, ⟨rfl, rfl, rfl, rfl, trivial⟩, h8⟩
  ·
   by_cases c3 : t165 = true
   case neg =>
    rw [if_neg c3] at H
    obtain rfl : t165 = false := by simpa using c3
    refine Evr.condF rfl (Evr.skip ?_)
    exact hk1 _ _ ⟨_, _, _, H, by omega, ⟨rfl, rfl, rfl, rfl, trivial⟩, h6⟩
   rw [if_pos c3] at H
   obtain rfl : t165 = true := by simpa using c3
   refine Evr.condT rfl (Evr.regionN rfl (Opl.p1 (n := Opl.p1 (n := Opl.p1 (n := ?_)))))
   obtain ⟨c4, H⟩ := peel H
   refine Opl.idx (M := (cInt .i64)) (xs := t158) (j := x8_1) (0 : Int) (by exact h4) rfl (by omega) (by omega) K41 Z3 rfl rfl ?_
   rintro p2 q2 h9
   obtain rfl : p2 = [.lit (.int .i64 (rd t158 x8_1))] := h9
   refine Opl.lda (.lit (.int .i64 (rd t158 x8_1))) rfl T3 rfl rfl rfl rfl (Opl.lits (M := (cInt .i64)) (ys := [(rd t158 x8_1)]) [.tmp 35] K41 T3 rfl rfl rfl (by exact ⟨rfl, trivial⟩) rfl (by decide) rfl rfl rfl ?_)
   rintro pv6 S h10 u3 w3
   have ap2 := w3.vec h6
   have h11 := u3.vec h6 ap2
   refine Opl.app (M := (cInt .i64)) (xs := x5_1) (ys := [(rd t158 x8_1)]) (v := pv4) h11 (.vec h10) (oInt .i64) rfl rfl K41 T3 rfl rfl (by (try simp only [List.length_cons, List.length_nil]); omega) (by show (_ + _) * 8 ≤ 140737488355328; (try simp only [List.length_cons, List.length_nil]); omega) rfl rfl rfl rfl rfl ?_
   rintro pv7 S h12 u4 w4
   have ap3 := w4.vec h10
   have h13 := u4.vec h10 ap2.symm
   refine Opl.p1 (n := Opl.nil ?_)
   exact hk1 _ _ ⟨_, _, _, H, by omega, ⟨rfl, rfl, rfl, rfl, trivial⟩, h12⟩
theorem spec_l11Is.ev {a0 : Int} {l1 : List Int} {v1 : PV} (hv1 : Sl (cInt .i64) l1 v1) {r : Bool} (H : spec_l11Is.f a0 l1 = some r) : Ret Try.prog 124 [.lit (.int .i64 a0), v1] fun v S => v = .lit (.bool r) := by
 unfold spec_l11Is.f at H
 refine Ret.intro Try.func124 rfl (Nat.le_of_ble_eq_true rfl) rfl ?_
 rw [tm2]
 refine Evr.sr rfl (Opl.p1 (n := Opl.nil (Evr.seq (Evr.sr rfl (Opl.p1 (n := Opl.p1 (n := Opl.nil ?_)))))))
 by_cases c1 : a0 < 0
 case neg =>
  rw [if_neg c1] at H
  have e2 : (decide (a0 < 0)) = false := by simpa using c1
  try rw [e2]
  refine Evr.condF rfl (Evr.skip (Evr.sr rfl (Opl.p1 (n := Opl.p1 (n := Opl.subi (k := .i64) (a := a0) (b := 1) K3 rfl rfl rfl rfl ?_)))))
  obtain ⟨c4, H⟩ := peel H
  obtain ⟨c5, H⟩ := peel H
  refine Opl.idx (M := (cInt .i64)) (xs := l1) (j := (wrap64 (a0 - 1))) (0 : Int) (by exact hv1) rfl (by omega) (by omega) K41 Z3 rfl rfl ?_
  rintro p2 q2 h2
  obtain rfl : p2 = [.lit (.int .i64 (rd l1 (wrap64 (a0 - 1))))] := h2
  refine Opl.lda (.lit (.int .i64 (rd l1 (wrap64 (a0 - 1))))) rfl T3 rfl rfl rfl rfl (Opl.eql (a := (rd l1 (wrap64 (a0 - 1)))) (b := 1) K3 rfl rfl rfl rfl (Opl.one (v := .lit (.bool ((rd l1 (wrap64 (a0 - 1))) == 1))) rfl rfl rfl (Opl.nil ?_)))
  obtain rfl := Option.some.inj H
  refine Evr.ret1 Try.func124 rfl ?_
  show (.lit (.bool ((rd l1 (wrap64 (a0 - 1))) == 1)) : PV) = _
  first | rfl | (simp only [go_sem]; rfl)
 rw [if_pos c1] at H
 have e1 : (decide (a0 < 0)) = true := by simpa using c1
 try rw [e1]
 refine Evr.condT rfl (Evr.sr rfl (Opl.p1 (n := Opl.p1 (n := Opl.one (v := .lit (.int .i64 (wrap64 (-a0)))) rfl rfl (by simp only [go_sem, Int.zero_sub, w64]; rfl) (Opl.subi (k := .i64) (a := (wrap64 (-a0))) (b := 1) K3 rfl rfl rfl rfl ?_)))))
 obtain ⟨c2, H⟩ := peel H
 obtain ⟨c3, H⟩ := peel H
 refine Opl.idx (M := (cInt .i64)) (xs := l1) (j := (wrap64 ((wrap64 (-a0)) - 1))) (0 : Int) (by exact hv1) rfl (by omega) (by omega) K41 Z3 rfl rfl ?_
 rintro p1 q1 h1
 obtain rfl : p1 = [.lit (.int .i64 (rd l1 (wrap64 ((wrap64 (-a0)) - 1))))] := h1
 refine Opl.lda (.lit (.int .i64 (rd l1 (wrap64 ((wrap64 (-a0)) - 1))))) rfl T3 rfl rfl rfl rfl (Opl.eql (a := (rd l1 (wrap64 ((wrap64 (-a0)) - 1)))) (b := 0) K3 rfl rfl rfl rfl (Opl.one (v := .lit (.bool ((rd l1 (wrap64 ((wrap64 (-a0)) - 1))) == 0))) rfl rfl rfl (Opl.nil ?_)))
 obtain rfl := Option.some.inj H
 refine Evr.ret1 Try.func124 rfl ?_
 show (.lit (.bool ((rd l1 (wrap64 ((wrap64 (-a0)) - 1))) == 0)) : PV) = _
 first | rfl | (simp only [go_sem]; rfl)
theorem spec_l11Any.ev {k : Nat} {l0 : List Int} {v0 : PV} (hv0 : Sl (cInt .i64) l0 v0) {l1 : List Int} {v1 : PV} (hv1 : Sl (cInt .i64) l1 v1) {r : Bool} (H : spec_l11Any.f k l0 l1 = some r) : Ret Try.prog 98 [v0, v1] fun v S => v = .lit (.bool r) := by
 unfold spec_l11Any.f at H
 refine Ret.intro Try.func98 rfl (Nat.le_of_ble_eq_true rfl) rfl ?_
 rw [tm2]
 refine Evr.sr rfl (Opl.p1 (n := Opl.nil (Evr.seq (Evr.sr rfl (Opl.p1 (n := Opl.nil (Evr.block ?_)))))))
 refine Evr.loop (Evr.rounds (n := k) (Inv := fun n tm S => n ≤ k ∧ ∃ (x5_1 : Int), spec_l11Any.l0 n l0 l1 x5_1 = some r ∧ Has tm [(0, v0), (1, v1), (5, .lit (.int .i64 x5_1))]) ?_ ?_ ?_)
 · exact ⟨Nat.le_refl _, _, H, ⟨rfl, rfl, rfl, trivial⟩⟩
 ·
  rintro tm S ⟨_, _, H, -⟩
  simp [spec_l11Any.l0] at H
 ·
  rintro n1 ih1 tm S ⟨hle, x5_1, H, hh⟩
  simp only [spec_l11Any.l0] at H
  rw [hh.eq]
  refine Evr.seq (Evr.sr rfl (Opl.p1 (n := Opl.p1 (n := Opl.len (xs := l0) (by exact hv0) K41 rfl rfl rfl rfl (Opl.p1 (n := Opl.nil ?_))))))
  by_cases c1 : x5_1 < (l0.length : Int)
  case neg =>
   rw [if_neg c1] at H
   have e2 : (decide (x5_1 < (l0.length : Int))) = false := by simpa using c1
   try rw [e2]
   refine Evr.condF rfl (Evr.exit rfl (Evr.sr rfl (Opl.p1 (n := Opl.nil ?_))))
   obtain rfl := Option.some.inj H
   refine Evr.ret1 Try.func98 rfl ?_
   show (.lit (.bool false) : PV) = _
   first | rfl | (simp only [go_sem]; rfl)
  rw [if_pos c1] at H
  have e1 : (decide (x5_1 < (l0.length : Int))) = true := by simpa using c1
  try rw [e1]
  refine Evr.condT rfl (Evr.skip (Evr.seq (Evr.block (Evr.sr rfl (Opl.p1 (n := Opl.p1 (n := ?_)))))))
  obtain ⟨c2, H⟩ := peel H
  refine Opl.idx (M := (cInt .i64)) (xs := l0) (j := x5_1) (0 : Int) (by exact hv0) rfl (by omega) (by omega) K41 Z3 rfl rfl ?_
  rintro p1 q1 h1
  obtain rfl : p1 = [.lit (.int .i64 (rd l0 x5_1))] := h1
  refine Opl.lda (.lit (.int .i64 (rd l0 x5_1))) rfl T3 rfl rfl rfl rfl (Opl.p1 (n := ?_))
  obtain ⟨t222, h_t222, H⟩ := Option.bind_eq_some_iff.1 H
  refine Opl.callc (spec_l11Is.ev hv1 h_t222) rfl rfl rfl rfl ⟨(.lit _), hv1.plain, trivial⟩ (by decide) (Opl.nil ?_)
  by_cases c3 : t222 = true
  case pos =>
   rw [if_pos c3] at H
   obtain rfl : t222 = true := by simpa using c3
   refine Evr.condT rfl (Evr.sr rfl (Opl.p1 (n := Opl.nil ?_)))
   obtain rfl := Option.some.inj H
   refine Evr.ret1 Try.func98 rfl ?_
   show (.lit (.bool true) : PV) = _
   first | rfl | (simp only [go_sem]; rfl)
  rw [if_neg c3] at H
  obtain rfl : t222 = false := by simpa using c3
  refine Evr.condF rfl (Evr.skip (Evr.inBlock (Evr.regionN rfl (Opl.p1 (n := Opl.add (k := .i64) (a := x5_1) (b := 1) K3 rfl rfl rfl rfl (Opl.one (v := .lit (.int .i64 (wrap64 (x5_1 + 1)))) rfl rfl rfl (Opl.nil ?_)))))))
  exact ih1 _ (by omega) _ _ ⟨by omega, _, H, ⟨rfl, rfl, rfl, trivial⟩⟩
theorem spec_l6Are.ev {k : Nat} {l0 : List Int} {v0 : PV} (hv0 : Sl (cInt .i64) l0 v0) {r : Bool} (H : spec_l6Are.f k l0 = some r) : Ret Try.prog 97 [v0] fun v S => v = .lit (.bool r) := by
 unfold spec_l6Are.f at H
 refine Ret.intro Try.func97 rfl (Nat.le_of_ble_eq_true rfl) rfl ?_
 rw [tm1]
 refine Evr.sr rfl (Opl.p1 (n := Opl.nil (Evr.seq (Evr.sr rfl (Opl.p1 (n := Opl.nil (Evr.block ?_)))))))
 refine Evr.loop (Evr.rounds (n := k) (Inv := fun n tm S => n ≤ k ∧ ∃ (x3_1 : Int), spec_l6Are.l0 n l0 x3_1 = some r ∧ Has tm [(0, v0), (3, .lit (.int .i64 x3_1))]) ?_ ?_ ?_)
 · exact ⟨Nat.le_refl _, _, H, ⟨rfl, rfl, trivial⟩⟩
 ·
  rintro tm S ⟨_, _, H, -⟩
  simp [spec_l6Are.l0] at H
 ·
  rintro n1 ih1 tm S ⟨hle, x3_1, H, hh⟩
  simp only [spec_l6Are.l0] at H
  rw [hh.eq]
  refine Evr.seq (Evr.sr rfl (Opl.p1 (n := Opl.p1 (n := Opl.len (xs := l0) (by exact hv0) K41 rfl rfl rfl rfl (Opl.p1 (n := Opl.nil ?_))))))
  by_cases c1 : x3_1 < (l0.length : Int)
  case neg =>
   rw [if_neg c1] at H
   have e4 : (decide (x3_1 < (l0.length : Int))) = false := by simpa using c1
   try rw [e4]
   refine Evr.condF rfl (Evr.exit rfl (Evr.sr rfl (Opl.p1 (n := Opl.nil ?_))))
   obtain rfl := Option.some.inj H
   refine Evr.ret1 Try.func97 rfl ?_
   show (.lit (.bool true) : PV) = _
   first | rfl | (simp only [go_sem]; rfl)
  rw [if_pos c1] at H
  have e1 : (decide (x3_1 < (l0.length : Int))) = true := by simpa using c1
  try rw [e1]
  refine Evr.condT rfl (Evr.skip (Evr.seq (Evr.block (Evr.sr rfl (Opl.p1 (n := Opl.p1 (n := ?_)))))))
  obtain ⟨c2, H⟩ := peel H
  refine Opl.idx (M := (cInt .i64)) (xs := l0) (j := x3_1) (0 : Int) (by exact hv0) rfl (by omega) (by omega) K41 Z3 rfl rfl ?_
  rintro p1 q1 h1
  obtain rfl : p1 = [.lit (.int .i64 (rd l0 x3_1))] := h1
  refine Opl.lda (.lit (.int .i64 (rd l0 x3_1))) rfl T3 rfl rfl rfl rfl ?_
  obtain ⟨t218, h_t218, H⟩ := Option.bind_eq_some_iff.1 H
  refine Opl.callc (spec_l1In.ev h_t218) rfl rfl rfl rfl ⟨(.lit _), (.lit _), (.lit _), trivial⟩ (by decide) (Opl.p1 (n := Opl.nil ?_))
  by_cases c3 : t218 = true
  case neg =>
   rw [if_neg c3] at H
   have e3 : (!t218) = true := by simpa using c3
   try rw [e3]
   refine Evr.condT rfl (Evr.sr rfl (Opl.p1 (n := Opl.nil ?_)))
   obtain rfl := Option.some.inj H
   refine Evr.ret1 Try.func97 rfl ?_
   show (.lit (.bool false) : PV) = _
   first | rfl | (simp only [go_sem]; rfl)
  rw [if_pos c3] at H
  have e2 : (!t218) = false := by simpa using c3
  try rw [e2]
  refine Evr.condF rfl (Evr.skip (Evr.inBlock (Evr.regionN rfl (Opl.p1 (n := Opl.add (k := .i64) (a := x3_1) (b := 1) K3 rfl rfl rfl rfl (Opl.one (v := .lit (.int .i64 (wrap64 (x3_1 + 1)))) rfl rfl rfl (Opl.nil ?_)))))))
  exact ih1 _ (by omega) _ _ ⟨by omega, _, H, ⟨rfl, rfl, trivial⟩⟩
theorem spec_TrueIn.ev {k : Nat} {a0_0 : Int} {l0_1 : List (List Int)} {v0_1 : PV} (hv0_1 : Sl (cSl (cInt .i64)) l0_1 v0_1) {l1 : List Int} {v1 : PV} (hv1 : Sl (cInt .i64) l1 v1) {r : Bool} (H : spec_TrueIn.f k a0_0 l0_1 l1 = some r) : Ret Try.prog 48 [.agg [.lit (.int .i64 a0_0), v0_1], v1] fun v S => v = .lit (.bool r) := by
 unfold spec_TrueIn.f at H
 refine Ret.intro Try.func48 rfl (Nat.le_of_ble_eq_true rfl) rfl ?_
 rw [tm2]
 refine Evr.sr rfl (Opl.box (cs := [.lit (.int .i64 a0_0), v0_1]) rfl rfl rfl rfl ?_)
 rintro i1 S h1 u1 w1
 refine Opl.p1 (n := Opl.nil (Evr.seq (Evr.seq ?_)))
 refine Evr.join (fun tm S => ∃ (kq1 : Nat) (x20_1 : Bool) (i2 : Abs.Id), spec_TrueIn.j0 kq1 l1 x20_1 a0_0 l0_1 = some r ∧ Has tm [(1, v1), (2, .ptr i2 0), (20, .lit (.bool x20_1))] ∧ Box (.ptr i2 0) [.lit (.int .i64 a0_0), v0_1] S) ?_ fun hk1 => ?_
 ·
  rintro tm S ⟨kq1, x20_1, i2, H, hh, h2⟩
  rw [hh.eq]
  obtain _ | k1 := kq1
  · simp [spec_TrueIn.j0] at H
  simp only [spec_TrueIn.j0] at H
  by_cases c1 : x20_1 = true
  case pos =>
   rw [if_pos c1] at H
   obtain rfl : x20_1 = true := by simpa using c1
   refine Evr.condT rfl (Evr.sr rfl (Opl.p1 (n := Opl.nil ?_)))
   obtain rfl := Option.some.inj H
   refine Evr.ret1 Try.func48 rfl ?_
   show (.lit (.bool false) : PV) = _
   first | rfl | (simp only [go_sem]; rfl)
  rw [if_neg c1] at H
  obtain rfl : x20_1 = false := by simpa using c1
  refine Evr.condF rfl (Evr.skip (Evr.seq (Evr.sr rfl (Opl.p1 (n := Opl.nil (Evr.block ?_))))))
  refine Evr.loop (Evr.rounds (n := k1) (Inv := fun n tm S => n ≤ k1 ∧ ∃ (x5_1 : Int) (i3 : Abs.Id), spec_TrueIn.l0 n l1 x5_1 a0_0 l0_1 = some r ∧ Has tm [(1, v1), (2, .ptr i3 0), (5, .lit (.int .i64 x5_1))] ∧ Box (.ptr i3 0) [.lit (.int .i64 a0_0), v0_1] S) ?_ ?_ ?_)
  · exact ⟨Nat.le_refl _, _, _, H, ⟨rfl, rfl, rfl, trivial⟩, h2⟩
  ·
   rintro tm S ⟨_, _, _, H, -⟩
   simp [spec_TrueIn.l0] at H
  ·
   rintro n1 ih1 tm S ⟨hle, x5_1, i3, H, hh, h3⟩
   simp only [spec_TrueIn.l0] at H
   rw [hh.eq]
   refine Evr.seq (Evr.sr rfl (Opl.p1 (n := Opl.p1 (v := .ptr i3 1) (n := Opl.ldb (v := v0_1) h3 rfl T22 rfl rfl rfl rfl (Opl.len (xs := l0_1) (by exact hv0_1) K22 rfl rfl rfl rfl (Opl.p1 (n := Opl.nil ?_)))))))
   by_cases c2 : x5_1 < (l0_1.length : Int)
   case neg =>
    rw [if_neg c2] at H
    have e4 : (decide (x5_1 < (l0_1.length : Int))) = false := by simpa using c2
    try rw [e4]
    refine Evr.condF rfl (Evr.exit rfl (Evr.sr rfl (Opl.p1 (n := Opl.nil ?_))))
    obtain rfl := Option.some.inj H
    refine Evr.ret1 Try.func48 rfl ?_
    show (.lit (.bool true) : PV) = _
    first | rfl | (simp only [go_sem]; rfl)
   rw [if_pos c2] at H
   have e1 : (decide (x5_1 < (l0_1.length : Int))) = true := by simpa using c2
   try rw [e1]
   refine Evr.condT rfl (Evr.skip (Evr.seq (Evr.block (Evr.sr rfl (Opl.p1 (v := .ptr i3 1) (n := Opl.ldb (v := v0_1) h3 rfl T22 rfl rfl rfl rfl (Opl.p1 (n := ?_))))))))
   obtain ⟨c3, H⟩ := peel H
   refine Opl.idx (M := (cSl (cInt .i64))) (xs := l0_1) (j := x5_1) ([] : List Int) (by exact hv0_1) rfl (by omega) (by omega) K22 Z41 rfl rfl ?_
   rintro p1 q1 h4
   obtain ⟨pv1, rfl, h5⟩ := h4
   refine Opl.lda (pv1) rfl T41 rfl rfl rfl rfl (Opl.p1 (n := ?_))
   obtain ⟨t227, h_t227, H⟩ := Option.bind_eq_some_iff.1 H
   refine Opl.callc (spec_l11Any.ev h5 hv1 h_t227) rfl rfl rfl rfl ⟨h5.plain, hv1.plain, trivial⟩ (by decide) (Opl.p1 (n := Opl.nil ?_))
   by_cases c4 : t227 = true
   case neg =>
    rw [if_neg c4] at H
    have e3 : (!t227) = true := by simpa using c4
    try rw [e3]
    refine Evr.condT rfl (Evr.sr rfl (Opl.p1 (n := Opl.nil ?_)))
    obtain rfl := Option.some.inj H
    refine Evr.ret1 Try.func48 rfl ?_
    show (.lit (.bool false) : PV) = _
    first | rfl | (simp only [go_sem]; rfl)
   rw [if_pos c4] at H
   have e2 : (!t227) = false := by simpa using c4
   try rw [e2]
   refine Evr.condF rfl (Evr.skip (Evr.inBlock (Evr.regionN rfl (Opl.p1 (n := Opl.add (k := .i64) (a := x5_1) (b := 1) K3 rfl rfl rfl rfl (Opl.one (v := .lit (.int .i64 (wrap64 (x5_1 + 1)))) rfl rfl rfl (Opl.nil ?_)))))))
   exact ih1 _ (by omega) _ _ ⟨by omega, _, _, H, ⟨rfl, rfl, rfl, trivial⟩, h3⟩
 ·
  refine Evr.regionN rfl (Opl.ldb (v := .agg [.lit (.int .i64 a0_0), v0_1]) h1 rfl T31 rfl rfl rfl rfl ?_)
  obtain ⟨t224, h_t224, H⟩ := Option.bind_eq_some_iff.1 H
  refine Opl.callc (spec_ClausesValid.ev hv0_1 h_t224) rfl rfl rfl rfl ⟨(.aggL ⟨(.lit _), hv0_1.plain, trivial⟩), trivial⟩ (by decide) (Opl.p1 (n := Opl.p1 (n := ?_)))
  by_cases c5 : t224 = true
  case neg =>
   rw [if_neg c5] at H
   have e8 : (!t224) = true := by simpa using c5
   try rw [e8]
   refine Opl.skp rfl (Opl.skp rfl (Opl.skp rfl (Opl.skp rfl (Opl.skp rfl (Opl.p1 (n := Opl.p1 (n := Opl.skp rfl (Opl.skp rfl (Opl.skp rfl (Opl.p1 (n := Opl.nil ?_)))))))))))
   exact hk1 _ _ ⟨_, _, _, H, ⟨rfl, rfl, (by first | rfl | (show PV.lit (.bool _) = _; congr 2; simp_all)), trivial⟩, h1⟩
  rw [if_pos c5] at H
  have e5 : (!t224) = false := by simpa using c5
  try rw [e5]
  refine Opl.p1 (n := Opl.len (xs := l1) (by exact hv1) K41 rfl rfl rfl rfl (Opl.p1 (v := .ptr i1 0) (n := Opl.ldb (v := .lit (.int .i64 a0_0)) h1 rfl T3 rfl rfl rfl rfl (Opl.p1 (n := Opl.p1 (n := Opl.p1 (n := ?_)))))))
  by_cases c6 : (l1.length : Int) = a0_0
  case neg =>
   rw [if_neg c6] at H
   have e7 : ((l1.length : Int) != a0_0) = true := by simpa using c6
   try rw [e7]
   refine Opl.skp rfl (Opl.skp rfl (Opl.skp rfl (Opl.p1 (n := Opl.nil ?_))))
   exact hk1 _ _ ⟨_, _, _, H, ⟨rfl, rfl, (by first | rfl | (show PV.lit (.bool _) = _; congr 2; simp_all)), trivial⟩, h1⟩
  rw [if_pos c6] at H
  have e6 : ((l1.length : Int) != a0_0) = false := by simpa using c6
  try rw [e6]
  refine Opl.p1 (n := ?_)
  obtain ⟨t225, h_t225, H⟩ := Option.bind_eq_some_iff.1 H
  refine Opl.callc (spec_l6Are.ev hv1 h_t225) rfl rfl rfl rfl ⟨hv1.plain, trivial⟩ (by decide) (Opl.p1 (n := Opl.p1 (n := Opl.nil ?_)))
  exact hk1 _ _ ⟨_, _, _, H, ⟨rfl, rfl, (by first | rfl | (show PV.lit (.bool _) = _; congr 2; simp_all)), trivial⟩, h1⟩
theorem spec_l18Split.ev {k : Nat} {a0_0 : Int} {l0_1 : List (List Int)} {v0_1 : PV} (hv0_1 : Sl (cSl (cInt .i64)) l0_1 v0_1) {a1 : Int} {r : Bool} (H : spec_l18Split.f k a0_0 l0_1 a1 = some r) : Ret Try.prog 39 [.agg [.lit (.int .i64 a0_0), v0_1], .lit (.int .i64 a1)] fun v S => v = .lit (.bool r) := by
 unfold spec_l18Split.f at H
 refine Ret.intro Try.func39 rfl (Nat.le_of_ble_eq_true rfl) rfl ?_
 rw [tm2]
 refine Evr.sr rfl (Opl.box (cs := [.lit (.int .i64 a0_0), v0_1]) rfl rfl rfl rfl ?_)
 rintro i1 S h1 u1 w1
 refine Opl.p1 (n := Opl.nil (Evr.sr rfl (Opl.ldb (v := .agg [.lit (.int .i64 a0_0), v0_1]) h1 rfl T31 rfl rfl rfl rfl ?_)))
 obtain ⟨t120, h_t120, H⟩ := Option.bind_eq_some_iff.1 H
 refine Opl.callc (spec_ClausesValid.ev hv0_1 h_t120) rfl rfl rfl rfl ⟨(.aggL ⟨(.lit _), hv0_1.plain, trivial⟩), trivial⟩ (by decide) (Opl.p1 (n := ?_))
 by_cases c1 : t120 = true
 case neg =>
  rw [if_neg c1] at H
  obtain rfl : t120 = false := by simpa using c1
  refine Opl.skp rfl (Opl.skp rfl (Opl.skp rfl (Opl.p1 (n := Opl.p1 (n := Opl.skp rfl (Opl.skp rfl (Opl.skp rfl (Opl.skp rfl (Opl.skp rfl (Opl.p1 (n := Opl.p1 (n := Opl.nil ?_))))))))))))
  obtain rfl := Option.some.inj H
  refine Evr.ret1 Try.func39 rfl ?_
  show (.lit (.bool false) : PV) = _
  first | rfl | (simp only [go_sem]; rfl)
 rw [if_pos c1] at H
 obtain rfl : t120 = true := by simpa using c1
 refine Opl.p1 (v := .ptr i1 0) (n := Opl.ldb (v := .lit (.int .i64 a0_0)) h1 rfl T3 rfl rfl rfl rfl (Opl.p1 (n := Opl.p1 (n := Opl.p1 (n := ?_)))))
 by_cases c2 : a0_0 ≤ 12
 case neg =>
  rw [if_neg c2] at H
  have e2 : (decide (a0_0 ≤ 12)) = false := by simpa using c2
  try rw [e2]
  refine Opl.skp rfl (Opl.skp rfl (Opl.skp rfl (Opl.skp rfl (Opl.skp rfl (Opl.p1 (n := Opl.p1 (n := Opl.nil ?_)))))))
  obtain rfl := Option.some.inj H
  refine Evr.ret1 Try.func39 rfl ?_
  show (.lit (.bool false) : PV) = _
  first | rfl | (simp only [go_sem]; rfl)
 rw [if_pos c2] at H
 have e1 : (decide (a0_0 ≤ 12)) = true := by simpa using c2
 try rw [e1]
 refine Opl.p1 (n := Opl.p1 (v := .ptr i1 1) (n := Opl.ldb (v := v0_1) h1 rfl T22 rfl rfl rfl rfl (Opl.len (xs := l0_1) (by exact hv0_1) K22 rfl rfl rfl rfl ?_)))
 obtain ⟨t121, h_t121, H⟩ := Option.bind_eq_some_iff.1 H
 refine Opl.callc (spec_l1In.ev h_t121) rfl rfl rfl rfl ⟨(.lit _), (.lit _), (.lit _), trivial⟩ (by decide) (Opl.p1 (n := Opl.p1 (n := Opl.nil ?_)))
 obtain rfl := Option.some.inj H
 refine Evr.ret1 Try.func39 rfl ?_
 show (.lit (.bool t121) : PV) = _
 first | rfl | (simp only [go_sem]; rfl)
theorem spec_l6Value.ev {k : Nat} {a0 : Int} {a1 : Int} {r : (List Int)} (H : spec_l6Value.f k a0 a1 = some r) : Ret Try.prog 45 [.lit (.int .i64 a0), .lit (.int .i64 a1)] fun v S => Vec (cInt .i64) r v S := by
 unfold spec_l6Value.f at H
 refine Ret.intro Try.func45 rfl (Nat.le_of_ble_eq_true rfl) rfl ?_
 rw [tm2]
 refine Evr.sr rfl (Opl.p1 (n := Opl.nil (Evr.sr rfl (Opl.lits (M := (cInt .i64)) (ys := []) [] K41 T3 rfl rfl rfl trivial rfl (by decide) rfl rfl rfl ?_))))
 rintro pv1 S h1 u1 w1
 refine Opl.p1 (n := Opl.nil (Evr.seq (Evr.sr rfl (Opl.p1 (n := Opl.subi (k := .i64) (a := a1) (b := 1) K3 rfl rfl rfl rfl (Opl.one (v := .lit (.int .i64 (wrap64 (a1 - 1)))) rfl rfl rfl (Opl.nil (Evr.block ?_))))))))
 refine Evr.loop (Evr.rounds (n := k) (Inv := fun n tm S => n ≤ k ∧ ∃ (x5_1 : List Int) (x6_1 : Int) (pv2 : PV), spec_l6Value.l0 n a0 x5_1 x6_1 = some r ∧ Has tm [(0, .lit (.int .i64 a0)), (5, pv2), (6, .lit (.int .i64 x6_1))] ∧ Vec (cInt .i64) x5_1 pv2 S) ?_ ?_ ?_)
 · exact ⟨Nat.le_refl _, _, _, _, H, ⟨rfl, rfl, rfl, trivial⟩, h1⟩
 ·
  rintro tm S ⟨_, _, _, _, H, -⟩
  simp [spec_l6Value.l0] at H
 ·
  rintro n1 ih1 tm S ⟨hle, x5_1, x6_1, pv2, H, hh, h2⟩
  simp only [spec_l6Value.l0] at H
  rw [hh.eq]
  refine Evr.seq (Evr.sr rfl (Opl.p1 (n := Opl.p1 (n := Opl.nil ?_))))
  by_cases c1 : x6_1 ≥ 0
  case neg =>
   rw [if_neg c1] at H
   have e2 : (decide (x6_1 ≥ 0)) = false := by simpa using c1
   try rw [e2]
   refine Evr.condF rfl (Evr.exit rfl (Evr.sr rfl (Opl.p1 (n := Opl.p1 (n := Opl.nil ?_)))))
   obtain rfl := Option.some.inj H
   refine Evr.ret1 Try.func45 rfl ?_
   show Vec _ _ pv2 _
   exact h2
  rw [if_pos c1] at H
  have e1 : (decide (x6_1 ≥ 0)) = true := by simpa using c1
  try rw [e1]
  refine Evr.condT rfl (Evr.skip (Evr.seq (Evr.block (Evr.regionN rfl (Opl.p1 (n := Opl.p1 (n := Opl.p1 (n := ?_))))))))
  obtain ⟨c2, H⟩ := peel H
  obtain ⟨c3, H⟩ := peel H
  refine Opl.one (v := .lit (.int .i64 (shr .i64 a0 x6_1))) rfl rfl (by simp only [go_sem]; rw [if_neg (by omega), fdiv_pow]; simp only [shr, w64, IntKind.bits]; rfl) (Opl.one (v := .lit (.int .i64 (Int.tmod (shr .i64 a0 x6_1) 2))) rfl rfl (by simp only [go_sem]; rw [if_neg (by first | assumption | decide | omega)]; rfl) (Opl.lits (M := (cInt .i64)) (ys := [(Int.tmod (shr .i64 a0 x6_1) 2)]) [.tmp 18] K41 T3 rfl rfl rfl (by exact ⟨rfl, trivial⟩) rfl (by decide) rfl rfl rfl ?_))
  rintro pv3 S h3 u2 w2
  have ap1 := w2.vec h2
  have h4 := u2.vec h2 ap1
  refine Opl.app (M := (cInt .i64)) (xs := x5_1) (ys := [(Int.tmod (shr .i64 a0 x6_1) 2)]) (v := pv2) h4 (.vec h3) (oInt .i64) rfl rfl K41 T3 rfl rfl (by (try simp only [List.length_cons, List.length_nil]); omega) (by show (_ + _) * 8 ≤ 140737488355328; (try simp only [List.length_cons, List.length_nil]); omega) rfl rfl rfl rfl rfl ?_
  rintro pv4 S h5 u3 w3
  have ap2 := w3.vec h3
  have h6 := u3.vec h3 ap1.symm
  refine Opl.p1 (n := Opl.nil (Evr.inBlock (Evr.regionN rfl (Opl.p1 (n := Opl.subi (k := .i64) (a := x6_1) (b := 1) K3 rfl rfl rfl rfl (Opl.one (v := .lit (.int .i64 (wrap64 (x6_1 - 1)))) rfl rfl rfl (Opl.nil ?_)))))))
  exact ih1 _ (by omega) _ _ ⟨by omega, _, _, _, H, ⟨rfl, rfl, rfl, trivial⟩, h5⟩
theorem spec_l7Of.ev {l0 : List Int} {v0 : PV} (hv0 : Sl (cInt .i64) l0 v0) {a1 : Int} {r : Int} (H : spec_l7Of.f l0 a1 = some r) : Ret Try.prog 46 [v0, .lit (.int .i64 a1)] fun v S => v = .lit (.int .i64 r) := by
 unfold spec_l7Of.f at H
 refine Ret.intro Try.func46 rfl (Nat.le_of_ble_eq_true rfl) rfl ?_
 rw [tm2]
 refine Evr.sr rfl (Opl.p1 (n := Opl.nil (Evr.seq (Evr.sr rfl (Opl.p1 (n := Opl.one (v := .lit (.int .i64 (Int.tmod a1 2))) rfl rfl (by simp only [go_sem]; rw [if_neg (by first | assumption | decide | omega)]; rfl) (Opl.p1 (n := Opl.nil ?_))))))))
 by_cases c1 : (Int.tmod a1 2) = 1
 case neg =>
  rw [if_neg c1] at H
  have e2 : ((Int.tmod a1 2) == 1) = false := by simpa using c1
  try rw [e2]
  refine Evr.condF rfl (Evr.skip (Evr.sr rfl (Opl.p1 (n := Opl.p1 (n := ?_)))))
  obtain ⟨c4, H⟩ := peel H
  obtain ⟨c5, H⟩ := peel H
  refine Opl.one (v := .lit (.int .i64 (wrap64 (Int.tdiv a1 2)))) rfl rfl (by simp only [go_sem]; rw [if_neg (by first | assumption | decide | omega)]; rfl) (Opl.idx (M := (cInt .i64)) (xs := l0) (j := (wrap64 (Int.tdiv a1 2))) (0 : Int) (by exact hv0) rfl (by omega) (by omega) K41 Z3 rfl rfl ?_)
  rintro p2 q2 h2
  obtain rfl : p2 = [.lit (.int .i64 (rd l0 (wrap64 (Int.tdiv a1 2))))] := h2
  refine Opl.lda (.lit (.int .i64 (rd l0 (wrap64 (Int.tdiv a1 2))))) rfl T3 rfl rfl rfl rfl (Opl.one (v := .lit (.int .i64 (rd l0 (wrap64 (Int.tdiv a1 2))))) rfl rfl rfl (Opl.nil ?_))
  obtain rfl := Option.some.inj H
  refine Evr.ret1 Try.func46 rfl ?_
  show (.lit (.int .i64 (rd l0 (wrap64 (Int.tdiv a1 2)))) : PV) = _
  first | rfl | (simp only [go_sem]; rfl)
 rw [if_pos c1] at H
 have e1 : ((Int.tmod a1 2) == 1) = true := by simpa using c1
 try rw [e1]
 refine Evr.condT rfl (Evr.sr rfl (Opl.p1 (n := Opl.p1 (n := ?_))))
 obtain ⟨c2, H⟩ := peel H
 obtain ⟨c3, H⟩ := peel H
 refine Opl.one (v := .lit (.int .i64 (wrap64 (Int.tdiv a1 2)))) rfl rfl (by simp only [go_sem]; rw [if_neg (by first | assumption | decide | omega)]; rfl) (Opl.idx (M := (cInt .i64)) (xs := l0) (j := (wrap64 (Int.tdiv a1 2))) (0 : Int) (by exact hv0) rfl (by omega) (by omega) K41 Z3 rfl rfl ?_)
 rintro p1 q1 h1
 obtain rfl : p1 = [.lit (.int .i64 (rd l0 (wrap64 (Int.tdiv a1 2))))] := h1
 refine Opl.lda (.lit (.int .i64 (rd l0 (wrap64 (Int.tdiv a1 2))))) rfl T3 rfl rfl rfl rfl (Opl.subi (k := .i64) (a := 1) (b := (rd l0 (wrap64 (Int.tdiv a1 2)))) K3 rfl rfl rfl rfl (Opl.one (v := .lit (.int .i64 (wrap64 (1 - (rd l0 (wrap64 (Int.tdiv a1 2))))))) rfl rfl rfl (Opl.nil ?_)))
 obtain rfl := Option.some.inj H
 refine Evr.ret1 Try.func46 rfl ?_
 show (.lit (.int .i64 (wrap64 (1 - (rd l0 (wrap64 (Int.tdiv a1 2)))))) : PV) = _
 first | rfl | (simp only [go_sem]; rfl)
theorem spec_l7Run.ev {k : Nat} {a0_0 : Int} {l0_1 : List IAnd} {v0_1 : PV} (hv0_1 : Sl cIAnd l0_1 v0_1) {l1 : List Int} {v1 : PV} (hv1 : Sl (cInt .i64) l1 v1) {r : (List Int)} (H : spec_l7Run.f k a0_0 l0_1 l1 = some r) : Ret Try.prog 47 [.agg [.lit (.int .i64 a0_0), v0_1], v1] fun v S => Vec (cInt .i64) r v S := by
 unfold spec_l7Run.f at H
 refine Ret.intro Try.func47 rfl (Nat.le_of_ble_eq_true rfl) rfl ?_
 rw [tm2]
 refine Evr.sr rfl (Opl.box (cs := [.lit (.int .i64 a0_0), v0_1]) rfl rfl rfl rfl ?_)
 rintro i1 S h1 u1 w1
 refine Opl.p1 (n := Opl.nil (Evr.sr rfl (Opl.lits (M := (cInt .i64)) (ys := [0]) [.const (.int .i64 0)] K41 T3 rfl rfl rfl (by exact ⟨rfl, trivial⟩) rfl (by decide) rfl rfl rfl ?_)))
 rintro pv1 S h2 u2 w2
 have ap1 := w2.box h1
 have h3 := u2.box h1 ap1
 refine Opl.p1 (n := Opl.nil (Evr.seq (Evr.sr rfl (Opl.p1 (n := Opl.nil (Evr.block ?_))))))
 refine Evr.loop (Evr.rounds (n := k) (Inv := fun n tm S => n ≤ k ∧ ∃ (x5_1 : List Int) (x6_1 : Int) (i2 : Abs.Id) (pv2 : PV), spec_l7Run.l0 n l1 x5_1 x6_1 a0_0 l0_1 = some r ∧ Has tm [(1, v1), (2, .ptr i2 0), (5, pv2), (6, .lit (.int .i64 x6_1))] ∧ Box (.ptr i2 0) [.lit (.int .i64 a0_0), v0_1] S ∧ Vec (cInt .i64) x5_1 pv2 S ∧ Ap (.ptr i2 0) pv2) ?_ ?_ ?_)
 · exact ⟨Nat.le_refl _, _, _, _, _, H, ⟨rfl, rfl, rfl, rfl, trivial⟩, h3, h2, ap1⟩
 ·
  rintro tm S ⟨_, _, _, _, _, H, -⟩
  simp [spec_l7Run.l0] at H
 ·
  rintro n1 ih1 tm S ⟨hle, x5_1, x6_1, i2, pv2, H, hh, h4, h5, ap2⟩
  simp only [spec_l7Run.l0] at H
  rw [hh.eq]
  refine Evr.seq (Evr.sr rfl (Opl.p1 (n := Opl.p1 (v := .ptr i2 0) (n := Opl.ldb (v := .lit (.int .i64 a0_0)) h4 rfl T3 rfl rfl rfl rfl (Opl.p1 (n := Opl.nil ?_))))))
  by_cases c1 : x6_1 < a0_0
  case pos =>
   rw [if_pos c1] at H
   have e1 : (decide (x6_1 < a0_0)) = true := by simpa using c1
   try rw [e1]
   refine Evr.condT rfl (Evr.skip (Evr.seq (Evr.block (Evr.regionN rfl (Opl.p1 (n := Opl.p1 (n := Opl.p1 (n := ?_))))))))
   obtain ⟨c2, H⟩ := peel H
   obtain ⟨c3, H⟩ := peel H
   obtain ⟨c4, H⟩ := peel H
   refine Opl.idx (M := (cInt .i64)) (xs := l1) (j := x6_1) (0 : Int) (by exact hv1) rfl (by omega) (by omega) K41 Z3 rfl rfl ?_
   rintro p1 q1 h6
   obtain rfl : p1 = [.lit (.int .i64 (rd l1 x6_1))] := h6
   refine Opl.lda (.lit (.int .i64 (rd l1 x6_1))) rfl T3 rfl rfl rfl rfl (Opl.lits (M := (cInt .i64)) (ys := [(rd l1 x6_1)]) [.tmp 19] K41 T3 rfl rfl rfl (by exact ⟨rfl, trivial⟩) rfl (by decide) rfl rfl rfl ?_)
   rintro pv3 S h7 u3 w3
   have ap3 := w3.box h4
   have h8 := u3.box h4 ap3
   have ap4 := w3.vec h5
   have h9 := u3.vec h5 ap4
   refine Opl.app (M := (cInt .i64)) (xs := x5_1) (ys := [(rd l1 x6_1)]) (v := pv2) h9 (.vec h7) (oInt .i64) rfl rfl K41 T3 rfl rfl (by (try simp only [List.length_cons, List.length_nil]); omega) (by show (_ + _) * 8 ≤ 140737488355328; (try simp only [List.length_cons, List.length_nil]); omega) rfl rfl rfl rfl rfl ?_
   rintro pv4 S h10 u4 w4
   have ap5 := w4.box h8
   have h11 := u4.box h8 ap2
   have ap6 := w4.vec h7
   have h12 := u4.vec h7 ap4.symm
   refine Opl.p1 (n := Opl.nil (Evr.inBlock (Evr.regionN rfl (Opl.p1 (n := Opl.add (k := .i64) (a := x6_1) (b := 1) K3 rfl rfl rfl rfl (Opl.one (v := .lit (.int .i64 (wrap64 (x6_1 + 1)))) rfl rfl rfl (Opl.nil ?_)))))))
   exact ih1 _ (by omega) _ _ ⟨by omega, _, _, _, _, H, ⟨rfl, rfl, rfl, rfl, trivial⟩, h11, h10, ap5⟩
  rw [if_neg c1] at H
  have e2 : (decide (x6_1 < a0_0)) = false := by simpa using c1
  try rw [e2]
  refine Evr.condF rfl (Evr.exit rfl (Evr.seq (Evr.sr rfl (Opl.p1 (n := Opl.nil (Evr.block ?_))))))
  refine Evr.loop (Evr.rounds (n := n1) (Inv := fun n tm S => n ≤ n1 ∧ ∃ (x5_2 : List Int) (x7_1 : Int) (i3 : Abs.Id) (pv5 : PV), spec_l7Run.l1 n x5_2 x7_1 a0_0 l0_1 = some r ∧ Has tm [(2, .ptr i3 0), (5, pv5), (7, .lit (.int .i64 x7_1))] ∧ Box (.ptr i3 0) [.lit (.int .i64 a0_0), v0_1] S ∧ Vec (cInt .i64) x5_2 pv5 S ∧ Ap (.ptr i3 0) pv5) ?_ ?_ ?_)
  · exact ⟨Nat.le_refl _, _, _, _, _, H, ⟨rfl, rfl, rfl, trivial⟩, h4, h5, ap2⟩
  ·
   rintro tm S ⟨_, _, _, _, _, H, -⟩
   simp [spec_l7Run.l1] at H
  ·
   rintro n2 ih2 tm S ⟨hle, x5_2, x7_1, i3, pv5, H, hh, h13, h14, ap7⟩
   simp only [spec_l7Run.l1] at H
   rw [hh.eq]
   refine Evr.seq (Evr.sr rfl (Opl.p1 (n := Opl.p1 (v := .ptr i3 1) (n := Opl.ldb (v := v0_1) h13 rfl T33 rfl rfl rfl rfl (Opl.len (xs := l0_1) (by exact hv0_1) K33 rfl rfl rfl rfl (Opl.p1 (n := Opl.nil ?_)))))))
   by_cases c5 : x7_1 < (l0_1.length : Int)
   case neg =>
    rw [if_neg c5] at H
    have e4 : (decide (x7_1 < (l0_1.length : Int))) = false := by simpa using c5
    try rw [e4]
    refine Evr.condF rfl (Evr.exit rfl (Evr.sr rfl (Opl.p1 (n := Opl.p1 (n := Opl.nil ?_)))))
    obtain rfl := Option.some.inj H
    refine Evr.ret1 Try.func47 rfl ?_
    show Vec _ _ pv5 _
    exact h14
   rw [if_pos c5] at H
   have e3 : (decide (x7_1 < (l0_1.length : Int))) = true := by simpa using c5
   try rw [e3]
   refine Evr.condT rfl (Evr.skip (Evr.seq (Evr.block (Evr.regionD rfl (by kernel_rfl) (Opl.p1 (n := Opl.p1 (n := Opl.p1 (v := .ptr i3 1) (n := Opl.ldb (v := v0_1) h13 rfl T33 rfl rfl rfl rfl (Opl.p1 (n := ?_))))))))))
   obtain ⟨c6, H⟩ := peel H
   refine Opl.idx (M := cIAnd) (xs := l0_1) (j := x7_1) zIAnd (by exact hv0_1) rfl (by omega) (by omega) K33 Z96 rfl rfl ?_
   rintro p2 q2 h15
   obtain rfl := cIAnd_R (x := (rd_IAnd l0_1 x7_1)) h15
   refine Opl.p1 (v := .fel ((.lit (.int .i64 ((rd_IAnd l0_1 x7_1).f0))) :: (.lit (.int .i64 ((rd_IAnd l0_1 x7_1).f1))) :: q2)) (n := Opl.lda (.lit (.int .i64 ((rd_IAnd l0_1 x7_1).f0))) rfl T3 rfl rfl rfl rfl ?_)
   obtain ⟨t211, h_t211, H⟩ := Option.bind_eq_some_iff.1 H
   obtain ⟨pv6, h16, -, h17⟩ := Out.vec h14
   refine Opl.callw (spec_l7Of.ev h17 h_t211) rfl rfl rfl (.cons h16 (.cons (.refl _) .nil)) ⟨h17.plain, (.lit _), trivial⟩ (by decide) (Opl.p1 (n := Opl.p1 (v := .ptr i3 1) (n := Opl.ldb (v := v0_1) h13 rfl T33 rfl rfl rfl rfl (Opl.p1 (n := Opl.idx (M := cIAnd) (xs := l0_1) (j := x7_1) zIAnd (by exact hv0_1) rfl (by omega) (by omega) K33 Z96 rfl rfl ?_)))))
   rintro p3 q3 h18
   obtain rfl := cIAnd_R (x := (rd_IAnd l0_1 x7_1)) h18
   refine Opl.p1 (v := .fel ((.lit (.int .i64 ((rd_IAnd l0_1 x7_1).f1))) :: q3)) (n := Opl.lda (.lit (.int .i64 ((rd_IAnd l0_1 x7_1).f1))) rfl T3 rfl rfl rfl rfl ?_)
   obtain ⟨t213, h_t213, H⟩ := Option.bind_eq_some_iff.1 H
   obtain ⟨pv7, h19, -, h20⟩ := Out.vec h14
   refine Opl.callw (spec_l7Of.ev h20 h_t213) rfl rfl rfl (.cons h19 (.cons (.refl _) .nil)) ⟨h20.plain, (.lit _), trivial⟩ (by decide) (Opl.mul (k := .i64) (a := t211) (b := t213) K3 rfl rfl rfl rfl (Opl.lits (M := (cInt .i64)) (ys := [(wrap64 (t211 * t213))]) [.tmp 46] K41 T3 rfl rfl rfl (by exact ⟨rfl, trivial⟩) rfl (by decide) rfl rfl rfl ?_))
   rintro pv8 S h21 u5 w5
   have ap8 := w5.box h13
   have h22 := u5.box h13 ap8
   have ap9 := w5.vec h14
   have h23 := u5.vec h14 ap9
   obtain ⟨c7, H⟩ := peel H
   refine Opl.app (M := (cInt .i64)) (xs := x5_2) (ys := [(wrap64 (t211 * t213))]) (v := pv5) h23 (.vec h21) (oInt .i64) rfl rfl K41 T3 rfl rfl (by (try simp only [List.length_cons, List.length_nil]); omega) (by show (_ + _) * 8 ≤ 140737488355328; (try simp only [List.length_cons, List.length_nil]); omega) rfl rfl rfl rfl rfl ?_
   rintro pv9 S h24 u6 w6
   have ap10 := w6.box h22
   have h25 := u6.box h22 ap7
   have ap11 := w6.vec h21
   have h26 := u6.vec h21 ap9.symm
   refine Opl.one (v := pv9) rfl rfl rfl (Opl.nil (Evr.inBlock (Evr.regionN rfl (Opl.one (v := .lit (.int .i64 x7_1)) rfl rfl rfl (Opl.add (k := .i64) (a := x7_1) (b := 1) K3 rfl rfl rfl rfl (Opl.one (v := .lit (.int .i64 (wrap64 (x7_1 + 1)))) rfl rfl rfl (Opl.nil ?_)))))))
   exact ih2 _ (by omega) _ _ ⟨by omega, _, _, _, _, H, ⟨rfl, rfl, rfl, trivial⟩, h25, h24, ap10⟩
theorem spec_LiesBetween.ev {k : Nat} {a0_0 : Int} {l0_1 : List (List Int)} {v0_1 : PV} (hv0_1 : Sl (cSl (cInt .i64)) l0_1 v0_1) {a1 : Int} {a2_0 : Int} {l2_1 : List IAnd} {v2_1 : PV} (hv2_1 : Sl cIAnd l2_1 v2_1) {a3 : Int} {r : Bool} (H : spec_LiesBetween.f k a0_0 l0_1 a1 a2_0 l2_1 a3 = some r) : Ret Try.prog 10 [.agg [.lit (.int .i64 a0_0), v0_1], .lit (.int .i64 a1), .agg [.lit (.int .i64 a2_0), v2_1], .lit (.int .i64 a3)] fun v S => v = .lit (.bool r) := by
 unfold spec_LiesBetween.f at H
 refine Ret.intro Try.func10 rfl (Nat.le_of_ble_eq_true rfl) rfl ?_
 rw [tm4]
 refine Evr.sr rfl (Opl.box (cs := [.lit (.int .i64 a0_0), v0_1]) rfl rfl rfl rfl ?_)
 rintro i1 S h1 u1 w1
 refine Opl.box (cs := [.lit (.int .i64 a2_0), v2_1]) rfl rfl rfl rfl ?_
 rintro i2 S h2 u2 w2
 have ap1 := w2.box h1
 have h3 := u2.box h1 ap1
 refine Opl.p1 (n := Opl.nil (Evr.seq (Evr.sr rfl (Opl.ldb (v := .agg [.lit (.int .i64 a0_0), v0_1]) h3 rfl T31 rfl rfl rfl rfl (Opl.p1 (n := ?_))))))
 obtain ⟨r1, h_r1, H⟩ := Option.bind_eq_some_iff.1 H
 refine Opl.callc (spec_l18Split.ev hv0_1 h_r1) rfl rfl rfl rfl ⟨(.aggL ⟨(.lit _), hv0_1.plain, trivial⟩), (.lit _), trivial⟩ (by decide) (Opl.p1 (n := Opl.p1 (n := ?_)))
 by_cases c1 : r1 = true
 case neg =>
  rw [if_neg c1] at H
  have e20 : (!r1) = true := by simpa using c1
  try rw [e20]
  refine Opl.skp rfl (Opl.skp rfl (Opl.skp rfl (Opl.p1 (n := Opl.p1 (n := Opl.skp rfl (Opl.skp rfl (Opl.skp rfl (Opl.skp rfl (Opl.skp rfl (Opl.p1 (n := Opl.p1 (n := Opl.skp rfl (Opl.skp rfl (Opl.skp rfl (Opl.skp rfl (Opl.p1 (n := Opl.nil (Evr.condT rfl (Evr.sr rfl (Opl.p1 (n := Opl.nil ?_)))))))))))))))))))))
  obtain rfl := Option.some.inj H
  refine Evr.ret1 Try.func10 rfl ?_
  show (.lit (.bool false) : PV) = _
  first | rfl | (simp only [go_sem]; rfl)
 rw [if_pos c1] at H
 have e1 : (!r1) = false := by simpa using c1
 try rw [e1]
 refine Opl.ldb (v := .agg [.lit (.int .i64 a2_0), v2_1]) h2 rfl T35 rfl rfl rfl rfl ?_
 obtain ⟨r2, h_r2, H⟩ := Option.bind_eq_some_iff.1 H
 refine Opl.callc (spec_CircuitValid.ev hv2_1 h_r2) rfl rfl rfl rfl ⟨(.aggL ⟨(.lit _), hv2_1.plain, trivial⟩), trivial⟩ (by decide) (Opl.p1 (n := Opl.p1 (n := Opl.p1 (n := ?_))))
 by_cases c2 : r2 = true
 case neg =>
  rw [if_neg c2] at H
  have e19 : (!r2) = true := by simpa using c2
  try rw [e19]
  refine Opl.skp rfl (Opl.skp rfl (Opl.skp rfl (Opl.skp rfl (Opl.skp rfl (Opl.p1 (n := Opl.p1 (n := Opl.skp rfl (Opl.skp rfl (Opl.skp rfl (Opl.skp rfl (Opl.p1 (n := Opl.nil (Evr.condT rfl (Evr.sr rfl (Opl.p1 (n := Opl.nil ?_))))))))))))))))
  obtain rfl := Option.some.inj H
  refine Evr.ret1 Try.func10 rfl ?_
  show (.lit (.bool false) : PV) = _
  first | rfl | (simp only [go_sem]; rfl)
 rw [if_pos c2] at H
 have e2 : (!r2) = false := by simpa using c2
 try rw [e2]
 refine Opl.p1 (v := .ptr i2 0) (n := Opl.ldb (v := .lit (.int .i64 a2_0)) h2 rfl T3 rfl rfl rfl rfl (Opl.p1 (v := .ptr i1 0) (n := Opl.ldb (v := .lit (.int .i64 a0_0)) h3 rfl T3 rfl rfl rfl rfl (Opl.p1 (n := Opl.p1 (n := Opl.p1 (n := ?_)))))))
 by_cases c3 : a2_0 ≠ a0_0
 case pos =>
  rw [if_pos c3] at H
  have e3 : (a2_0 != a0_0) = true := by simpa using c3
  try rw [e3]
  refine Opl.skp rfl (Opl.skp rfl (Opl.skp rfl (Opl.skp rfl (Opl.p1 (n := Opl.nil (Evr.condT rfl (Evr.sr rfl (Opl.p1 (n := Opl.nil ?_)))))))))
  obtain rfl := Option.some.inj H
  refine Evr.ret1 Try.func10 rfl ?_
  show (.lit (.bool false) : PV) = _
  first | rfl | (simp only [go_sem]; rfl)
 rw [if_neg c3] at H
 have e4 : (a2_0 != a0_0) = false := by simpa using c3
 try rw [e4]
 refine Opl.ldb (v := .agg [.lit (.int .i64 a2_0), v2_1]) h2 rfl T35 rfl rfl rfl rfl (Opl.p1 (n := ?_))
 obtain ⟨r3, h_r3, H⟩ := Option.bind_eq_some_iff.1 H
 refine Opl.callc (spec_l7Edge.ev hv2_1 h_r3) rfl rfl rfl rfl ⟨(.aggL ⟨(.lit _), hv2_1.plain, trivial⟩), (.lit _), trivial⟩ (by decide) (Opl.p1 (n := Opl.p1 (n := Opl.nil ?_)))
 by_cases c4 : r3 = true
 case neg =>
  rw [if_neg c4] at H
  have e18 : (!r3) = true := by simpa using c4
  try rw [e18]
  refine Evr.condT rfl (Evr.sr rfl (Opl.p1 (n := Opl.nil ?_)))
  obtain rfl := Option.some.inj H
  refine Evr.ret1 Try.func10 rfl ?_
  show (.lit (.bool false) : PV) = _
  first | rfl | (simp only [go_sem]; rfl)
 rw [if_pos c4] at H
 have e5 : (!r3) = false := by simpa using c4
 try rw [e5]
 refine Evr.condF rfl (Evr.skip (Evr.sr rfl (Opl.ldb (v := .agg [.lit (.int .i64 a0_0), v0_1]) h3 rfl T31 rfl rfl rfl rfl (Opl.p1 (n := ?_)))))
 obtain ⟨r4, h_r4, H⟩ := Option.bind_eq_some_iff.1 H
 refine Opl.call ((spec_SharedAtoms.ev hv0_1 h_r4).mono fun _ _ h => Out.vec h) rfl rfl rfl rfl ⟨(.aggL ⟨(.lit _), hv0_1.plain, trivial⟩), (.lit _), trivial⟩ (by decide) ?_
 rintro pv1 h4
 refine Opl.p1 (n := Opl.nil (Evr.sr rfl (Opl.ldb (v := .agg [.lit (.int .i64 a2_0), v2_1]) h2 rfl T35 rfl rfl rfl rfl (Opl.p1 (n := ?_)))))
 obtain ⟨r5, h_r5, H⟩ := Option.bind_eq_some_iff.1 H
 refine Opl.call ((spec_NeedsInputs.ev hv2_1 h_r5).mono fun _ _ h => Out.vec h) rfl rfl rfl rfl ⟨(.aggL ⟨(.lit _), hv2_1.plain, trivial⟩), (.lit _), trivial⟩ (by decide) ?_
 rintro pv2 h5
 refine Opl.p1 (n := Opl.nil (Evr.seq (Evr.sr rfl (Opl.p1 (n := Opl.nil (Evr.block ?_))))))
 refine Evr.loop (Evr.rounds (n := k) (Inv := fun n tm S => n ≤ k ∧ ∃ (x11_1 : Int) (i3 : Abs.Id) (i4 : Abs.Id), spec_LiesBetween.l1 n x11_1 a0_0 l0_1 a1 a2_0 l2_1 a3 r4 r5 = some r ∧ Has tm [(1, .lit (.int .i64 a1)), (3, .lit (.int .i64 a3)), (4, .ptr i3 0), (6, .ptr i4 0), (9, pv1), (10, pv2), (11, .lit (.int .i64 x11_1))] ∧ Box (.ptr i3 0) [.lit (.int .i64 a0_0), v0_1] S ∧ Box (.ptr i4 0) [.lit (.int .i64 a2_0), v2_1] S ∧ Ap (.ptr i3 0) (.ptr i4 0)) ?_ ?_ ?_)
 · exact ⟨Nat.le_refl _, _, _, _, H, ⟨rfl, rfl, rfl, rfl, rfl, rfl, rfl, trivial⟩, h3, h2, ap1⟩
 ·
  rintro tm S ⟨_, _, _, _, H, -⟩
  simp [spec_LiesBetween.l1] at H
 ·
  rintro n1 ih1 tm S ⟨hle, x11_1, i3, i4, H, hh, h6, h7, ap2⟩
  simp only [spec_LiesBetween.l1] at H
  rw [hh.eq]
  refine Evr.seq (Evr.sr rfl (Opl.p1 (n := Opl.p1 (n := Opl.len (xs := r5) (by exact h5) K41 rfl rfl rfl rfl (Opl.p1 (n := Opl.nil ?_))))))
  by_cases c5 : x11_1 < (r5.length : Int)
  case pos =>
   rw [if_pos c5] at H
   have e6 : (decide (x11_1 < (r5.length : Int))) = true := by simpa using c5
   try rw [e6]
   refine Evr.condT rfl (Evr.skip (Evr.seq (Evr.block (Evr.sr rfl (Opl.p1 (n := Opl.p1 (n := Opl.p1 (n := ?_))))))))
   obtain ⟨c6, H⟩ := peel H
   obtain ⟨c7, H⟩ := peel H
   refine Opl.idx (M := (cInt .i64)) (xs := r5) (j := x11_1) (0 : Int) (by exact h5) rfl (by omega) (by omega) K41 Z3 rfl rfl ?_
   rintro p1 q1 h8
   obtain rfl : p1 = [.lit (.int .i64 (rd r5 x11_1))] := h8
   refine Opl.lda (.lit (.int .i64 (rd r5 x11_1))) rfl T3 rfl rfl rfl rfl (Opl.add (k := .i64) (a := (rd r5 x11_1)) (b := 1) K3 rfl rfl rfl rfl ?_)
   obtain ⟨r6, h_r6, H⟩ := Option.bind_eq_some_iff.1 H
   refine Opl.callc (spec_l2Has.ev h4 h_r6) rfl rfl rfl rfl ⟨h4.plain, (.lit _), trivial⟩ (by decide) (Opl.p1 (n := Opl.nil ?_))
   by_cases c8 : r6 = true
   case neg =>
    rw [if_neg c8] at H
    have e8 : (!r6) = true := by simpa using c8
    try rw [e8]
    refine Evr.condT rfl (Evr.sr rfl (Opl.one (v := .lit (.bool false)) rfl rfl rfl (Opl.nil ?_)))
    obtain rfl := Option.some.inj H
    refine Evr.ret1 Try.func10 rfl ?_
    show (.lit (.bool false) : PV) = _
    first | rfl | (simp only [go_sem]; rfl)
   rw [if_pos c8] at H
   have e7 : (!r6) = false := by simpa using c8
   try rw [e7]
   refine Evr.condF rfl (Evr.skip (Evr.inBlock (Evr.regionN rfl (Opl.one (v := .lit (.int .i64 x11_1)) rfl rfl rfl (Opl.add (k := .i64) (a := x11_1) (b := 1) K3 rfl rfl rfl rfl (Opl.one (v := .lit (.int .i64 (wrap64 (x11_1 + 1)))) rfl rfl rfl (Opl.nil ?_)))))))
   exact ih1 _ (by omega) _ _ ⟨by omega, _, _, _, H, ⟨rfl, rfl, rfl, rfl, rfl, rfl, rfl, trivial⟩, h6, h7, ap2⟩
  rw [if_neg c5] at H
  have e9 : (decide (x11_1 < (r5.length : Int))) = false := by simpa using c5
  try rw [e9]
  refine Evr.condF rfl (Evr.exit rfl (Evr.seq (Evr.frzb 4 h6 rfl ?_)))
  rintro S u3
  have h9 := u3.box h7 ap2.symm
  refine Evr.regionL [(1, .p), (3, .p), (5, .p)] rfl (by kernel_rfl) (Opl.p1 (v := .fel ((.lit (.int .i64 a0_0)) :: v0_1 :: [])) (n := Opl.ldp (.lit (.int .i64 a0_0)) rfl T3 rfl rfl rfl (Opl.p1 (v := .fel (v0_1 :: [])) (n := Opl.ldp (v0_1) rfl T22 rfl rfl rfl (Opl.p1 (n := ?_))))))
  obtain ⟨c9, H⟩ := peel H
  obtain ⟨c10, H⟩ := peel H
  obtain ⟨c11, H⟩ := peel H
  obtain ⟨c12, H⟩ := peel H
  refine Opl.plcT (M := (cSl (cInt .i64))) (b := a1) (by exact hv0_1) rfl  (by omega) (by omega) K22 Z41 rfl rfl ?_
  rintro pv3 h10
  refine Opl.one (v := .agg [.lit (.int .i64 a0_0), pv3]) rfl rfl (by simp only [go_sem]; simp only [fillL, Sl.cells h10]; rfl) (Opl.alloc T31 rfl rfl rfl ?_)
  rintro i5 S h11 u4 w3
  have ap3 := w3.box h9
  have h12 := u4.box h9 ap3
  refine Opl.stb (vs := [.lit (.int .i64 a0_0), pv3]) h11 rfl rfl Z31 rfl (Nat.le_of_ble_eq_true rfl) (by simp only [List.all_cons, List.all_nil, h10.one, Bool.and_true, Bool.true_and] <;> rfl) rfl rfl rfl ?_
  rintro S (h13 : Box (.ptr i5 0) [.lit (.int .i64 a0_0), pv3] _) u5
  have h14 := u5.box h12 ap3
  refine Opl.nil (Evr.seq (Evr.regionL [(1, .p), (3, .p), (5, .p)] rfl (by kernel_rfl) (Opl.p1 (v := .fel ((.lit (.int .i64 a0_0)) :: v0_1 :: [])) (n := Opl.ldp (.lit (.int .i64 a0_0)) rfl T3 rfl rfl rfl (Opl.p1 (v := .fel (v0_1 :: [])) (n := Opl.ldp (v0_1) rfl T22 rfl rfl rfl (Opl.p1 (n := Opl.plcD (M := (cSl (cInt .i64))) (a := a1) (by exact hv0_1) rfl  (by omega) (by omega) K22 Z41 rfl rfl ?_))))))))
  rintro pv4 h15
  refine Opl.one (v := .agg [.lit (.int .i64 a0_0), pv4]) rfl rfl (by simp only [go_sem]; simp only [fillL, Sl.cells h15]; rfl) (Opl.alloc T31 rfl rfl rfl ?_)
  rintro i6 S h16 u6 w5
  have ap4 := w5.box h14
  have h17 := u6.box h14 ap4
  have ap5 := w5.box h13
  have h18 := u6.box h13 ap5
  refine Opl.stb (vs := [.lit (.int .i64 a0_0), pv4]) h16 rfl rfl Z31 rfl (Nat.le_of_ble_eq_true rfl) (by simp only [List.all_cons, List.all_nil, h15.one, Bool.and_true, Bool.true_and] <;> rfl) rfl rfl rfl ?_
  rintro S (h19 : Box (.ptr i6 0) [.lit (.int .i64 a0_0), pv4] _) u7
  have h20 := u7.box h17 ap4
  have h21 := u7.box h18 ap5
  refine Opl.nil (Evr.seq (Evr.sr rfl (Opl.p1 (n := Opl.nil (Evr.block ?_)))))
  refine Evr.loop (Evr.rounds (n := n1) (Inv := fun n tm S => n ≤ n1 ∧ ∃ (x14q4_1 : Int) (i7 : Abs.Id) (i8 : Abs.Id) (i9 : Abs.Id), spec_LiesBetween.l2 n x14q4_1 a0_0 l0_1 a1 a2_0 l2_1 a3 = some r ∧ Has tm [(3, .lit (.int .i64 a3)), (4, .fel ((.lit (.int .i64 a0_0)) :: v0_1 :: [])), (6, .ptr i7 0), (12, .ptr i8 0), (13, .ptr i9 0), (14, .lit (.int .i64 x14q4_1))] ∧ Box (.ptr i7 0) [.lit (.int .i64 a2_0), v2_1] S ∧ Box (.ptr i8 0) [.lit (.int .i64 a0_0), pv3] S ∧ Box (.ptr i9 0) [.lit (.int .i64 a0_0), pv4] S ∧ Ap (.ptr i7 0) (.ptr i8 0) ∧ Ap (.ptr i7 0) (.ptr i9 0) ∧ Ap (.ptr i8 0) (.ptr i9 0)) ?_ ?_ ?_)
  · exact ⟨Nat.le_refl _, _, _, _, _, H, ⟨rfl, rfl, rfl, rfl, rfl, rfl, trivial⟩, h20, h21, h19, ap3, ap4, ap5⟩
  ·
   rintro tm S ⟨_, _, _, _, _, H, -⟩
   simp [spec_LiesBetween.l2] at H
  ·
   rintro n2 ih2 tm S ⟨hle, x14q4_1, i7, i8, i9, H, hh, h22, h23, h24, ap6, ap7, ap8⟩
   simp only [spec_LiesBetween.l2] at H
   rw [hh.eq]
   refine Evr.seq (Evr.sr rfl (Opl.p1 (n := Opl.p1 (v := .fel ((.lit (.int .i64 a0_0)) :: v0_1 :: [])) (n := Opl.lda (.lit (.int .i64 a0_0)) rfl T3 rfl rfl rfl rfl ?_))))
   obtain ⟨c13, H⟩ := peel H
   refine Opl.one (v := .lit (.int .i64 (shl .i64 1 a0_0))) rfl rfl (by simp only [go_sem]; rw [if_neg (by omega)]; simp only [shl, w64, IntKind.bits]; rfl) (Opl.p1 (n := Opl.nil ?_))
   by_cases c14 : x14q4_1 < (shl .i64 1 a0_0)
   case neg =>
    rw [if_neg c14] at H
    have e17 : (decide (x14q4_1 < (shl .i64 1 a0_0))) = false := by simpa using c14
    try rw [e17]
    refine Evr.condF rfl (Evr.exit rfl (Evr.sr rfl (Opl.p1 (n := Opl.nil ?_))))
    obtain rfl := Option.some.inj H
    refine Evr.ret1 Try.func10 rfl ?_
    show (.lit (.bool true) : PV) = _
    first | rfl | (simp only [go_sem]; rfl)
   rw [if_pos c14] at H
   have e10 : (decide (x14q4_1 < (shl .i64 1 a0_0))) = true := by simpa using c14
   try rw [e10]
   refine Evr.condT rfl (Evr.skip (Evr.seq (Evr.block (Evr.sr rfl (Opl.p1 (n := Opl.p1 (v := .fel ((.lit (.int .i64 a0_0)) :: v0_1 :: [])) (n := Opl.lda (.lit (.int .i64 a0_0)) rfl T3 rfl rfl rfl rfl ?_)))))))
   obtain ⟨r7, h_r7, H⟩ := Option.bind_eq_some_iff.1 H
   refine Opl.call ((spec_l6Value.ev h_r7).mono fun _ _ h => Out.vec h) rfl rfl rfl rfl ⟨(.lit _), (.lit _), trivial⟩ (by decide) ?_
   rintro pv5 h25
   refine Opl.p1 (n := Opl.nil (Evr.sr rfl (Opl.ldb (v := .agg [.lit (.int .i64 a2_0), v2_1]) h22 rfl T35 rfl rfl rfl rfl (Opl.p1 (n := ?_)))))
   obtain ⟨r8, h_r8, H⟩ := Option.bind_eq_some_iff.1 H
   refine Opl.call ((spec_l7Run.ev hv2_1 h25 h_r8).mono fun _ _ h => Out.vec h) rfl rfl rfl rfl ⟨(.aggL ⟨(.lit _), hv2_1.plain, trivial⟩), h25.plain, trivial⟩ (by decide) ?_
   rintro pv6 h26
   refine Opl.p1 (n := ?_)
   obtain ⟨r9, h_r9, H⟩ := Option.bind_eq_some_iff.1 H
   refine Opl.callc (spec_l7Of.ev h26 h_r9) rfl rfl rfl rfl ⟨h26.plain, (.lit _), trivial⟩ (by decide) (Opl.p1 (n := Opl.nil (Evr.seq ?_)))
   refine Evr.join2 (fun tm S => ∃ (kq1 : Nat) (i10 : Abs.Id) (i11 : Abs.Id) (i12 : Abs.Id), spec_LiesBetween.l2 kq1 (wrap64 (x14q4_1 + 1)) a0_0 l0_1 a1 a2_0 l2_1 a3 = some r ∧ kq1 ≤ n2 ∧ Has tm [(3, .lit (.int .i64 a3)), (4, .fel ((.lit (.int .i64 a0_0)) :: v0_1 :: [])), (6, .ptr i10 0), (12, .ptr i11 0), (13, .ptr i12 0), (14, .lit (.int .i64 x14q4_1))] ∧ Box (.ptr i10 0) [.lit (.int .i64 a2_0), v2_1] S ∧ Box (.ptr i11 0) [.lit (.int .i64 a0_0), pv3] S ∧ Box (.ptr i12 0) [.lit (.int .i64 a0_0), pv4] S ∧ Ap (.ptr i10 0) (.ptr i11 0) ∧ Ap (.ptr i10 0) (.ptr i12 0) ∧ Ap (.ptr i11 0) (.ptr i12 0)) ?_ fun hk1 => ?_
   ·
    rintro tm S ⟨kq1, i10, i11, i12, H, hle, hh, h27, h28, h29, ap9, ap10, ap11⟩
    rw [hh.eq]
    refine Evr.inBlock (Evr.regionN rfl (Opl.p1 (n := Opl.add (k := .i64) (a := x14q4_1) (b := 1) K3 rfl rfl rfl rfl (Opl.one (v := .lit (.int .i64 (wrap64 (x14q4_1 + 1)))) rfl rfl rfl (Opl.nil ?_)))))
    exact ih2 _ (by omega) _ _ ⟨by omega, _, _, _, _, H, ⟨rfl, rfl, rfl, rfl, rfl, rfl, trivial⟩, h27, h28, h29, ap9, ap10, ap11⟩
   ·
    refine Evr.regionN rfl (Opl.p1 (n := Opl.p1 (n := Opl.p1 (n := ?_))))
    by_cases c15 : r9 = 0
    case neg =>
     rw [if_neg c15] at H
     have e14 : (r9 == 0) = false := by simpa using c15
     try rw [e14]
     refine Opl.skp rfl (Opl.skp rfl (Opl.skp rfl (Opl.p1 (n := Opl.p1 (n := Opl.p1 (n := Opl.p1 (n := Opl.p1 (n := ?_))))))))
     by_cases c19 : r9 = 1
     case neg =>
      rw [if_neg c19] at H
      have e16 : (r9 == 1) = false := by simpa using c19
      try rw [e16]
      refine Opl.skp rfl (Opl.skp rfl (Opl.skp rfl (Opl.p1 (n := Opl.p1 (n := Opl.nil (Evr.condF rfl (Evr.skip ?_)))))))
      exact hk1 _ _ ⟨_, _, _, _, H, by omega, ⟨rfl, rfl, rfl, rfl, rfl, rfl, trivial⟩, h22, h23, h24, ap6, ap7, ap8⟩
     rw [if_pos c19] at H
     have e15 : (r9 == 1) = true := by simpa using c19
     try rw [e15]
     refine Opl.ldb (v := .agg [.lit (.int .i64 a0_0), pv4]) h24 rfl T31 rfl rfl rfl rfl (Opl.p1 (n := ?_))
     obtain ⟨r12, h_r12, H⟩ := Option.bind_eq_some_iff.1 H
     refine Opl.callc (spec_TrueIn.ev h15 h25 h_r12) rfl rfl rfl rfl ⟨(.aggL ⟨(.lit _), h15.plain, trivial⟩), h25.plain, trivial⟩ (by decide) (Opl.p1 (n := Opl.p1 (n := Opl.nil ?_)))
     by_cases c20 : r12 = true
     case neg =>
      rw [if_neg c20] at H
      obtain rfl : r12 = false := by simpa using c20
      refine Evr.condF rfl (Evr.skip ?_)
      exact hk1 _ _ ⟨_, _, _, _, H, by omega, ⟨rfl, rfl, rfl, rfl, rfl, rfl, trivial⟩, h22, h23, h24, ap6, ap7, ap8⟩
     rw [if_pos c20] at H
     obtain rfl : r12 = true := by simpa using c20
     refine Evr.condT rfl (Evr.sr rfl (Opl.p1 (n := Opl.nil ?_)))
     obtain rfl := Option.some.inj H
     refine Evr.ret1 Try.func10 rfl ?_
     show (.lit (.bool false) : PV) = _
     first | rfl | (simp only [go_sem]; rfl)
    rw [if_pos c15] at H
    have e11 : (r9 == 0) = true := by simpa using c15
    try rw [e11]
    refine Opl.ldb (v := .agg [.lit (.int .i64 a0_0), pv3]) h23 rfl T31 rfl rfl rfl rfl (Opl.p1 (n := ?_))
    obtain ⟨r10, h_r10, H⟩ := Option.bind_eq_some_iff.1 H
    refine Opl.callc (spec_TrueIn.ev h10 h25 h_r10) rfl rfl rfl rfl ⟨(.aggL ⟨(.lit _), h10.plain, trivial⟩), h25.plain, trivial⟩ (by decide) (Opl.p1 (n := Opl.p1 (n := ?_)))
    by_cases c16 : r10 = true
    case pos =>
     rw [if_pos c16] at H
     obtain rfl : r10 = true := by simpa using c16
     refine Opl.skp rfl (Opl.skp rfl (Opl.skp rfl (Opl.skp rfl (Opl.skp rfl (Opl.skp rfl (Opl.skp rfl (Opl.p1 (n := Opl.nil (Evr.condT rfl (Evr.sr rfl (Opl.p1 (n := Opl.nil ?_))))))))))))
     obtain rfl := Option.some.inj H
     refine Evr.ret1 Try.func10 rfl ?_
     show (.lit (.bool false) : PV) = _
     first | rfl | (simp only [go_sem]; rfl)
    rw [if_neg c16] at H
    obtain rfl : r10 = false := by simpa using c16
    refine Opl.p1 (n := Opl.p1 (n := Opl.p1 (n := ?_)))
    by_cases c17 : r9 = 1
    case neg =>
     rw [if_neg c17] at H
     have e13 : (r9 == 1) = false := by simpa using c17
     try rw [e13]
     refine Opl.skp rfl (Opl.skp rfl (Opl.skp rfl (Opl.p1 (n := Opl.p1 (n := Opl.nil (Evr.condF rfl (Evr.skip ?_)))))))
     exact hk1 _ _ ⟨_, _, _, _, H, by omega, ⟨rfl, rfl, rfl, rfl, rfl, rfl, trivial⟩, h22, h23, h24, ap6, ap7, ap8⟩
    rw [if_pos c17] at H
    have e12 : (r9 == 1) = true := by simpa using c17
    try rw [e12]
    refine Opl.ldb (v := .agg [.lit (.int .i64 a0_0), pv4]) h24 rfl T31 rfl rfl rfl rfl (Opl.p1 (n := ?_))
    obtain ⟨r11, h_r11, H⟩ := Option.bind_eq_some_iff.1 H
    refine Opl.callc (spec_TrueIn.ev h15 h25 h_r11) rfl rfl rfl rfl ⟨(.aggL ⟨(.lit _), h15.plain, trivial⟩), h25.plain, trivial⟩ (by decide) (Opl.p1 (n := Opl.p1 (n := Opl.nil ?_)))
    by_cases c18 : r11 = true
    case neg =>
     rw [if_neg c18] at H
     obtain rfl : r11 = false := by simpa using c18
     refine Evr.condF rfl (Evr.skip ?_)
     exact hk1 _ _ ⟨_, _, _, _, H, by omega, ⟨rfl, rfl, rfl, rfl, rfl, rfl, trivial⟩, h22, h23, h24, ap6, ap7, ap8⟩
    rw [if_pos c18] at H
    obtain rfl : r11 = true := by simpa using c18
    refine Evr.condT rfl (Evr.sr rfl (Opl.p1 (n := Opl.nil ?_)))
    obtain rfl := Option.some.inj H
    refine Evr.ret1 Try.func10 rfl ?_
    show (.lit (.bool false) : PV) = _
    first | rfl | (simp only [go_sem]; rfl)
end Go.Proofs.Ytaajnneigmgikaa.PA
