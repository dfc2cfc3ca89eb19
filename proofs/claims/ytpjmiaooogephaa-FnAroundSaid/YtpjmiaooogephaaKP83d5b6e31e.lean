/- Walks of Go functions: each is shown to answer as the Lean function beside it tells, under the conditions that its theorem names. -/
import Derived.Test.YtpjmiaooogephaaProg
import Derived.KernelRfl
import Derived.Below
import Derived.Deep.Draws
import Derived.Deep.AppendLies
import Derived.Maps.AppendAt
import Derived.OwnWalk
import Derived.Laws.BytesArg
import Derived.Laws.MakeOwn
import Derived.Laws.OwnMore
import Derived.Deep.OwnRows
import Derived.Tactics
import Derived.Lib.ConvBytes
import Derived.Laws.Slices
import Derived.WalkKit
import Derived.RowKit3
import Derived.Deep.LoopGhost
import Derived.Deep.QuietTactic
import Derived.BigQuiet
import Derived.WideLaws
import Derived.Deep.DeepCutAuto
import Derived.Deep.CutBlock
import Derived.Deep.RegionHeld3
import Derived.Laws.Rows
import Derived.Lib.AppendStr
import Derived.ArgAppend
import Derived.Laws.IdiomCopy
import Derived.OrdersHeld
import Derived.Laws.BitsLemmas
import Derived.RowKit
import Derived.Laws.StructEq
import Derived.Lib.SliceRun
import Derived.WalkSpells
import Derived.ChangeArms
import Derived.ChangeSlices
import Derived.Deep.Slices
import Derived.Attr
import Derived.Laws.Append
import Derived.Laws.AppendOwn
import Derived.Laws.Entries
import Derived.Calls
import Derived.Laws.Sem
import Derived.Test.YtpjmiaooogephaaKP66bcba1424
namespace Go.Proofs.Ytpjmiaooogephaa.PA
open Go Go.Abs Go.RowKit Go.Proofs Go.Proofs.YtpjmiaooogephaaW.PrintWords Go.Proofs.YtpjmiaooogephaaW.PrintLast Go.Proofs.YtpjmiaooogephaaW.PrintMore
set_option maxRecDepth 100000
set_option maxHeartbeats 4000000
set_option linter.unusedVariables false
set_option linter.unusedSimpArgs false
theorem spec_l4Marks.ev {k : Nat} {l0 : List Int} {v0 : PV} (hv0 : Sl (cInt .i64) l0 v0) {a1 : Int} {r : (List Bool)} (H : spec_l4Marks.f k l0 a1 = some r) : Ret Try.prog 182 [v0, .lit (.int .i64 a1)] fun v S => Vec cBool r v S := by
 unfold spec_l4Marks.f at H
 refine Ret.intro Try.func182 rfl (Nat.le_of_ble_eq_true rfl) rfl ?_
 rw [tm2]
 refine Evr.sr rfl (Opl.p1 (n := Opl.nil (Evr.sr rfl (Opl.p1 (n := ?_)))))
 obtain ⟨c1, H⟩ := peel H
 obtain ⟨c2, H⟩ := peel H
 refine Opl.make (M := cBool) (m := a1) false (by exact rfl) rfl rfl K91 T4 rfl (by omega) (by show (a1).toNat * 1 ≤ 281474976710656; omega) (by omega) rfl rfl rfl ?_
 rintro pv1 S h1 u1 w1
 refine Opl.p1 (n := Opl.nil (Evr.seq (Evr.sr rfl (Opl.p1 (n := Opl.nil (Evr.block ?_))))))
 refine Evr.loop (Evr.rounds (n := k) (Inv := fun n tm S => n ≤ k ∧ ∃ (x5_1 : List Bool) (x6_1 : Int) (pv2 : PV), spec_l4Marks.l0 n l0 x5_1 x6_1 = some r ∧ Has tm [(0, v0), (5, pv2), (6, .lit (.int .i64 x6_1))] ∧ Vec cBool x5_1 pv2 S) ?_ ?_ ?_)
 · exact ⟨Nat.le_refl _, _, _, _, H, ⟨rfl, rfl, rfl, trivial⟩, h1⟩
 ·
  rintro tm S ⟨_, _, _, _, H, -⟩
  simp [spec_l4Marks.l0] at H
 ·
  rintro n1 ih1 tm S ⟨hle, x5_1, x6_1, pv2, H, hh, h2⟩
  simp only [spec_l4Marks.l0] at H
  rw [hh.eq]
  refine Evr.seq (Evr.sr rfl (Opl.p1 (n := Opl.p1 (n := Opl.len (xs := l0) (by exact hv0) K27 rfl rfl rfl rfl (Opl.p1 (n := Opl.nil ?_))))))
  by_cases c3 : x6_1 < (l0.length : Int)
  case neg =>
   rw [if_neg c3] at H
   have e2 : (decide (x6_1 < (l0.length : Int))) = false := by simpa using c3
   try rw [e2]
   refine Evr.condF rfl (Evr.exit rfl (Evr.sr rfl (Opl.p1 (n := Opl.p1 (n := Opl.nil ?_)))))
   obtain rfl := sinj H
   refine Evr.ret1 Try.func182 rfl ?_
   show Vec _ _ pv2 _
   exact h2
  rw [if_pos c3] at H
  have e1 : (decide (x6_1 < (l0.length : Int))) = true := by simpa using c3
  try rw [e1]
  refine Evr.condT rfl (Evr.skip (Evr.seq (Evr.block (Evr.regionN rfl (Opl.p1 (n := Opl.p1 (n := Opl.p1 (n := ?_))))))))
  obtain ⟨c4, H⟩ := peel H
  obtain ⟨c5, H⟩ := peel H
  obtain ⟨c6, H⟩ := peel H
  refine Opl.idx (M := (cInt .i64)) (xs := l0) (j := x6_1) (0 : Int) (by exact hv0) rfl (by omega) (by omega) K27 Z3 rfl rfl ?_
  rintro p1 q1 h3
  obtain rfl : p1 = [.lit (.int .i64 (rd l0 x6_1))] := h3
  refine Opl.lda (.lit (.int .i64 (rd l0 x6_1))) rfl T3 rfl rfl rfl rfl (Opl.idv (M := cBool) (xs := x5_1) (j := (rd l0 x6_1)) (v := pv2) h2 rfl rfl (by omega) (by omega) K91 Z4 rfl rfl ?_)
  rintro d1 z1 q2 h4 h5
  refine Opl.stv (M := cBool) (xs := x5_1) (j := (rd l0 x6_1)) (y := true) (vs := [.lit (.bool true)]) h4 h5 (by omega) (by omega) rfl rfl (by exact rfl) Z4 rfl rfl rfl rfl ?_
  rw [← q2]
  rintro S h6 u2
  refine Opl.nil (Evr.inBlock (Evr.regionN rfl (Opl.p1 (n := Opl.add (k := .i64) (a := x6_1) (b := 1) K3 rfl rfl rfl rfl (Opl.one (v := .lit (.int .i64 (wrap64 (x6_1 + 1)))) rfl rfl rfl (Opl.nil ?_))))))
  exact ih1 _ (by omega) _ _ ⟨by omega, _, _, _, H, ⟨rfl, rfl, rfl, trivial⟩, h6⟩
theorem spec_l1In.ev {a0 : Int} {a1 : Int} {a2 : Int} {r : Bool} (H : spec_l1In.f a0 a1 a2 = some r) : Ret Try.prog 63 [.lit (.int .i64 a0), .lit (.int .i64 a1), .lit (.int .i64 a2)] fun v S => v = .lit (.bool r) := by
 unfold spec_l1In.f at H
 refine Ret.intro Try.func63 rfl (Nat.le_of_ble_eq_true rfl) rfl ?_
 rw [tm3]
 refine Evr.sr rfl (Opl.p1 (n := Opl.nil (Evr.sr rfl (Opl.p1 (n := Opl.p1 (n := Opl.p1 (n := Opl.p1 (n := ?_))))))))
 by_cases c1 : a0 ≥ a1
 case neg =>
  rw [if_neg c1] at H
  have e2 : (decide (a0 ≥ a1)) = false := by simpa using c1
  try rw [e2]
  refine Opl.sk2 rfl rfl (Opl.skp rfl (Opl.p1 (n := Opl.p1 (n := Opl.nil ?_))))
  obtain rfl := sinj H
  refine Evr.ret1 Try.func63 rfl ?_
  show (.lit (.bool false) : PV) = _
  first | rfl | (simp only [go_sem]; rfl)
 rw [if_pos c1] at H
 have e1 : (decide (a0 ≥ a1)) = true := by simpa using c1
 try rw [e1]
 refine Opl.p1 (n := Opl.p1 (n := Opl.p1 (n := Opl.p1 (n := Opl.p1 (n := Opl.nil ?_)))))
 obtain rfl := sinj H
 refine Evr.ret1 Try.func63 rfl ?_
 show (.lit (.bool (decide (a0 ≤ a2))) : PV) = _
 first | rfl | (simp only [go_sem]; rfl)
theorem spec_l4Set.ev {k : Nat} {l0 : List Int} {v0 : PV} (hv0 : Sl (cInt .i64) l0 v0) {r : Bool} (H : spec_l4Set.f k l0 = some r) : Ret Try.prog 181 [v0] fun v S => v = .lit (.bool r) := by
 unfold spec_l4Set.f at H
 refine Ret.intro Try.func181 rfl (Nat.le_of_ble_eq_true rfl) rfl ?_
 rw [tm1]
 refine Evr.sr rfl (Opl.p1 (n := Opl.nil (Evr.seq (Evr.sr rfl (Opl.p1 (n := Opl.nil (Evr.block ?_)))))))
 refine Evr.loop (Evr.rounds (n := k) (Inv := fun n tm S => n ≤ k ∧ ∃ (x3_1 : Int), spec_l4Set.l0 n l0 x3_1 = some r ∧ Has tm [(0, v0), (3, .lit (.int .i64 x3_1))]) ?_ ?_ ?_)
 · exact ⟨Nat.le_refl _, _, H, ⟨rfl, rfl, trivial⟩⟩
 ·
  rintro tm S ⟨_, _, H, -⟩
  simp [spec_l4Set.l0] at H
 ·
  rintro n1 ih1 tm S ⟨hle, x3_1, H, hh⟩
  simp only [spec_l4Set.l0] at H
  rw [hh.eq]
  refine Evr.seq (Evr.sr rfl (Opl.p1 (n := Opl.p1 (n := Opl.len (xs := l0) (by exact hv0) K27 rfl rfl rfl rfl (Opl.p1 (n := Opl.nil ?_))))))
  by_cases c1 : x3_1 < (l0.length : Int)
  case neg =>
   rw [if_neg c1] at H
   have e8 : (decide (x3_1 < (l0.length : Int))) = false := by simpa using c1
   try rw [e8]
   refine Evr.condF rfl (Evr.exit rfl (Evr.sr rfl (Opl.p1 (n := Opl.nil ?_))))
   obtain rfl := sinj H
   refine Evr.ret1 Try.func181 rfl ?_
   show (.lit (.bool true) : PV) = _
   first | rfl | (simp only [go_sem]; rfl)
  rw [if_pos c1] at H
  have e1 : (decide (x3_1 < (l0.length : Int))) = true := by simpa using c1
  try rw [e1]
  refine Evr.condT rfl (Evr.skip (Evr.seq (Evr.block (Evr.seq (Evr.regionD rfl (by kernel_rfl) (Opl.p1 (n := Opl.p1 (n := ?_))))))))
  obtain ⟨c2, H⟩ := peel H
  refine Opl.idx (M := (cInt .i64)) (xs := l0) (j := x3_1) (0 : Int) (by exact hv0) rfl (by omega) (by omega) K27 Z3 rfl rfl ?_
  rintro p1 q1 h1
  obtain rfl : p1 = [.lit (.int .i64 (rd l0 x3_1))] := h1
  refine Opl.lda (.lit (.int .i64 (rd l0 x3_1))) rfl T3 rfl rfl rfl rfl ?_
  obtain ⟨t628, h_t628, H⟩ := obs H
  refine Opl.callc (spec_l1In.ev h_t628) rfl rfl rfl rfl ⟨(.lit _), (.lit _), (.lit _), trivial⟩ (by decide) (Opl.p1 (n := Opl.p1 (n := ?_)))
  by_cases c3 : t628 = true
  case neg =>
   rw [if_neg c3] at H
   have e7 : (!t628) = true := by simpa using c3
   try rw [e7]
   refine Opl.sk8 rfl rfl rfl rfl rfl rfl rfl rfl (Opl.sk4 rfl rfl rfl rfl (Opl.sk2 rfl rfl (Opl.p1 (n := Opl.nil (Evr.condT rfl (Evr.sr rfl (Opl.p1 (n := Opl.nil ?_))))))))
   obtain _ | k3 := n1
   · simp [spec_l4Set.j1] at H
   simp only [spec_l4Set.j1] at H
   rw [if_pos (by first | rfl | trivial)] at H
   obtain rfl := sinj H
   refine Evr.ret1 Try.func181 rfl ?_
   show (.lit (.bool false) : PV) = _
   first | rfl | (simp only [go_sem]; rfl)
  rw [if_pos c3] at H
  have e2 : (!t628) = false := by simpa using c3
  try rw [e2]
  refine Opl.p1 (n := Opl.p1 (n := Opl.p1 (n := ?_)))
  by_cases c4 : x3_1 > 0
  case neg =>
   rw [if_neg c4] at H
   have e6 : (decide (x3_1 > 0)) = false := by simpa using c4
   try rw [e6]
   refine Opl.sk8 rfl rfl rfl rfl rfl rfl rfl rfl (Opl.sk2 rfl rfl (Opl.p1 (n := Opl.p1 (n := Opl.nil (Evr.condF rfl (Evr.skip (Evr.inBlock (Evr.regionN rfl (Opl.p1 (n := Opl.add (k := .i64) (a := x3_1) (b := 1) K3 rfl rfl rfl rfl (Opl.one (v := .lit (.int .i64 (wrap64 (x3_1 + 1)))) rfl rfl rfl (Opl.nil ?_))))))))))))
   obtain _ | k2 := n1
   · simp [spec_l4Set.j1] at H
   simp only [spec_l4Set.j1] at H
   rw [if_neg (by first | decide | exact id)] at H
   exact ih1 _ (by omega) _ _ ⟨by omega, _, H, ⟨rfl, rfl, trivial⟩⟩
  rw [if_pos c4] at H
  have e3 : (decide (x3_1 > 0)) = true := by simpa using c4
  try rw [e3]
  refine Opl.p1 (n := Opl.p1 (n := ?_))
  obtain ⟨c5, H⟩ := peel H
  obtain ⟨c6, H⟩ := peel H
  obtain _ | k1 := n1
  · simp [spec_l4Set.j1] at H
  simp only [spec_l4Set.j1] at H
  refine Opl.idx (M := (cInt .i64)) (xs := l0) (j := x3_1) (0 : Int) (by exact hv0) rfl (by omega) (by omega) K27 Z3 rfl rfl ?_
  rintro p2 q2 h2
  obtain rfl : p2 = [.lit (.int .i64 (rd l0 x3_1))] := h2
  refine Opl.lda (.lit (.int .i64 (rd l0 x3_1))) rfl T3 rfl rfl rfl rfl (Opl.p1 (n := Opl.p1 (n := Opl.subi (k := .i64) (a := x3_1) (b := 1) K3 rfl rfl rfl rfl (Opl.idx (M := (cInt .i64)) (xs := l0) (j := (wrap64 (x3_1 - 1))) (0 : Int) (by exact hv0) rfl (by omega) (by omega) K27 Z3 rfl rfl ?_))))
  rintro p3 q3 h3
  obtain rfl : p3 = [.lit (.int .i64 (rd l0 (wrap64 (x3_1 - 1))))] := h3
  refine Opl.lda (.lit (.int .i64 (rd l0 (wrap64 (x3_1 - 1))))) rfl T3 rfl rfl rfl rfl (Opl.leq (a := (rd l0 x3_1)) (b := (rd l0 (wrap64 (x3_1 - 1)))) K3 rfl rfl rfl rfl (Opl.p1 (n := Opl.p1 (n := Opl.nil ?_))))
  by_cases c7 : (decide ((rd l0 x3_1) ≤ (rd l0 (wrap64 (x3_1 - 1))))) = true
  case pos =>
   rw [if_pos c7] at H
   have e4 : (decide ((rd l0 x3_1) ≤ (rd l0 (wrap64 (x3_1 - 1))))) = true := by simpa using c7
   try rw [e4]
   refine Evr.condT rfl (Evr.sr rfl (Opl.one (v := .lit (.bool false)) rfl rfl rfl (Opl.nil ?_)))
   obtain rfl := sinj H
   refine Evr.ret1 Try.func181 rfl ?_
   show (.lit (.bool false) : PV) = _
   first | rfl | (simp only [go_sem]; rfl)
  rw [if_neg c7] at H
  have e5 : (decide ((rd l0 x3_1) ≤ (rd l0 (wrap64 (x3_1 - 1))))) = false := by simpa using c7
  try rw [e5]
  refine Evr.condF rfl (Evr.skip (Evr.inBlock (Evr.regionN rfl (Opl.one (v := .lit (.int .i64 x3_1)) rfl rfl rfl (Opl.add (k := .i64) (a := x3_1) (b := 1) K3 rfl rfl rfl rfl (Opl.one (v := .lit (.int .i64 (wrap64 (x3_1 + 1)))) rfl rfl rfl (Opl.nil ?_)))))))
  exact ih1 _ (by omega) _ _ ⟨by omega, _, H, ⟨rfl, rfl, trivial⟩⟩
theorem spec_l4Mix.ev {k : Nat} {l0 : List Int} {v0 : PV} (hv0 : Sl (cInt .i64) l0 v0) {l1 : List Int} {v1 : PV} (hv1 : Sl (cInt .i64) l1 v1) {a2 : Int} {r : (List Int)} (H : spec_l4Mix.f k l0 l1 a2 = some r) : Ret Try.prog 134 [v0, v1, .lit (.int .i64 a2)] fun v S => Vec (cInt .i64) r v S := by
 unfold spec_l4Mix.f at H
 refine Ret.intro Try.func134 rfl (Nat.le_of_ble_eq_true rfl) rfl ?_
 rw [tm3]
 refine Evr.sr rfl (Opl.p1 (n := Opl.nil (Evr.sr rfl (Opl.lits (M := (cInt .i64)) (ys := []) [] K27 T3 rfl rfl rfl trivial rfl (by decide) rfl rfl rfl ?_))))
 rintro pv1 S h1 u1 w1
 refine Opl.p1 (n := Opl.nil (Evr.seq (Evr.sr rfl (Opl.p1 (n := ?_)))))
 obtain ⟨r1, h_r1, H⟩ := obs H
 refine Opl.callc (spec_l4Set.ev hv0 h_r1) rfl rfl rfl rfl ⟨hv0.plain, trivial⟩ (by decide) (Opl.p1 (n := Opl.p1 (n := ?_)))
 by_cases c1 : r1 = true
 case neg =>
  rw [if_neg c1] at H
  have e66 : (!r1) = true := by simpa using c1
  try rw [e66]
  refine Opl.sk2 rfl rfl (Opl.skp rfl (Opl.p1 (n := Opl.nil (Evr.condT rfl (Evr.sr rfl (Opl.p1 (n := Opl.p1 (n := Opl.nil ?_))))))))
  obtain rfl := sinj H
  refine Evr.ret1 Try.func134 rfl ?_
  show Vec _ _ pv1 _
  exact h1
 rw [if_pos c1] at H
 have e1 : (!r1) = false := by simpa using c1
 try rw [e1]
 refine Opl.p1 (n := ?_)
 obtain ⟨r2, h_r2, H⟩ := obs H
 refine Opl.callc (spec_l4Set.ev hv1 h_r2) rfl rfl rfl rfl ⟨hv1.plain, trivial⟩ (by decide) (Opl.p1 (n := Opl.p1 (n := Opl.nil ?_)))
 by_cases c2 : r2 = true
 case neg =>
  rw [if_neg c2] at H
  have e65 : (!r2) = true := by simpa using c2
  try rw [e65]
  refine Evr.condT rfl (Evr.sr rfl (Opl.p1 (n := Opl.p1 (n := Opl.nil ?_))))
  obtain rfl := sinj H
  refine Evr.ret1 Try.func134 rfl ?_
  show Vec _ _ pv1 _
  exact h1
 rw [if_pos c2] at H
 have e2 : (!r2) = false := by simpa using c2
 try rw [e2]
 refine Evr.condF rfl (Evr.skip (Evr.sr rfl (Opl.p1 (n := ?_))))
 obtain ⟨r3, h_r3, H⟩ := obs H
 refine Opl.call ((spec_l4Marks.ev hv0 h_r3).mono fun _ _ h => Out.vec h) rfl rfl rfl rfl ⟨hv0.plain, (.lit _), trivial⟩ (by decide) ?_
 rintro pv2 h2
 refine Opl.p1 (n := Opl.nil (Evr.sr rfl (Opl.p1 (n := ?_))))
 obtain ⟨r4, h_r4, H⟩ := obs H
 refine Opl.call ((spec_l4Marks.ev hv1 h_r4).mono fun _ _ h => Out.vec h) rfl rfl rfl rfl ⟨hv1.plain, (.lit _), trivial⟩ (by decide) ?_
 rintro pv3 h3
 refine Opl.p1 (n := Opl.nil (Evr.seq (Evr.sr rfl (Opl.p1 (n := Opl.nil (Evr.block ?_))))))
 refine Evr.loop (Evr.rounds (n := k) (Inv := fun n tm S => n ≤ k ∧ ∃ (x7_1 : List Int) (x10_1 : Int) (pv4 : PV), spec_l4Mix.l1 n x7_1 x10_1 a2 r3 r4 = some r ∧ Has tm [(2, .lit (.int .i64 a2)), (7, pv4), (8, pv2), (9, pv3), (10, .lit (.int .i64 x10_1))] ∧ Vec (cInt .i64) x7_1 pv4 S) ?_ ?_ ?_)
 · exact ⟨Nat.le_refl _, _, _, _, H, ⟨rfl, rfl, rfl, rfl, rfl, trivial⟩, h1⟩
 ·
  rintro tm S ⟨_, _, _, _, H, -⟩
  simp [spec_l4Mix.l1] at H
 ·
  rintro n1 ih1 tm S ⟨hle, x7_1, x10_1, pv4, H, hh, h4⟩
  simp only [spec_l4Mix.l1] at H
  rw [hh.eq]
  refine Evr.seq (Evr.sr rfl (Opl.p1 (n := Opl.p1 (n := Opl.nil ?_))))
  by_cases c3 : x10_1 < 400
  case neg =>
   rw [if_neg c3] at H
   have e64 : (decide (x10_1 < 400)) = false := by simpa using c3
   try rw [e64]
   refine Evr.condF rfl (Evr.exit rfl (Evr.sr rfl (Opl.p1 (n := Opl.p1 (n := Opl.nil ?_)))))
   obtain rfl := sinj H
   refine Evr.ret1 Try.func134 rfl ?_
   show Vec _ _ pv4 _
   exact h4
  rw [if_pos c3] at H
  have e3 : (decide (x10_1 < 400)) = true := by simpa using c3
  try rw [e3]
  refine Evr.condT rfl (Evr.skip (Evr.seq (Evr.block (Evr.seq ?_))))
  refine Evr.join2 (fun tm S => ∃ (kq1 : Nat) (x7_2 : List Int) (pv5 : PV), spec_l4Mix.l1 kq1 x7_2 (wrap64 (x10_1 + 1)) a2 r3 r4 = some r ∧ kq1 ≤ n1 ∧ Has tm [(2, .lit (.int .i64 a2)), (7, pv5), (8, pv2), (9, pv3), (10, .lit (.int .i64 x10_1))] ∧ Vec (cInt .i64) x7_2 pv5 S) ?_ fun hk1 => ?_
  ·
   rintro tm S ⟨kq1, x7_2, pv5, H, hle, hh, h5⟩
   rw [hh.eq]
   refine Evr.inBlock (Evr.regionN rfl (Opl.p1 (n := Opl.add (k := .i64) (a := x10_1) (b := 1) K3 rfl rfl rfl rfl (Opl.one (v := .lit (.int .i64 (wrap64 (x10_1 + 1)))) rfl rfl rfl (Opl.nil ?_)))))
   exact ih1 _ (by omega) _ _ ⟨by omega, _, _, _, H, ⟨rfl, rfl, rfl, rfl, rfl, trivial⟩, h5⟩
  ·
   refine Evr.regionN rfl (Opl.p1 (n := Opl.p1 (n := Opl.p1 (n := ?_))))
   by_cases c4 : a2 = 0
   case neg =>
    rw [if_neg c4] at H
    have e45 : (a2 == 0) = false := by simpa using c4
    try rw [e45]
    refine Opl.sk4 rfl rfl rfl rfl (Opl.p1 (n := Opl.p1 (n := Opl.sk4 rfl rfl rfl rfl (Opl.p1 (n := Opl.p1 (n := Opl.p1 (n := Opl.p1 (n := Opl.p1 (n := ?_)))))))))
    by_cases c62 : a2 = 1
    case neg =>
     rw [if_neg c62] at H
     have e57 : (a2 == 1) = false := by simpa using c62
     try rw [e57]
     refine Opl.sk8 rfl rfl rfl rfl rfl rfl rfl rfl (Opl.sk2 rfl rfl (Opl.p1 (n := Opl.p1 (n := Opl.p1 (n := Opl.p1 (n := Opl.p1 (n := Opl.p1 (n := ?_))))))))
     by_cases c79 : a2 = 2
     case neg =>
      rw [if_neg c79] at H
      have e63 : (a2 == 2) = false := by simpa using c79
      try rw [e63]
      refine Opl.sk4 rfl rfl rfl rfl (Opl.p1 (n := Opl.p1 (n := Opl.sk4 rfl rfl rfl rfl (Opl.skp rfl (Opl.p1 (n := Opl.p1 (n := Opl.nil (Evr.condF rfl (Evr.skip ?_)))))))))
      exact hk1 _ _ ⟨_, _, _, H, by omega, ⟨rfl, rfl, rfl, rfl, rfl, trivial⟩, h4⟩
     rw [if_pos c79] at H
     have e58 : (a2 == 2) = true := by simpa using c79
     try rw [e58]
     refine Opl.p1 (n := Opl.p1 (n := ?_))
     obtain ⟨c80, H⟩ := peel H
     obtain ⟨c81, H⟩ := peel H
     refine Opl.idx (M := cBool) (xs := r3) (j := x10_1) false (by exact h2) rfl (by omega) (by omega) K91 Z4 rfl rfl ?_
     rintro p19 q19 h53
     obtain rfl : p19 = [.lit (.bool (rdOf false r3 x10_1))] := h53
     refine Opl.lda (.lit (.bool (rdOf false r3 x10_1))) rfl T4 rfl rfl rfl rfl (Opl.p1 (n := Opl.p1 (n := ?_)))
     by_cases c82 : (rdOf false r3 x10_1) = true
     case neg =>
      rw [if_neg c82] at H
      have e62 : (rdOf false r3 x10_1) = false := by simpa using c82
      try rw [e62]
      refine Opl.sk4 rfl rfl rfl rfl (Opl.skp rfl (Opl.p1 (n := Opl.p1 (n := Opl.nil (Evr.condF rfl (Evr.skip ?_))))))
      exact hk1 _ _ ⟨_, _, _, H, by omega, ⟨rfl, rfl, rfl, rfl, rfl, trivial⟩, h4⟩
     rw [if_pos c82] at H
     have e59 : (rdOf false r3 x10_1) = true := by simpa using c82
     try rw [e59]
     refine Opl.p1 (n := Opl.p1 (n := ?_))
     obtain ⟨c83, H⟩ := peel H
     obtain ⟨c84, H⟩ := peel H
     refine Opl.idx (M := cBool) (xs := r4) (j := x10_1) false (by exact h3) rfl (by omega) (by omega) K91 Z4 rfl rfl ?_
     rintro p20 q20 h54
     obtain rfl : p20 = [.lit (.bool (rdOf false r4 x10_1))] := h54
     refine Opl.lda (.lit (.bool (rdOf false r4 x10_1))) rfl T4 rfl rfl rfl rfl (Opl.p1 (n := Opl.p1 (n := Opl.p1 (n := Opl.nil ?_))))
     refine Evr.join (fun tm S => ∃ (kq7 : Nat) (x7_8 : List Int) (pv47 : PV), spec_l4Mix.l1 kq7 x7_8 (wrap64 (x10_1 + 1)) a2 r3 r4 = some r ∧ kq7 ≤ n1 ∧ Has tm [(2, .lit (.int .i64 a2)), (7, pv47), (8, pv2), (9, pv3), (10, .lit (.int .i64 x10_1))] ∧ Vec (cInt .i64) x7_8 pv47 S) ?_ fun hk7 => ?_
     ·
      rintro tm S ⟨kq7, x7_8, pv47, H, hle, hh, h55⟩
      rw [hh.eq]
      exact hk1 _ _ ⟨_, _, _, H, by omega, ⟨rfl, rfl, rfl, rfl, rfl, trivial⟩, h55⟩
     ·
      by_cases c85 : (rdOf false r4 x10_1) = true
      case pos =>
       rw [if_pos c85] at H
       have e60 : (!(rdOf false r4 x10_1)) = false := by simpa using c85
       try rw [e60]
       refine Evr.condF rfl (Evr.skip ?_)
       exact hk7 _ _ ⟨_, _, _, H, by omega, ⟨rfl, rfl, rfl, rfl, rfl, trivial⟩, h4⟩
      rw [if_neg c85] at H
      have e61 : (!(rdOf false r4 x10_1)) = true := by simpa using c85
      try rw [e61]
      refine Evr.condT rfl (Evr.regionN rfl (Opl.p1 (n := Opl.p1 (n := Opl.liti (M := (cInt .i64)) (ys := [x10_1]) [.tmp 77] K27 T3 rfl rfl rfl (by exact ⟨rfl, trivial⟩) rfl (by decide) rfl rfl ?_))))
      rintro pv49 h56
      obtain ⟨c86, H⟩ := peel H
      refine Opl.app (M := (cInt .i64)) (xs := x7_1) (ys := [x10_1]) (v := pv4) h4 (.sl h56) (oInt .i64) rfl rfl K27 T3 rfl rfl (by (try simp only [List.length_cons, List.length_nil]); omega) (by show (_ + _) * 8 ≤ 140737488355328; (try simp only [List.length_cons, List.length_nil]); omega) rfl rfl rfl rfl rfl ?_
      rintro pv50 S h57 u14 w14
      refine Opl.p1 (n := Opl.nil ?_)
      exact hk7 _ _ ⟨_, _, _, H, by omega, ⟨rfl, rfl, rfl, rfl, rfl, trivial⟩, h57⟩
    rw [if_pos c62] at H
    have e46 : (a2 == 1) = true := by simpa using c62
    try rw [e46]
    refine Opl.p1 (n := Opl.p1 (n := ?_))
    obtain ⟨c63, H⟩ := peel H
    obtain ⟨c64, H⟩ := peel H
    refine Opl.idx (M := cBool) (xs := r3) (j := x10_1) false (by exact h2) rfl (by omega) (by omega) K91 Z4 rfl rfl ?_
    rintro p15 q15 h42
    obtain rfl : p15 = [.lit (.bool (rdOf false r3 x10_1))] := h42
    refine Opl.lda (.lit (.bool (rdOf false r3 x10_1))) rfl T4 rfl rfl rfl rfl (Opl.p1 (n := ?_))
    by_cases c65 : (rdOf false r3 x10_1) = true
    case pos =>
     rw [if_pos c65] at H
     have e47 : (rdOf false r3 x10_1) = true := by simpa using c65
     try rw [e47]
     refine Opl.sk4 rfl rfl rfl rfl (Opl.p1 (n := Opl.p1 (n := Opl.p1 (n := Opl.p1 (n := Opl.sk8 rfl rfl rfl rfl rfl rfl rfl rfl (Opl.sk4 rfl rfl rfl rfl (Opl.sk2 rfl rfl (Opl.skp rfl (Opl.p1 (n := Opl.nil (Evr.condT rfl (Evr.regionN rfl (Opl.p1 (n := Opl.p1 (n := Opl.liti (M := (cInt .i64)) (ys := [x10_1]) [.tmp 77] K27 T3 rfl rfl rfl (by exact ⟨rfl, trivial⟩) rfl (by decide) rfl rfl ?_)))))))))))))))
     rintro pv38 h43
     obtain ⟨c66, H⟩ := peel H
     refine Opl.app (M := (cInt .i64)) (xs := x7_1) (ys := [x10_1]) (v := pv4) h4 (.sl h43) (oInt .i64) rfl rfl K27 T3 rfl rfl (by (try simp only [List.length_cons, List.length_nil]); omega) (by show (_ + _) * 8 ≤ 140737488355328; (try simp only [List.length_cons, List.length_nil]); omega) rfl rfl rfl rfl rfl ?_
     rintro pv39 S h44 u11 w11
     refine Opl.p1 (n := Opl.nil ?_)
     exact hk1 _ _ ⟨_, _, _, H, by omega, ⟨rfl, rfl, rfl, rfl, rfl, trivial⟩, h44⟩
    rw [if_neg c65] at H
    have e48 : (rdOf false r3 x10_1) = false := by simpa using c65
    try rw [e48]
    refine Opl.p1 (n := Opl.p1 (n := ?_))
    obtain ⟨c67, H⟩ := peel H
    obtain ⟨c68, H⟩ := peel H
    refine Opl.idx (M := cBool) (xs := r4) (j := x10_1) false (by exact h3) rfl (by omega) (by omega) K91 Z4 rfl rfl ?_
    rintro p16 q16 h45
    obtain rfl : p16 = [.lit (.bool (rdOf false r4 x10_1))] := h45
    refine Opl.lda (.lit (.bool (rdOf false r4 x10_1))) rfl T4 rfl rfl rfl rfl (Opl.p1 (n := Opl.p1 (n := Opl.p1 (n := Opl.p1 (n := ?_)))))
    by_cases c69 : (rdOf false r4 x10_1) = true
    case pos =>
     rw [if_pos c69] at H
     have e49 : (rdOf false r4 x10_1) = true := by simpa using c69
     try rw [e49]
     refine Opl.sk8 rfl rfl rfl rfl rfl rfl rfl rfl (Opl.sk4 rfl rfl rfl rfl (Opl.sk2 rfl rfl (Opl.skp rfl (Opl.p1 (n := Opl.nil (Evr.condT rfl (Evr.regionN rfl (Opl.p1 (n := Opl.p1 (n := Opl.liti (M := (cInt .i64)) (ys := [x10_1]) [.tmp 77] K27 T3 rfl rfl rfl (by exact ⟨rfl, trivial⟩) rfl (by decide) rfl rfl ?_))))))))))
     rintro pv41 h46
     obtain ⟨c70, H⟩ := peel H
     refine Opl.app (M := (cInt .i64)) (xs := x7_1) (ys := [x10_1]) (v := pv4) h4 (.sl h46) (oInt .i64) rfl rfl K27 T3 rfl rfl (by (try simp only [List.length_cons, List.length_nil]); omega) (by show (_ + _) * 8 ≤ 140737488355328; (try simp only [List.length_cons, List.length_nil]); omega) rfl rfl rfl rfl rfl ?_
     rintro pv42 S h47 u12 w12
     refine Opl.p1 (n := Opl.nil ?_)
     exact hk1 _ _ ⟨_, _, _, H, by omega, ⟨rfl, rfl, rfl, rfl, rfl, trivial⟩, h47⟩
    rw [if_neg c69] at H
    have e50 : (rdOf false r4 x10_1) = false := by simpa using c69
    try rw [e50]
    refine Opl.p1 (n := Opl.p1 (n := Opl.p1 (n := ?_)))
    by_cases c71 : a2 = 2
    case neg =>
     rw [if_neg c71] at H
     have e56 : (a2 == 2) = false := by simpa using c71
     try rw [e56]
     refine Opl.sk4 rfl rfl rfl rfl (Opl.p1 (n := Opl.p1 (n := Opl.sk4 rfl rfl rfl rfl (Opl.skp rfl (Opl.p1 (n := Opl.p1 (n := Opl.nil (Evr.condF rfl (Evr.skip ?_)))))))))
     exact hk1 _ _ ⟨_, _, _, H, by omega, ⟨rfl, rfl, rfl, rfl, rfl, trivial⟩, h4⟩
    rw [if_pos c71] at H
    have e51 : (a2 == 2) = true := by simpa using c71
    try rw [e51]
    refine Opl.p1 (n := Opl.p1 (n := ?_))
    obtain ⟨c72, H⟩ := peel H
    obtain ⟨c73, H⟩ := peel H
    refine Opl.idx (M := cBool) (xs := r3) (j := x10_1) false (by exact h2) rfl (by omega) (by omega) K91 Z4 rfl rfl ?_
    rintro p17 q17 h48
    obtain rfl : p17 = [.lit (.bool (rdOf false r3 x10_1))] := h48
    refine Opl.lda (.lit (.bool (rdOf false r3 x10_1))) rfl T4 rfl rfl rfl rfl (Opl.p1 (n := Opl.p1 (n := ?_)))
    by_cases c74 : (rdOf false r3 x10_1) = true
    case neg =>
     rw [if_neg c74] at H
     have e55 : (rdOf false r3 x10_1) = false := by simpa using c74
     try rw [e55]
     refine Opl.sk4 rfl rfl rfl rfl (Opl.skp rfl (Opl.p1 (n := Opl.p1 (n := Opl.nil (Evr.condF rfl (Evr.skip ?_))))))
     exact hk1 _ _ ⟨_, _, _, H, by omega, ⟨rfl, rfl, rfl, rfl, rfl, trivial⟩, h4⟩
    rw [if_pos c74] at H
    have e52 : (rdOf false r3 x10_1) = true := by simpa using c74
    try rw [e52]
    refine Opl.p1 (n := Opl.p1 (n := ?_))
    obtain ⟨c75, H⟩ := peel H
    obtain ⟨c76, H⟩ := peel H
    refine Opl.idx (M := cBool) (xs := r4) (j := x10_1) false (by exact h3) rfl (by omega) (by omega) K91 Z4 rfl rfl ?_
    rintro p18 q18 h49
    obtain rfl : p18 = [.lit (.bool (rdOf false r4 x10_1))] := h49
    refine Opl.lda (.lit (.bool (rdOf false r4 x10_1))) rfl T4 rfl rfl rfl rfl (Opl.p1 (n := Opl.p1 (n := Opl.p1 (n := Opl.nil ?_))))
    refine Evr.join (fun tm S => ∃ (kq6 : Nat) (x7_7 : List Int) (pv43 : PV), spec_l4Mix.l1 kq6 x7_7 (wrap64 (x10_1 + 1)) a2 r3 r4 = some r ∧ kq6 ≤ n1 ∧ Has tm [(2, .lit (.int .i64 a2)), (7, pv43), (8, pv2), (9, pv3), (10, .lit (.int .i64 x10_1))] ∧ Vec (cInt .i64) x7_7 pv43 S) ?_ fun hk6 => ?_
    ·
     rintro tm S ⟨kq6, x7_7, pv43, H, hle, hh, h50⟩
     rw [hh.eq]
     exact hk1 _ _ ⟨_, _, _, H, by omega, ⟨rfl, rfl, rfl, rfl, rfl, trivial⟩, h50⟩
    ·
     by_cases c77 : (rdOf false r4 x10_1) = true
     case pos =>
      rw [if_pos c77] at H
      have e53 : (!(rdOf false r4 x10_1)) = false := by simpa using c77
      try rw [e53]
      refine Evr.condF rfl (Evr.skip ?_)
      exact hk6 _ _ ⟨_, _, _, H, by omega, ⟨rfl, rfl, rfl, rfl, rfl, trivial⟩, h4⟩
     rw [if_neg c77] at H
     have e54 : (!(rdOf false r4 x10_1)) = true := by simpa using c77
     try rw [e54]
     refine Evr.condT rfl (Evr.regionN rfl (Opl.p1 (n := Opl.p1 (n := Opl.liti (M := (cInt .i64)) (ys := [x10_1]) [.tmp 77] K27 T3 rfl rfl rfl (by exact ⟨rfl, trivial⟩) rfl (by decide) rfl rfl ?_))))
     rintro pv45 h51
     obtain ⟨c78, H⟩ := peel H
     refine Opl.app (M := (cInt .i64)) (xs := x7_1) (ys := [x10_1]) (v := pv4) h4 (.sl h51) (oInt .i64) rfl rfl K27 T3 rfl rfl (by (try simp only [List.length_cons, List.length_nil]); omega) (by show (_ + _) * 8 ≤ 140737488355328; (try simp only [List.length_cons, List.length_nil]); omega) rfl rfl rfl rfl rfl ?_
     rintro pv46 S h52 u13 w13
     refine Opl.p1 (n := Opl.nil ?_)
     exact hk6 _ _ ⟨_, _, _, H, by omega, ⟨rfl, rfl, rfl, rfl, rfl, trivial⟩, h52⟩
   rw [if_pos c4] at H
   have e4 : (a2 == 0) = true := by simpa using c4
   try rw [e4]
   refine Opl.p1 (n := Opl.p1 (n := ?_))
   obtain ⟨c5, H⟩ := peel H
   obtain ⟨c6, H⟩ := peel H
   refine Opl.idx (M := cBool) (xs := r3) (j := x10_1) false (by exact h2) rfl (by omega) (by omega) K91 Z4 rfl rfl ?_
   rintro p1 q1 h6
   obtain rfl : p1 = [.lit (.bool (rdOf false r3 x10_1))] := h6
   refine Opl.lda (.lit (.bool (rdOf false r3 x10_1))) rfl T4 rfl rfl rfl rfl (Opl.p1 (n := Opl.p1 (n := ?_)))
   by_cases c7 : (rdOf false r3 x10_1) = true
   case neg =>
    rw [if_neg c7] at H
    have e26 : (rdOf false r3 x10_1) = false := by simpa using c7
    try rw [e26]
    refine Opl.sk4 rfl rfl rfl rfl (Opl.p1 (n := Opl.p1 (n := Opl.p1 (n := Opl.p1 (n := Opl.p1 (n := ?_))))))
    by_cases c37 : a2 = 1
    case neg =>
     rw [if_neg c37] at H
     have e38 : (a2 == 1) = false := by simpa using c37
     try rw [e38]
     refine Opl.sk8 rfl rfl rfl rfl rfl rfl rfl rfl (Opl.sk2 rfl rfl (Opl.p1 (n := Opl.p1 (n := Opl.p1 (n := Opl.p1 (n := Opl.p1 (n := Opl.p1 (n := ?_))))))))
     by_cases c54 : a2 = 2
     case neg =>
      rw [if_neg c54] at H
      have e44 : (a2 == 2) = false := by simpa using c54
      try rw [e44]
      refine Opl.sk4 rfl rfl rfl rfl (Opl.p1 (n := Opl.p1 (n := Opl.sk4 rfl rfl rfl rfl (Opl.skp rfl (Opl.p1 (n := Opl.p1 (n := Opl.nil (Evr.condF rfl (Evr.skip ?_)))))))))
      exact hk1 _ _ ⟨_, _, _, H, by omega, ⟨rfl, rfl, rfl, rfl, rfl, trivial⟩, h4⟩
     rw [if_pos c54] at H
     have e39 : (a2 == 2) = true := by simpa using c54
     try rw [e39]
     refine Opl.p1 (n := Opl.p1 (n := ?_))
     obtain ⟨c55, H⟩ := peel H
     obtain ⟨c56, H⟩ := peel H
     refine Opl.idx (M := cBool) (xs := r3) (j := x10_1) false (by exact h2) rfl (by omega) (by omega) K91 Z4 rfl rfl ?_
     rintro p13 q13 h37
     obtain rfl : p13 = [.lit (.bool (rdOf false r3 x10_1))] := h37
     refine Opl.lda (.lit (.bool (rdOf false r3 x10_1))) rfl T4 rfl rfl rfl rfl (Opl.p1 (n := Opl.p1 (n := ?_)))
     by_cases c57 : (rdOf false r3 x10_1) = true
     case neg =>
      rw [if_neg c57] at H
      have e43 : (rdOf false r3 x10_1) = false := by simpa using c57
      try rw [e43]
      refine Opl.sk4 rfl rfl rfl rfl (Opl.skp rfl (Opl.p1 (n := Opl.p1 (n := Opl.nil (Evr.condF rfl (Evr.skip ?_))))))
      exact hk1 _ _ ⟨_, _, _, H, by omega, ⟨rfl, rfl, rfl, rfl, rfl, trivial⟩, h4⟩
     rw [if_pos c57] at H
     have e40 : (rdOf false r3 x10_1) = true := by simpa using c57
     try rw [e40]
     refine Opl.p1 (n := Opl.p1 (n := ?_))
     obtain ⟨c58, H⟩ := peel H
     obtain ⟨c59, H⟩ := peel H
     refine Opl.idx (M := cBool) (xs := r4) (j := x10_1) false (by exact h3) rfl (by omega) (by omega) K91 Z4 rfl rfl ?_
     rintro p14 q14 h38
     obtain rfl : p14 = [.lit (.bool (rdOf false r4 x10_1))] := h38
     refine Opl.lda (.lit (.bool (rdOf false r4 x10_1))) rfl T4 rfl rfl rfl rfl (Opl.p1 (n := Opl.p1 (n := Opl.p1 (n := Opl.nil ?_))))
     refine Evr.join (fun tm S => ∃ (kq5 : Nat) (x7_6 : List Int) (pv33 : PV), spec_l4Mix.l1 kq5 x7_6 (wrap64 (x10_1 + 1)) a2 r3 r4 = some r ∧ kq5 ≤ n1 ∧ Has tm [(2, .lit (.int .i64 a2)), (7, pv33), (8, pv2), (9, pv3), (10, .lit (.int .i64 x10_1))] ∧ Vec (cInt .i64) x7_6 pv33 S) ?_ fun hk5 => ?_
     ·
      rintro tm S ⟨kq5, x7_6, pv33, H, hle, hh, h39⟩
      rw [hh.eq]
      exact hk1 _ _ ⟨_, _, _, H, by omega, ⟨rfl, rfl, rfl, rfl, rfl, trivial⟩, h39⟩
     ·
      by_cases c60 : (rdOf false r4 x10_1) = true
      case pos =>
       rw [if_pos c60] at H
       have e41 : (!(rdOf false r4 x10_1)) = false := by simpa using c60
       try rw [e41]
       refine Evr.condF rfl (Evr.skip ?_)
       exact hk5 _ _ ⟨_, _, _, H, by omega, ⟨rfl, rfl, rfl, rfl, rfl, trivial⟩, h4⟩
      rw [if_neg c60] at H
      have e42 : (!(rdOf false r4 x10_1)) = true := by simpa using c60
      try rw [e42]
      refine Evr.condT rfl (Evr.regionN rfl (Opl.p1 (n := Opl.p1 (n := Opl.liti (M := (cInt .i64)) (ys := [x10_1]) [.tmp 77] K27 T3 rfl rfl rfl (by exact ⟨rfl, trivial⟩) rfl (by decide) rfl rfl ?_))))
      rintro pv35 h40
      obtain ⟨c61, H⟩ := peel H
      refine Opl.app (M := (cInt .i64)) (xs := x7_1) (ys := [x10_1]) (v := pv4) h4 (.sl h40) (oInt .i64) rfl rfl K27 T3 rfl rfl (by (try simp only [List.length_cons, List.length_nil]); omega) (by show (_ + _) * 8 ≤ 140737488355328; (try simp only [List.length_cons, List.length_nil]); omega) rfl rfl rfl rfl rfl ?_
      rintro pv36 S h41 u10 w10
      refine Opl.p1 (n := Opl.nil ?_)
      exact hk5 _ _ ⟨_, _, _, H, by omega, ⟨rfl, rfl, rfl, rfl, rfl, trivial⟩, h41⟩
    rw [if_pos c37] at H
    have e27 : (a2 == 1) = true := by simpa using c37
    try rw [e27]
    refine Opl.p1 (n := Opl.p1 (n := ?_))
    obtain ⟨c38, H⟩ := peel H
    obtain ⟨c39, H⟩ := peel H
    refine Opl.idx (M := cBool) (xs := r3) (j := x10_1) false (by exact h2) rfl (by omega) (by omega) K91 Z4 rfl rfl ?_
    rintro p9 q9 h26
    obtain rfl : p9 = [.lit (.bool (rdOf false r3 x10_1))] := h26
    refine Opl.lda (.lit (.bool (rdOf false r3 x10_1))) rfl T4 rfl rfl rfl rfl (Opl.p1 (n := ?_))
    by_cases c40 : (rdOf false r3 x10_1) = true
    case pos =>
     rw [if_pos c40] at H
     have e28 : (rdOf false r3 x10_1) = true := by simpa using c40
     try rw [e28]
     refine Opl.sk4 rfl rfl rfl rfl (Opl.p1 (n := Opl.p1 (n := Opl.p1 (n := Opl.p1 (n := Opl.sk8 rfl rfl rfl rfl rfl rfl rfl rfl (Opl.sk4 rfl rfl rfl rfl (Opl.sk2 rfl rfl (Opl.skp rfl (Opl.p1 (n := Opl.nil (Evr.condT rfl (Evr.regionN rfl (Opl.p1 (n := Opl.p1 (n := Opl.liti (M := (cInt .i64)) (ys := [x10_1]) [.tmp 77] K27 T3 rfl rfl rfl (by exact ⟨rfl, trivial⟩) rfl (by decide) rfl rfl ?_)))))))))))))))
     rintro pv24 h27
     obtain ⟨c41, H⟩ := peel H
     refine Opl.app (M := (cInt .i64)) (xs := x7_1) (ys := [x10_1]) (v := pv4) h4 (.sl h27) (oInt .i64) rfl rfl K27 T3 rfl rfl (by (try simp only [List.length_cons, List.length_nil]); omega) (by show (_ + _) * 8 ≤ 140737488355328; (try simp only [List.length_cons, List.length_nil]); omega) rfl rfl rfl rfl rfl ?_
     rintro pv25 S h28 u7 w7
     refine Opl.p1 (n := Opl.nil ?_)
     exact hk1 _ _ ⟨_, _, _, H, by omega, ⟨rfl, rfl, rfl, rfl, rfl, trivial⟩, h28⟩
    rw [if_neg c40] at H
    have e29 : (rdOf false r3 x10_1) = false := by simpa using c40
    try rw [e29]
    refine Opl.p1 (n := Opl.p1 (n := ?_))
    obtain ⟨c42, H⟩ := peel H
    obtain ⟨c43, H⟩ := peel H
    refine Opl.idx (M := cBool) (xs := r4) (j := x10_1) false (by exact h3) rfl (by omega) (by omega) K91 Z4 rfl rfl ?_
    rintro p10 q10 h29
    obtain rfl : p10 = [.lit (.bool (rdOf false r4 x10_1))] := h29
    refine Opl.lda (.lit (.bool (rdOf false r4 x10_1))) rfl T4 rfl rfl rfl rfl (Opl.p1 (n := Opl.p1 (n := Opl.p1 (n := Opl.p1 (n := ?_)))))
    by_cases c44 : (rdOf false r4 x10_1) = true
    case pos =>
     rw [if_pos c44] at H
     have e30 : (rdOf false r4 x10_1) = true := by simpa using c44
     try rw [e30]
     refine Opl.sk8 rfl rfl rfl rfl rfl rfl rfl rfl (Opl.sk4 rfl rfl rfl rfl (Opl.sk2 rfl rfl (Opl.skp rfl (Opl.p1 (n := Opl.nil (Evr.condT rfl (Evr.regionN rfl (Opl.p1 (n := Opl.p1 (n := Opl.liti (M := (cInt .i64)) (ys := [x10_1]) [.tmp 77] K27 T3 rfl rfl rfl (by exact ⟨rfl, trivial⟩) rfl (by decide) rfl rfl ?_))))))))))
     rintro pv27 h30
     obtain ⟨c45, H⟩ := peel H
     refine Opl.app (M := (cInt .i64)) (xs := x7_1) (ys := [x10_1]) (v := pv4) h4 (.sl h30) (oInt .i64) rfl rfl K27 T3 rfl rfl (by (try simp only [List.length_cons, List.length_nil]); omega) (by show (_ + _) * 8 ≤ 140737488355328; (try simp only [List.length_cons, List.length_nil]); omega) rfl rfl rfl rfl rfl ?_
     rintro pv28 S h31 u8 w8
     refine Opl.p1 (n := Opl.nil ?_)
     exact hk1 _ _ ⟨_, _, _, H, by omega, ⟨rfl, rfl, rfl, rfl, rfl, trivial⟩, h31⟩
    rw [if_neg c44] at H
    have e31 : (rdOf false r4 x10_1) = false := by simpa using c44
    try rw [e31]
    refine Opl.p1 (n := Opl.p1 (n := Opl.p1 (n := ?_)))
    by_cases c46 : a2 = 2
    case neg =>
     rw [if_neg c46] at H
     have e37 : (a2 == 2) = false := by simpa using c46
     try rw [e37]
     refine Opl.sk4 rfl rfl rfl rfl (Opl.p1 (n := Opl.p1 (n := Opl.sk4 rfl rfl rfl rfl (Opl.skp rfl (Opl.p1 (n := Opl.p1 (n := Opl.nil (Evr.condF rfl (Evr.skip ?_)))))))))
     exact hk1 _ _ ⟨_, _, _, H, by omega, ⟨rfl, rfl, rfl, rfl, rfl, trivial⟩, h4⟩
    rw [if_pos c46] at H
    have e32 : (a2 == 2) = true := by simpa using c46
    try rw [e32]
    refine Opl.p1 (n := Opl.p1 (n := ?_))
    obtain ⟨c47, H⟩ := peel H
    obtain ⟨c48, H⟩ := peel H
    refine Opl.idx (M := cBool) (xs := r3) (j := x10_1) false (by exact h2) rfl (by omega) (by omega) K91 Z4 rfl rfl ?_
    rintro p11 q11 h32
    obtain rfl : p11 = [.lit (.bool (rdOf false r3 x10_1))] := h32
    refine Opl.lda (.lit (.bool (rdOf false r3 x10_1))) rfl T4 rfl rfl rfl rfl (Opl.p1 (n := Opl.p1 (n := ?_)))
    by_cases c49 : (rdOf false r3 x10_1) = true
    case neg =>
     rw [if_neg c49] at H
     have e36 : (rdOf false r3 x10_1) = false := by simpa using c49
     try rw [e36]
     refine Opl.sk4 rfl rfl rfl rfl (Opl.skp rfl (Opl.p1 (n := Opl.p1 (n := Opl.nil (Evr.condF rfl (Evr.skip ?_))))))
     exact hk1 _ _ ⟨_, _, _, H, by omega, ⟨rfl, rfl, rfl, rfl, rfl, trivial⟩, h4⟩
    rw [if_pos c49] at H
    have e33 : (rdOf false r3 x10_1) = true := by simpa using c49
    try rw [e33]
    refine Opl.p1 (n := Opl.p1 (n := ?_))
    obtain ⟨c50, H⟩ := peel H
    obtain ⟨c51, H⟩ := peel H
    refine Opl.idx (M := cBool) (xs := r4) (j := x10_1) false (by exact h3) rfl (by omega) (by omega) K91 Z4 rfl rfl ?_
    rintro p12 q12 h33
    obtain rfl : p12 = [.lit (.bool (rdOf false r4 x10_1))] := h33
    refine Opl.lda (.lit (.bool (rdOf false r4 x10_1))) rfl T4 rfl rfl rfl rfl (Opl.p1 (n := Opl.p1 (n := Opl.p1 (n := Opl.nil ?_))))
    refine Evr.join (fun tm S => ∃ (kq4 : Nat) (x7_5 : List Int) (pv29 : PV), spec_l4Mix.l1 kq4 x7_5 (wrap64 (x10_1 + 1)) a2 r3 r4 = some r ∧ kq4 ≤ n1 ∧ Has tm [(2, .lit (.int .i64 a2)), (7, pv29), (8, pv2), (9, pv3), (10, .lit (.int .i64 x10_1))] ∧ Vec (cInt .i64) x7_5 pv29 S) ?_ fun hk4 => ?_
    ·
     rintro tm S ⟨kq4, x7_5, pv29, H, hle, hh, h34⟩
     rw [hh.eq]
     exact hk1 _ _ ⟨_, _, _, H, by omega, ⟨rfl, rfl, rfl, rfl, rfl, trivial⟩, h34⟩
    ·
     by_cases c52 : (rdOf false r4 x10_1) = true
     case pos =>
      rw [if_pos c52] at H
      have e34 : (!(rdOf false r4 x10_1)) = false := by simpa using c52
      try rw [e34]
      refine Evr.condF rfl (Evr.skip ?_)
      exact hk4 _ _ ⟨_, _, _, H, by omega, ⟨rfl, rfl, rfl, rfl, rfl, trivial⟩, h4⟩
     rw [if_neg c52] at H
     have e35 : (!(rdOf false r4 x10_1)) = true := by simpa using c52
     try rw [e35]
     refine Evr.condT rfl (Evr.regionN rfl (Opl.p1 (n := Opl.p1 (n := Opl.liti (M := (cInt .i64)) (ys := [x10_1]) [.tmp 77] K27 T3 rfl rfl rfl (by exact ⟨rfl, trivial⟩) rfl (by decide) rfl rfl ?_))))
     rintro pv31 h35
     obtain ⟨c53, H⟩ := peel H
     refine Opl.app (M := (cInt .i64)) (xs := x7_1) (ys := [x10_1]) (v := pv4) h4 (.sl h35) (oInt .i64) rfl rfl K27 T3 rfl rfl (by (try simp only [List.length_cons, List.length_nil]); omega) (by show (_ + _) * 8 ≤ 140737488355328; (try simp only [List.length_cons, List.length_nil]); omega) rfl rfl rfl rfl rfl ?_
     rintro pv32 S h36 u9 w9
     refine Opl.p1 (n := Opl.nil ?_)
     exact hk4 _ _ ⟨_, _, _, H, by omega, ⟨rfl, rfl, rfl, rfl, rfl, trivial⟩, h36⟩
   rw [if_pos c7] at H
   have e5 : (rdOf false r3 x10_1) = true := by simpa using c7
   try rw [e5]
   refine Opl.p1 (n := Opl.p1 (n := ?_))
   obtain ⟨c8, H⟩ := peel H
   obtain ⟨c9, H⟩ := peel H
   refine Opl.idx (M := cBool) (xs := r4) (j := x10_1) false (by exact h3) rfl (by omega) (by omega) K91 Z4 rfl rfl ?_
   rintro p2 q2 h7
   obtain rfl : p2 = [.lit (.bool (rdOf false r4 x10_1))] := h7
   refine Opl.lda (.lit (.bool (rdOf false r4 x10_1))) rfl T4 rfl rfl rfl rfl (Opl.p1 (n := Opl.p1 (n := ?_)))
   by_cases c10 : (rdOf false r4 x10_1) = true
   case pos =>
    rw [if_pos c10] at H
    have e6 : (rdOf false r4 x10_1) = true := by simpa using c10
    try rw [e6]
    refine Opl.sk8 rfl rfl rfl rfl rfl rfl rfl rfl (Opl.sk4 rfl rfl rfl rfl (Opl.sk2 rfl rfl (Opl.p1 (n := Opl.p1 (n := Opl.sk8 rfl rfl rfl rfl rfl rfl rfl rfl (Opl.sk4 rfl rfl rfl rfl (Opl.sk2 rfl rfl (Opl.skp rfl (Opl.p1 (n := Opl.nil (Evr.condT rfl (Evr.regionN rfl (Opl.p1 (n := Opl.p1 (n := Opl.liti (M := (cInt .i64)) (ys := [x10_1]) [.tmp 77] K27 T3 rfl rfl rfl (by exact ⟨rfl, trivial⟩) rfl (by decide) rfl rfl ?_)))))))))))))))
    rintro pv7 h8
    obtain ⟨c11, H⟩ := peel H
    refine Opl.app (M := (cInt .i64)) (xs := x7_1) (ys := [x10_1]) (v := pv4) h4 (.sl h8) (oInt .i64) rfl rfl K27 T3 rfl rfl (by (try simp only [List.length_cons, List.length_nil]); omega) (by show (_ + _) * 8 ≤ 140737488355328; (try simp only [List.length_cons, List.length_nil]); omega) rfl rfl rfl rfl rfl ?_
    rintro pv8 S h9 u2 w2
    refine Opl.p1 (n := Opl.nil ?_)
    exact hk1 _ _ ⟨_, _, _, H, by omega, ⟨rfl, rfl, rfl, rfl, rfl, trivial⟩, h9⟩
   rw [if_neg c10] at H
   have e7 : (rdOf false r4 x10_1) = false := by simpa using c10
   try rw [e7]
   refine Opl.p1 (n := Opl.p1 (n := Opl.p1 (n := ?_)))
   by_cases c12 : a2 = 1
   case neg =>
    rw [if_neg c12] at H
    have e19 : (a2 == 1) = false := by simpa using c12
    try rw [e19]
    refine Opl.sk8 rfl rfl rfl rfl rfl rfl rfl rfl (Opl.sk2 rfl rfl (Opl.p1 (n := Opl.p1 (n := Opl.p1 (n := Opl.p1 (n := Opl.p1 (n := Opl.p1 (n := ?_))))))))
    by_cases c29 : a2 = 2
    case neg =>
     rw [if_neg c29] at H
     have e25 : (a2 == 2) = false := by simpa using c29
     try rw [e25]
     refine Opl.sk4 rfl rfl rfl rfl (Opl.p1 (n := Opl.p1 (n := Opl.sk4 rfl rfl rfl rfl (Opl.skp rfl (Opl.p1 (n := Opl.p1 (n := Opl.nil (Evr.condF rfl (Evr.skip ?_)))))))))
     exact hk1 _ _ ⟨_, _, _, H, by omega, ⟨rfl, rfl, rfl, rfl, rfl, trivial⟩, h4⟩
    rw [if_pos c29] at H
    have e20 : (a2 == 2) = true := by simpa using c29
    try rw [e20]
    refine Opl.p1 (n := Opl.p1 (n := ?_))
    obtain ⟨c30, H⟩ := peel H
    obtain ⟨c31, H⟩ := peel H
    refine Opl.idx (M := cBool) (xs := r3) (j := x10_1) false (by exact h2) rfl (by omega) (by omega) K91 Z4 rfl rfl ?_
    rintro p7 q7 h21
    obtain rfl : p7 = [.lit (.bool (rdOf false r3 x10_1))] := h21
    refine Opl.lda (.lit (.bool (rdOf false r3 x10_1))) rfl T4 rfl rfl rfl rfl (Opl.p1 (n := Opl.p1 (n := ?_)))
    by_cases c32 : (rdOf false r3 x10_1) = true
    case neg =>
     rw [if_neg c32] at H
     have e24 : (rdOf false r3 x10_1) = false := by simpa using c32
     try rw [e24]
     refine Opl.sk4 rfl rfl rfl rfl (Opl.skp rfl (Opl.p1 (n := Opl.p1 (n := Opl.nil (Evr.condF rfl (Evr.skip ?_))))))
     exact hk1 _ _ ⟨_, _, _, H, by omega, ⟨rfl, rfl, rfl, rfl, rfl, trivial⟩, h4⟩
    rw [if_pos c32] at H
    have e21 : (rdOf false r3 x10_1) = true := by simpa using c32
    try rw [e21]
    refine Opl.p1 (n := Opl.p1 (n := ?_))
    obtain ⟨c33, H⟩ := peel H
    obtain ⟨c34, H⟩ := peel H
    refine Opl.idx (M := cBool) (xs := r4) (j := x10_1) false (by exact h3) rfl (by omega) (by omega) K91 Z4 rfl rfl ?_
    rintro p8 q8 h22
    obtain rfl : p8 = [.lit (.bool (rdOf false r4 x10_1))] := h22
    refine Opl.lda (.lit (.bool (rdOf false r4 x10_1))) rfl T4 rfl rfl rfl rfl (Opl.p1 (n := Opl.p1 (n := Opl.p1 (n := Opl.nil ?_))))
    refine Evr.join (fun tm S => ∃ (kq3 : Nat) (x7_4 : List Int) (pv19 : PV), spec_l4Mix.l1 kq3 x7_4 (wrap64 (x10_1 + 1)) a2 r3 r4 = some r ∧ kq3 ≤ n1 ∧ Has tm [(2, .lit (.int .i64 a2)), (7, pv19), (8, pv2), (9, pv3), (10, .lit (.int .i64 x10_1))] ∧ Vec (cInt .i64) x7_4 pv19 S) ?_ fun hk3 => ?_
    ·
     rintro tm S ⟨kq3, x7_4, pv19, H, hle, hh, h23⟩
     rw [hh.eq]
     exact hk1 _ _ ⟨_, _, _, H, by omega, ⟨rfl, rfl, rfl, rfl, rfl, trivial⟩, h23⟩
    ·
     by_cases c35 : (rdOf false r4 x10_1) = true
     case pos =>
      rw [if_pos c35] at H
      have e22 : (!(rdOf false r4 x10_1)) = false := by simpa using c35
      try rw [e22]
      refine Evr.condF rfl (Evr.skip ?_)
      exact hk3 _ _ ⟨_, _, _, H, by omega, ⟨rfl, rfl, rfl, rfl, rfl, trivial⟩, h4⟩
     rw [if_neg c35] at H
     have e23 : (!(rdOf false r4 x10_1)) = true := by simpa using c35
     try rw [e23]
     refine Evr.condT rfl (Evr.regionN rfl (Opl.p1 (n := Opl.p1 (n := Opl.liti (M := (cInt .i64)) (ys := [x10_1]) [.tmp 77] K27 T3 rfl rfl rfl (by exact ⟨rfl, trivial⟩) rfl (by decide) rfl rfl ?_))))
     rintro pv21 h24
     obtain ⟨c36, H⟩ := peel H
     refine Opl.app (M := (cInt .i64)) (xs := x7_1) (ys := [x10_1]) (v := pv4) h4 (.sl h24) (oInt .i64) rfl rfl K27 T3 rfl rfl (by (try simp only [List.length_cons, List.length_nil]); omega) (by show (_ + _) * 8 ≤ 140737488355328; (try simp only [List.length_cons, List.length_nil]); omega) rfl rfl rfl rfl rfl ?_
     rintro pv22 S h25 u6 w6
     refine Opl.p1 (n := Opl.nil ?_)
     exact hk3 _ _ ⟨_, _, _, H, by omega, ⟨rfl, rfl, rfl, rfl, rfl, trivial⟩, h25⟩
   rw [if_pos c12] at H
   have e8 : (a2 == 1) = true := by simpa using c12
   try rw [e8]
   refine Opl.p1 (n := Opl.p1 (n := ?_))
   obtain ⟨c13, H⟩ := peel H
   obtain ⟨c14, H⟩ := peel H
   refine Opl.idx (M := cBool) (xs := r3) (j := x10_1) false (by exact h2) rfl (by omega) (by omega) K91 Z4 rfl rfl ?_
   rintro p3 q3 h10
   obtain rfl : p3 = [.lit (.bool (rdOf false r3 x10_1))] := h10
   refine Opl.lda (.lit (.bool (rdOf false r3 x10_1))) rfl T4 rfl rfl rfl rfl (Opl.p1 (n := ?_))
   by_cases c15 : (rdOf false r3 x10_1) = true
   case pos =>
    rw [if_pos c15] at H
    have e9 : (rdOf false r3 x10_1) = true := by simpa using c15
    try rw [e9]
    refine Opl.sk4 rfl rfl rfl rfl (Opl.p1 (n := Opl.p1 (n := Opl.p1 (n := Opl.p1 (n := Opl.sk8 rfl rfl rfl rfl rfl rfl rfl rfl (Opl.sk4 rfl rfl rfl rfl (Opl.sk2 rfl rfl (Opl.skp rfl (Opl.p1 (n := Opl.nil (Evr.condT rfl (Evr.regionN rfl (Opl.p1 (n := Opl.p1 (n := Opl.liti (M := (cInt .i64)) (ys := [x10_1]) [.tmp 77] K27 T3 rfl rfl rfl (by exact ⟨rfl, trivial⟩) rfl (by decide) rfl rfl ?_)))))))))))))))
    rintro pv10 h11
    obtain ⟨c16, H⟩ := peel H
    refine Opl.app (M := (cInt .i64)) (xs := x7_1) (ys := [x10_1]) (v := pv4) h4 (.sl h11) (oInt .i64) rfl rfl K27 T3 rfl rfl (by (try simp only [List.length_cons, List.length_nil]); omega) (by show (_ + _) * 8 ≤ 140737488355328; (try simp only [List.length_cons, List.length_nil]); omega) rfl rfl rfl rfl rfl ?_
    rintro pv11 S h12 u3 w3
    refine Opl.p1 (n := Opl.nil ?_)
    exact hk1 _ _ ⟨_, _, _, H, by omega, ⟨rfl, rfl, rfl, rfl, rfl, trivial⟩, h12⟩
   rw [if_neg c15] at H
   have e10 : (rdOf false r3 x10_1) = false := by simpa using c15
   try rw [e10]
   refine Opl.p1 (n := Opl.p1 (n := ?_))
   obtain ⟨c17, H⟩ := peel H
   obtain ⟨c18, H⟩ := peel H
   refine Opl.idx (M := cBool) (xs := r4) (j := x10_1) false (by exact h3) rfl (by omega) (by omega) K91 Z4 rfl rfl ?_
   rintro p4 q4 h13
   obtain rfl : p4 = [.lit (.bool (rdOf false r4 x10_1))] := h13
   refine Opl.lda (.lit (.bool (rdOf false r4 x10_1))) rfl T4 rfl rfl rfl rfl (Opl.p1 (n := Opl.p1 (n := Opl.p1 (n := Opl.p1 (n := ?_)))))
   by_cases c19 : (rdOf false r4 x10_1) = true
   case pos =>
    rw [if_pos c19] at H
    have e11 : (rdOf false r4 x10_1) = true := by simpa using c19
    try rw [e11]
    refine Opl.sk8 rfl rfl rfl rfl rfl rfl rfl rfl (Opl.sk4 rfl rfl rfl rfl (Opl.sk2 rfl rfl (Opl.skp rfl (Opl.p1 (n := Opl.nil (Evr.condT rfl (Evr.regionN rfl (Opl.p1 (n := Opl.p1 (n := Opl.liti (M := (cInt .i64)) (ys := [x10_1]) [.tmp 77] K27 T3 rfl rfl rfl (by exact ⟨rfl, trivial⟩) rfl (by decide) rfl rfl ?_))))))))))
    rintro pv13 h14
    obtain ⟨c20, H⟩ := peel H
    refine Opl.app (M := (cInt .i64)) (xs := x7_1) (ys := [x10_1]) (v := pv4) h4 (.sl h14) (oInt .i64) rfl rfl K27 T3 rfl rfl (by (try simp only [List.length_cons, List.length_nil]); omega) (by show (_ + _) * 8 ≤ 140737488355328; (try simp only [List.length_cons, List.length_nil]); omega) rfl rfl rfl rfl rfl ?_
    rintro pv14 S h15 u4 w4
    refine Opl.p1 (n := Opl.nil ?_)
    exact hk1 _ _ ⟨_, _, _, H, by omega, ⟨rfl, rfl, rfl, rfl, rfl, trivial⟩, h15⟩
   rw [if_neg c19] at H
   have e12 : (rdOf false r4 x10_1) = false := by simpa using c19
   try rw [e12]
   refine Opl.p1 (n := Opl.p1 (n := Opl.p1 (n := ?_)))
   by_cases c21 : a2 = 2
   case neg =>
    rw [if_neg c21] at H
    have e18 : (a2 == 2) = false := by simpa using c21
    try rw [e18]
    refine Opl.sk4 rfl rfl rfl rfl (Opl.p1 (n := Opl.p1 (n := Opl.sk4 rfl rfl rfl rfl (Opl.skp rfl (Opl.p1 (n := Opl.p1 (n := Opl.nil (Evr.condF rfl (Evr.skip ?_)))))))))
    exact hk1 _ _ ⟨_, _, _, H, by omega, ⟨rfl, rfl, rfl, rfl, rfl, trivial⟩, h4⟩
   rw [if_pos c21] at H
   have e13 : (a2 == 2) = true := by simpa using c21
   try rw [e13]
   refine Opl.p1 (n := Opl.p1 (n := ?_))
   obtain ⟨c22, H⟩ := peel H
   obtain ⟨c23, H⟩ := peel H
   refine Opl.idx (M := cBool) (xs := r3) (j := x10_1) false (by exact h2) rfl (by omega) (by omega) K91 Z4 rfl rfl ?_
   rintro p5 q5 h16
   obtain rfl : p5 = [.lit (.bool (rdOf false r3 x10_1))] := h16
   refine Opl.lda (.lit (.bool (rdOf false r3 x10_1))) rfl T4 rfl rfl rfl rfl (Opl.p1 (n := Opl.p1 (n := ?_)))
   by_cases c24 : (rdOf false r3 x10_1) = true
   case neg =>
    rw [if_neg c24] at H
    have e17 : (rdOf false r3 x10_1) = false := by simpa using c24
    try rw [e17]
    refine Opl.sk4 rfl rfl rfl rfl (Opl.skp rfl (Opl.p1 (n := Opl.p1 (n := Opl.nil (Evr.condF rfl (Evr.skip ?_))))))
    exact hk1 _ _ ⟨_, _, _, H, by omega, ⟨rfl, rfl, rfl, rfl, rfl, trivial⟩, h4⟩
   rw [if_pos c24] at H
   have e14 : (rdOf false r3 x10_1) = true := by simpa using c24
   try rw [e14]
   refine Opl.p1 (n := Opl.p1 (n := ?_))
   obtain ⟨c25, H⟩ := peel H
   obtain ⟨c26, H⟩ := peel H
   refine Opl.idx (M := cBool) (xs := r4) (j := x10_1) false (by exact h3) rfl (by omega) (by omega) K91 Z4 rfl rfl ?_
   rintro p6 q6 h17
   obtain rfl : p6 = [.lit (.bool (rdOf false r4 x10_1))] := h17
   refine Opl.lda (.lit (.bool (rdOf false r4 x10_1))) rfl T4 rfl rfl rfl rfl (Opl.p1 (n := Opl.p1 (n := Opl.p1 (n := Opl.nil ?_))))
   refine Evr.join (fun tm S => ∃ (kq2 : Nat) (x7_3 : List Int) (pv15 : PV), spec_l4Mix.l1 kq2 x7_3 (wrap64 (x10_1 + 1)) a2 r3 r4 = some r ∧ kq2 ≤ n1 ∧ Has tm [(2, .lit (.int .i64 a2)), (7, pv15), (8, pv2), (9, pv3), (10, .lit (.int .i64 x10_1))] ∧ Vec (cInt .i64) x7_3 pv15 S) ?_ fun hk2 => ?_
   ·
    rintro tm S ⟨kq2, x7_3, pv15, H, hle, hh, h18⟩
    rw [hh.eq]
    exact hk1 _ _ ⟨_, _, _, H, by omega, ⟨rfl, rfl, rfl, rfl, rfl, trivial⟩, h18⟩
   ·
    by_cases c27 : (rdOf false r4 x10_1) = true
    case pos =>
     rw [if_pos c27] at H
     have e15 : (!(rdOf false r4 x10_1)) = false := by simpa using c27
     try rw [e15]
     refine Evr.condF rfl (Evr.skip ?_)
     exact hk2 _ _ ⟨_, _, _, H, by omega, ⟨rfl, rfl, rfl, rfl, rfl, trivial⟩, h4⟩
    rw [if_neg c27] at H
    have e16 : (!(rdOf false r4 x10_1)) = true := by simpa using c27
    try rw [e16]
    refine Evr.condT rfl (Evr.regionN rfl (Opl.p1 (n := Opl.p1 (n := Opl.liti (M := (cInt .i64)) (ys := [x10_1]) [.tmp 77] K27 T3 rfl rfl rfl (by exact ⟨rfl, trivial⟩) rfl (by decide) rfl rfl ?_))))
    rintro pv17 h19
    obtain ⟨c28, H⟩ := peel H
    refine Opl.app (M := (cInt .i64)) (xs := x7_1) (ys := [x10_1]) (v := pv4) h4 (.sl h19) (oInt .i64) rfl rfl K27 T3 rfl rfl (by (try simp only [List.length_cons, List.length_nil]); omega) (by show (_ + _) * 8 ≤ 140737488355328; (try simp only [List.length_cons, List.length_nil]); omega) rfl rfl rfl rfl rfl ?_
    rintro pv18 S h20 u5 w5
    refine Opl.p1 (n := Opl.nil ?_)
    exact hk2 _ _ ⟨_, _, _, H, by omega, ⟨rfl, rfl, rfl, rfl, rfl, trivial⟩, h20⟩
theorem spec_SetBoth.ev {k : Nat} {l0 : List Int} {v0 : PV} (hv0 : Sl (cInt .i64) l0 v0) {l1 : List Int} {v1 : PV} (hv1 : Sl (cInt .i64) l1 v1) {r : (List Int)} (H : spec_SetBoth.f k l0 l1 = some r) : Ret Try.prog 76 [v0, v1] fun v S => Vec (cInt .i64) r v S := by
 unfold spec_SetBoth.f at H
 refine Ret.intro Try.func76 rfl (Nat.le_of_ble_eq_true rfl) rfl ?_
 rw [tm2]
 refine Evr.sr rfl (Opl.p1 (n := Opl.nil (Evr.sr rfl (Opl.p1 (n := Opl.p1 (n := ?_))))))
 obtain ⟨r1, h_r1, H⟩ := obs H
 refine Opl.calla (spec_l4Mix.ev hv0 hv1 h_r1) rfl rfl rfl rfl ⟨hv0.plain, hv1.plain, (.lit _), trivial⟩ rfl ?_
 rintro pv1 S h1 u1 w1
 refine Opl.p1 (n := Opl.nil ?_)
 obtain rfl := sinj H
 refine Evr.ret1 Try.func76 rfl ?_
 show Vec _ _ pv1 _
 exact h1
theorem spec_l1One.ev {a0 : Int} {r : Bool} (H : spec_l1One.f a0 = some r) : Ret Try.prog 196 [.lit (.int .i64 a0)] fun v S => v = .lit (.bool r) := by
 unfold spec_l1One.f at H
 refine Ret.intro Try.func196 rfl (Nat.le_of_ble_eq_true rfl) rfl ?_
 rw [tm1]
 refine Evr.sr rfl (Opl.p1 (n := Opl.nil (Evr.sr rfl (Opl.p1 (n := Opl.p1 (n := Opl.p1 (n := Opl.nil ?_)))))))
 obtain rfl := sinj H
 refine Evr.ret1 Try.func196 rfl ?_
 show (.lit (.bool (a0 == 7)) : PV) = _
 first | rfl | (simp only [go_sem]; rfl)
theorem spec_l1Kind.ev {k : Nat} {a0_0 : Int} {a0_1 : Int} {a0_2 : Int} {a0_3 : Int} {l1 : List Int} {v1 : PV} (hv1 : Sl (cInt .i64) l1 v1) {a2 : Int} {r : Int} (H : spec_l1Kind.f k a0_0 a0_1 a0_2 a0_3 l1 a2 = some r) : Ret Try.prog 197 [.agg [.lit (.int .i64 a0_0), .lit (.int .i64 a0_1), .lit (.int .i64 a0_2), .lit (.int .i64 a0_3)], v1, .lit (.int .i64 a2)] fun v S => v = .lit (.int .i64 r) := by
 unfold spec_l1Kind.f at H
 refine Ret.intro Try.func197 rfl (Nat.le_of_ble_eq_true rfl) rfl ?_
 rw [tm3]
 refine Evr.sr rfl (Opl.box (cs := [.lit (.int .i64 a0_0), .lit (.int .i64 a0_1), .lit (.int .i64 a0_2), .lit (.int .i64 a0_3)]) rfl rfl rfl rfl ?_)
 rintro i1 S h1 u1 w1
 refine Opl.p1 (n := Opl.nil (Evr.seq (Evr.seq ?_)))
 refine Evr.join (fun tm S => ∃ (kq1 : Nat) (x25_1 : Bool) (i2 : Abs.Id), spec_l1Kind.j0 kq1 l1 a2 x25_1 a0_0 a0_1 a0_2 a0_3 = some r ∧ Has tm [(1, v1), (2, .lit (.int .i64 a2)), (3, .ptr i2 0), (25, .lit (.bool x25_1))] ∧ Box (.ptr i2 0) [.lit (.int .i64 a0_0), .lit (.int .i64 a0_1), .lit (.int .i64 a0_2), .lit (.int .i64 a0_3)] S) ?_ fun hk1 => ?_
 ·
  rintro tm S ⟨kq1, x25_1, i2, H, hh, h2⟩
  rw [hh.eq]
  obtain _ | k1 := kq1
  · simp [spec_l1Kind.j0] at H
  simp only [spec_l1Kind.j0] at H
  by_cases c1 : x25_1 = true
  case pos =>
   rw [if_pos c1] at H
   obtain rfl : x25_1 = true := by simpa using c1
   refine Evr.condT rfl (Evr.sr rfl (Opl.p1 (n := Opl.nil ?_)))
   obtain rfl := sinj H
   refine Evr.ret1 Try.func197 rfl ?_
   show (.lit (.int .i64 1) : PV) = _
   first | rfl | (simp only [go_sem]; rfl)
  rw [if_neg c1] at H
  obtain rfl : x25_1 = false := by simpa using c1
  refine Evr.condF rfl (Evr.skip (Evr.seq (Evr.seq ?_)))
  refine Evr.join (fun tm S => ∃ (kq2 : Nat) (x45_1 : Bool) (i3 : Abs.Id), spec_l1Kind.j1 kq2 l1 x45_1 a0_0 a0_1 a0_2 a0_3 = some r ∧ Has tm [(1, v1), (3, .ptr i3 0), (45, .lit (.bool x45_1))] ∧ Box (.ptr i3 0) [.lit (.int .i64 a0_0), .lit (.int .i64 a0_1), .lit (.int .i64 a0_2), .lit (.int .i64 a0_3)] S) ?_ fun hk2 => ?_
  ·
   rintro tm S ⟨kq2, x45_1, i3, H, hh, h3⟩
   rw [hh.eq]
   obtain _ | k2 := kq2
   · simp [spec_l1Kind.j1] at H
   simp only [spec_l1Kind.j1] at H
   by_cases c2 : x45_1 = true
   case pos =>
    rw [if_pos c2] at H
    obtain rfl : x45_1 = true := by simpa using c2
    refine Evr.condT rfl (Evr.sr rfl (Opl.p1 (n := Opl.nil ?_)))
    obtain rfl := sinj H
    refine Evr.ret1 Try.func197 rfl ?_
    show (.lit (.int .i64 1) : PV) = _
    first | rfl | (simp only [go_sem]; rfl)
   rw [if_neg c2] at H
   obtain rfl : x45_1 = false := by simpa using c2
   refine Evr.condF rfl (Evr.skip (Evr.seq (Evr.seq ?_)))
   refine Evr.join (fun tm S => ∃ (kq3 : Nat) (x72_1 : Bool) (i4 : Abs.Id), spec_l1Kind.j2 kq3 l1 x72_1 a0_0 a0_1 a0_2 a0_3 = some r ∧ Has tm [(1, v1), (3, .ptr i4 0), (72, .lit (.bool x72_1))] ∧ Box (.ptr i4 0) [.lit (.int .i64 a0_0), .lit (.int .i64 a0_1), .lit (.int .i64 a0_2), .lit (.int .i64 a0_3)] S) ?_ fun hk3 => ?_
   ·
    rintro tm S ⟨kq3, x72_1, i4, H, hh, h4⟩
    rw [hh.eq]
    obtain _ | k3 := kq3
    · simp [spec_l1Kind.j2] at H
    simp only [spec_l1Kind.j2] at H
    by_cases c3 : x72_1 = true
    case pos =>
     rw [if_pos c3] at H
     obtain rfl : x72_1 = true := by simpa using c3
     refine Evr.condT rfl (Evr.sr rfl (Opl.p1 (n := Opl.nil ?_)))
     obtain rfl := sinj H
     refine Evr.ret1 Try.func197 rfl ?_
     show (.lit (.int .i64 0) : PV) = _
     first | rfl | (simp only [go_sem]; rfl)
    rw [if_neg c3] at H
    obtain rfl : x72_1 = false := by simpa using c3
    refine Evr.condF rfl (Evr.skip (Evr.sr rfl (Opl.p1 (n := Opl.nil (Evr.seq (Evr.sr rfl (Opl.p1 (v := .ptr i4 0) (n := Opl.ldb (v := .lit (.int .i64 a0_0)) h4 rfl T3 rfl rfl rfl rfl (Opl.p1 (n := Opl.nil ?_))))))))))
    refine Evr.join (fun tm S => ∃ (kq4 : Nat) (x7_1 : Int) (i5 : Abs.Id), spec_l1Kind.j3 kq4 l1 x7_1 a0_0 a0_1 a0_2 a0_3 = some r ∧ Has tm [(1, v1), (3, .ptr i5 0), (7, .lit (.int .i64 x7_1))] ∧ Box (.ptr i5 0) [.lit (.int .i64 a0_0), .lit (.int .i64 a0_1), .lit (.int .i64 a0_2), .lit (.int .i64 a0_3)] S) ?_ fun hk4 => ?_
    ·
     rintro tm S ⟨kq4, x7_1, i5, H, hh, h5⟩
     rw [hh.eq]
     refine Evr.seq (Evr.seq ?_)
     refine Evr.join (fun tm S => ∃ (kq5 : Nat) (x103_1 : Bool) (i6 : Abs.Id), spec_l1Kind.j4 kq5 x103_1 a0_0 a0_1 a0_2 a0_3 = some r ∧ Has tm [(3, .ptr i6 0), (103, .lit (.bool x103_1))] ∧ Box (.ptr i6 0) [.lit (.int .i64 a0_0), .lit (.int .i64 a0_1), .lit (.int .i64 a0_2), .lit (.int .i64 a0_3)] S) ?_ fun hk5 => ?_
     ·
      rintro tm S ⟨kq5, x103_1, i6, H, hh, h6⟩
      rw [hh.eq]
      obtain _ | k4 := kq5
      · simp [spec_l1Kind.j4] at H
      simp only [spec_l1Kind.j4] at H
      by_cases c4 : x103_1 = true
      case pos =>
       rw [if_pos c4] at H
       obtain rfl : x103_1 = true := by simpa using c4
       refine Evr.condT rfl (Evr.sr rfl (Opl.p1 (n := Opl.nil ?_)))
       obtain rfl := sinj H
       refine Evr.ret1 Try.func197 rfl ?_
       show (.lit (.int .i64 0) : PV) = _
       first | rfl | (simp only [go_sem]; rfl)
      rw [if_neg c4] at H
      obtain rfl : x103_1 = false := by simpa using c4
      refine Evr.condF rfl (Evr.skip (Evr.seq (Evr.sr rfl (Opl.p1 (v := .ptr i6 0) (n := Opl.ldb (v := .lit (.int .i64 a0_0)) h6 rfl T3 rfl rfl rfl rfl (Opl.p1 (n := Opl.nil ?_)))))))
      by_cases c5 : a0_0 ≥ 5
      case pos =>
       rw [if_pos c5] at H
       have e1 : (decide (a0_0 ≥ 5)) = true := by simpa using c5
       try rw [e1]
       refine Evr.condT rfl (Evr.sr rfl (Opl.p1 (n := Opl.nil ?_)))
       obtain rfl := sinj H
       refine Evr.ret1 Try.func197 rfl ?_
       show (.lit (.int .i64 2) : PV) = _
       first | rfl | (simp only [go_sem]; rfl)
      rw [if_neg c5] at H
      have e2 : (decide (a0_0 ≥ 5)) = false := by simpa using c5
      try rw [e2]
      refine Evr.condF rfl (Evr.skip (Evr.sr rfl (Opl.p1 (n := Opl.nil ?_))))
      obtain rfl := sinj H
      refine Evr.ret1 Try.func197 rfl ?_
      show (.lit (.int .i64 1) : PV) = _
      first | rfl | (simp only [go_sem]; rfl)
     ·
      refine Evr.regionN rfl (Opl.p1 (n := Opl.p1 (v := .ptr i5 2) (n := Opl.ldb (v := .lit (.int .i64 a0_2)) h5 rfl T3 rfl rfl rfl rfl ?_)))
      obtain _ | k5 := kq4
      · simp [spec_l1Kind.j3] at H
      simp only [spec_l1Kind.j3] at H
      obtain ⟨c6, H⟩ := peel H
      obtain ⟨c7, H⟩ := peel H
      refine Opl.idx (M := (cInt .i64)) (xs := l1) (j := a0_2) (0 : Int) (by exact hv1) rfl (by omega) (by omega) K27 Z3 rfl rfl ?_
      rintro p1 q1 h7
      obtain rfl : p1 = [.lit (.int .i64 (rd l1 a0_2))] := h7
      refine Opl.lda (.lit (.int .i64 (rd l1 a0_2))) rfl T3 rfl rfl rfl rfl (Opl.p1 (n := Opl.p1 (n := Opl.p1 (n := ?_))))
      by_cases c8 : (rd l1 a0_2) = x7_1
      case neg =>
       rw [if_neg c8] at H
       have e6 : ((rd l1 a0_2) != x7_1) = true := by simpa using c8
       try rw [e6]
       refine Opl.sk4 rfl rfl rfl rfl (Opl.sk2 rfl rfl (Opl.skp rfl (Opl.p1 (n := Opl.p1 (n := Opl.sk8 rfl rfl rfl rfl rfl rfl rfl rfl (Opl.sk2 rfl rfl (Opl.p1 (n := Opl.nil ?_))))))))
       exact hk5 _ _ ⟨_, _, _, H, ⟨rfl, (by first | rfl | (show PV.lit (.bool _) = _; congr 2; simp_all)), trivial⟩, h5⟩
      rw [if_pos c8] at H
      have e3 : ((rd l1 a0_2) != x7_1) = false := by simpa using c8
      try rw [e3]
      refine Opl.p1 (n := Opl.p1 (v := .ptr i5 3) (n := Opl.ldb (v := .lit (.int .i64 a0_3)) h5 rfl T3 rfl rfl rfl rfl ?_))
      obtain ⟨c9, H⟩ := peel H
      obtain ⟨c10, H⟩ := peel H
      refine Opl.idx (M := (cInt .i64)) (xs := l1) (j := a0_3) (0 : Int) (by exact hv1) rfl (by omega) (by omega) K27 Z3 rfl rfl ?_
      rintro p2 q2 h8
      obtain rfl : p2 = [.lit (.int .i64 (rd l1 a0_3))] := h8
      refine Opl.lda (.lit (.int .i64 (rd l1 a0_3))) rfl T3 rfl rfl rfl rfl (Opl.p1 (n := Opl.p1 (n := Opl.p1 (n := Opl.p1 (n := ?_)))))
      by_cases c11 : (rd l1 a0_3) = x7_1
      case neg =>
       rw [if_neg c11] at H
       have e5 : ((rd l1 a0_3) != x7_1) = true := by simpa using c11
       try rw [e5]
       refine Opl.sk8 rfl rfl rfl rfl rfl rfl rfl rfl (Opl.sk2 rfl rfl (Opl.p1 (n := Opl.nil ?_)))
       exact hk5 _ _ ⟨_, _, _, H, ⟨rfl, (by first | rfl | (show PV.lit (.bool _) = _; congr 2; simp_all)), trivial⟩, h5⟩
      rw [if_pos c11] at H
      have e4 : ((rd l1 a0_3) != x7_1) = false := by simpa using c11
      try rw [e4]
      refine Opl.p1 (v := .ptr i5 0) (n := Opl.ldb (v := .lit (.int .i64 a0_0)) h5 rfl T3 rfl rfl rfl rfl ?_)
      obtain ⟨t144, h_t144, H⟩ := obs H
      refine Opl.callc (spec_l1One.ev h_t144) rfl rfl rfl rfl ⟨(.lit _), trivial⟩ (by decide) (Opl.p1 (n := ?_))
      by_cases c12 : t144 = true
      case neg =>
       rw [if_neg c12] at H
       obtain rfl : t144 = false := by simpa using c12
       refine Opl.sk4 rfl rfl rfl rfl (Opl.skp rfl (Opl.p1 (n := Opl.p1 (n := Opl.nil ?_))))
       exact hk5 _ _ ⟨_, _, _, H, ⟨rfl, (by first | rfl | (show PV.lit (.bool _) = _; congr 2; simp_all)), trivial⟩, h5⟩
      rw [if_pos c12] at H
      obtain rfl : t144 = true := by simpa using c12
      refine Opl.p1 (v := .ptr i5 3) (n := Opl.ldb (v := .lit (.int .i64 a0_3)) h5 rfl T3 rfl rfl rfl rfl (Opl.p1 (v := .ptr i5 2) (n := Opl.ldb (v := .lit (.int .i64 a0_2)) h5 rfl T3 rfl rfl rfl rfl (Opl.p1 (n := Opl.p1 (n := Opl.p1 (n := Opl.nil ?_)))))))
      exact hk5 _ _ ⟨_, _, _, H, ⟨rfl, (by first | rfl | (show PV.lit (.bool _) = _; congr 2; simp_all)), trivial⟩, h5⟩
    ·
     by_cases c13 : a0_0 ≥ 7
     case neg =>
      rw [if_neg c13] at H
      have e8 : (decide (a0_0 ≥ 7)) = false := by simpa using c13
      try rw [e8]
      refine Evr.condF rfl (Evr.skip ?_)
      exact hk4 _ _ ⟨_, _, _, H, ⟨rfl, rfl, rfl, trivial⟩, h4⟩
     rw [if_pos c13] at H
     have e7 : (decide (a0_0 ≥ 7)) = true := by simpa using c13
     try rw [e7]
     refine Evr.condT rfl (Evr.regionN rfl (Opl.p1 (n := Opl.nil ?_)))
     exact hk4 _ _ ⟨_, _, _, H, ⟨rfl, rfl, rfl, trivial⟩, h4⟩
   ·
    refine Evr.regionN rfl (Opl.p1 (v := .ptr i3 0) (n := Opl.ldb (v := .lit (.int .i64 a0_0)) h3 rfl T3 rfl rfl rfl rfl ?_))
    obtain ⟨t139, h_t139, H⟩ := obs H
    refine Opl.callc (spec_l1In.ev h_t139) rfl rfl rfl rfl ⟨(.lit _), (.lit _), (.lit _), trivial⟩ (by decide) (Opl.p1 (n := Opl.p1 (n := ?_)))
    by_cases c14 : t139 = true
    case neg =>
     rw [if_neg c14] at H
     have e14 : (!t139) = true := by simpa using c14
     try rw [e14]
     refine Opl.sk2 rfl rfl (Opl.skp rfl (Opl.p1 (n := Opl.p1 (n := Opl.sk4 rfl rfl rfl rfl (Opl.sk2 rfl rfl (Opl.skp rfl (Opl.p1 (n := Opl.p1 (n := Opl.sk4 rfl rfl rfl rfl (Opl.sk2 rfl rfl (Opl.skp rfl (Opl.p1 (n := Opl.nil ?_)))))))))))))
     exact hk3 _ _ ⟨_, _, _, H, ⟨rfl, rfl, (by first | rfl | (show PV.lit (.bool _) = _; congr 2; simp_all)), trivial⟩, h3⟩
    rw [if_pos c14] at H
    have e9 : (!t139) = false := by simpa using c14
    try rw [e9]
    refine Opl.p1 (v := .ptr i3 1) (n := Opl.ldb (v := .lit (.int .i64 a0_1)) h3 rfl T3 rfl rfl rfl rfl (Opl.p1 (n := Opl.p1 (n := Opl.p1 (n := ?_)))))
    by_cases c15 : a0_1 = 0
    case neg =>
     rw [if_neg c15] at H
     have e13 : (a0_1 != 0) = true := by simpa using c15
     try rw [e13]
     refine Opl.sk4 rfl rfl rfl rfl (Opl.sk2 rfl rfl (Opl.skp rfl (Opl.p1 (n := Opl.p1 (n := Opl.sk4 rfl rfl rfl rfl (Opl.sk2 rfl rfl (Opl.skp rfl (Opl.p1 (n := Opl.nil ?_)))))))))
     exact hk3 _ _ ⟨_, _, _, H, ⟨rfl, rfl, (by first | rfl | (show PV.lit (.bool _) = _; congr 2; simp_all)), trivial⟩, h3⟩
    rw [if_pos c15] at H
    have e10 : (a0_1 != 0) = false := by simpa using c15
    try rw [e10]
    refine Opl.p1 (v := .ptr i3 2) (n := Opl.ldb (v := .lit (.int .i64 a0_2)) h3 rfl T3 rfl rfl rfl rfl (Opl.p1 (n := Opl.len (xs := l1) (by exact hv1) K27 rfl rfl rfl rfl (Opl.subi (k := .i64) (a := (l1.length : Int)) (b := 1) K3 rfl rfl rfl rfl ?_))))
    obtain ⟨t140, h_t140, H⟩ := obs H
    refine Opl.callc (spec_l1In.ev h_t140) rfl rfl rfl rfl ⟨(.lit _), (.lit _), (.lit _), trivial⟩ (by decide) (Opl.p1 (n := Opl.p1 (n := Opl.one (v := .lit (.bool (!t140))) rfl rfl rfl ?_)))
    by_cases c16 : t140 = true
    case neg =>
     rw [if_neg c16] at H
     have e12 : (!t140) = true := by simpa using c16
     try rw [e12]
     refine Opl.sk4 rfl rfl rfl rfl (Opl.sk2 rfl rfl (Opl.skp rfl (Opl.p1 (n := Opl.nil ?_))))
     exact hk3 _ _ ⟨_, _, _, H, ⟨rfl, rfl, (by first | rfl | (show PV.lit (.bool _) = _; congr 2; simp_all)), trivial⟩, h3⟩
    rw [if_pos c16] at H
    have e11 : (!t140) = false := by simpa using c16
    try rw [e11]
    refine Opl.p1 (v := .ptr i3 3) (n := Opl.ldb (v := .lit (.int .i64 a0_3)) h3 rfl T3 rfl rfl rfl rfl (Opl.one (v := v1) rfl rfl rfl (Opl.len (xs := l1) (by exact hv1) K27 rfl rfl rfl rfl (Opl.subi (k := .i64) (a := (l1.length : Int)) (b := 1) K3 rfl rfl rfl rfl ?_))))
    obtain ⟨t141, h_t141, H⟩ := obs H
    refine Opl.callc (spec_l1In.ev h_t141) rfl rfl rfl rfl ⟨(.lit _), (.lit _), (.lit _), trivial⟩ (by decide) (Opl.p1 (n := Opl.p1 (n := Opl.nil ?_)))
    exact hk3 _ _ ⟨_, _, _, H, ⟨rfl, rfl, (by first | rfl | (show PV.lit (.bool _) = _; congr 2; simp_all)), trivial⟩, h3⟩
  ·
   refine Evr.regionN rfl (Opl.p1 (v := .ptr i2 0) (n := Opl.ldb (v := .lit (.int .i64 a0_0)) h2 rfl T3 rfl rfl rfl rfl (Opl.p1 (n := Opl.p1 (n := ?_)))))
   by_cases c17 : a0_0 = 1
   case neg =>
    rw [if_neg c17] at H
    have e18 : (a0_0 == 1) = false := by simpa using c17
    try rw [e18]
    refine Opl.sk4 rfl rfl rfl rfl (Opl.skp rfl (Opl.p1 (n := Opl.p1 (n := Opl.sk2 rfl rfl (Opl.skp rfl (Opl.p1 (n := Opl.p1 (n := Opl.sk2 rfl rfl (Opl.skp rfl (Opl.p1 (n := Opl.nil ?_)))))))))))
    exact hk2 _ _ ⟨_, _, _, H, ⟨rfl, rfl, (by first | rfl | (show PV.lit (.bool _) = _; congr 2; simp_all)), trivial⟩, h2⟩
   rw [if_pos c17] at H
   have e15 : (a0_0 == 1) = true := by simpa using c17
   try rw [e15]
   refine Opl.p1 (v := .ptr i2 1) (n := Opl.ldb (v := .lit (.int .i64 a0_1)) h2 rfl T3 rfl rfl rfl rfl (Opl.p1 (n := Opl.subi (k := .i64) (a := a2) (b := 1) K3 rfl rfl rfl rfl ?_)))
   obtain ⟨t138, h_t138, H⟩ := obs H
   refine Opl.callc (spec_l1In.ev h_t138) rfl rfl rfl rfl ⟨(.lit _), (.lit _), (.lit _), trivial⟩ (by decide) (Opl.p1 (n := Opl.one (v := .lit (.bool t138)) rfl rfl rfl ?_))
   by_cases c18 : t138 = true
   case neg =>
    rw [if_neg c18] at H
    obtain rfl : t138 = false := by simpa using c18
    refine Opl.sk2 rfl rfl (Opl.skp rfl (Opl.p1 (n := Opl.one (v := .lit (.bool false)) rfl rfl rfl (Opl.sk2 rfl rfl (Opl.skp rfl (Opl.p1 (n := Opl.nil ?_)))))))
    exact hk2 _ _ ⟨_, _, _, H, ⟨rfl, rfl, (by first | rfl | (show PV.lit (.bool _) = _; congr 2; simp_all)), trivial⟩, h2⟩
   rw [if_pos c18] at H
   obtain rfl : t138 = true := by simpa using c18
   refine Opl.p1 (v := .ptr i2 2) (n := Opl.ldb (v := .lit (.int .i64 a0_2)) h2 rfl T3 rfl rfl rfl rfl (Opl.p1 (n := Opl.p1 (n := Opl.one (v := .lit (.bool (a0_2 == 0))) rfl rfl rfl ?_))))
   by_cases c19 : a0_2 = 0
   case neg =>
    rw [if_neg c19] at H
    have e17 : (a0_2 == 0) = false := by simpa using c19
    try rw [e17]
    refine Opl.sk2 rfl rfl (Opl.skp rfl (Opl.p1 (n := Opl.nil ?_)))
    exact hk2 _ _ ⟨_, _, _, H, ⟨rfl, rfl, (by first | rfl | (show PV.lit (.bool _) = _; congr 2; simp_all)), trivial⟩, h2⟩
   rw [if_pos c19] at H
   have e16 : (a0_2 == 0) = true := by simpa using c19
   try rw [e16]
   refine Opl.p1 (v := .ptr i2 3) (n := Opl.ldb (v := .lit (.int .i64 a0_3)) h2 rfl T3 rfl rfl rfl rfl (Opl.p1 (n := Opl.p1 (n := Opl.nil ?_))))
   exact hk2 _ _ ⟨_, _, _, H, ⟨rfl, rfl, (by first | rfl | (show PV.lit (.bool _) = _; congr 2; simp_all)), trivial⟩, h2⟩
 ·
  refine Evr.regionN rfl (Opl.p1 (v := .ptr i1 0) (n := Opl.ldb (v := .lit (.int .i64 a0_0)) h1 rfl T3 rfl rfl rfl rfl (Opl.p1 (n := Opl.p1 (n := ?_)))))
  by_cases c20 : a0_0 = 0
  case neg =>
   rw [if_neg c20] at H
   have e22 : (a0_0 == 0) = false := by simpa using c20
   try rw [e22]
   refine Opl.sk2 rfl rfl (Opl.skp rfl (Opl.p1 (n := Opl.p1 (n := Opl.sk2 rfl rfl (Opl.skp rfl (Opl.p1 (n := Opl.p1 (n := Opl.sk2 rfl rfl (Opl.skp rfl (Opl.p1 (n := Opl.nil ?_)))))))))))
   exact hk1 _ _ ⟨_, _, _, H, ⟨rfl, rfl, rfl, (by first | rfl | (show PV.lit (.bool _) = _; congr 2; simp_all)), trivial⟩, h1⟩
  rw [if_pos c20] at H
  have e19 : (a0_0 == 0) = true := by simpa using c20
  try rw [e19]
  refine Opl.p1 (v := .ptr i1 1) (n := Opl.ldb (v := .lit (.int .i64 a0_1)) h1 rfl T3 rfl rfl rfl rfl ?_)
  obtain ⟨t137, h_t137, H⟩ := obs H
  refine Opl.callc (spec_l1In.ev h_t137) rfl rfl rfl rfl ⟨(.lit _), (.lit _), (.lit _), trivial⟩ (by decide) (Opl.p1 (n := Opl.p1 (n := ?_)))
  by_cases c21 : t137 = true
  case neg =>
   rw [if_neg c21] at H
   obtain rfl : t137 = false := by simpa using c21
   refine Opl.sk2 rfl rfl (Opl.skp rfl (Opl.p1 (n := Opl.p1 (n := Opl.sk2 rfl rfl (Opl.skp rfl (Opl.p1 (n := Opl.nil ?_)))))))
   exact hk1 _ _ ⟨_, _, _, H, ⟨rfl, rfl, rfl, (by first | rfl | (show PV.lit (.bool _) = _; congr 2; simp_all)), trivial⟩, h1⟩
  rw [if_pos c21] at H
  obtain rfl : t137 = true := by simpa using c21
  refine Opl.p1 (v := .ptr i1 2) (n := Opl.ldb (v := .lit (.int .i64 a0_2)) h1 rfl T3 rfl rfl rfl rfl (Opl.p1 (n := Opl.p1 (n := Opl.p1 (n := ?_)))))
  by_cases c22 : a0_2 = 0
  case neg =>
   rw [if_neg c22] at H
   have e21 : (a0_2 == 0) = false := by simpa using c22
   try rw [e21]
   refine Opl.sk2 rfl rfl (Opl.skp rfl (Opl.p1 (n := Opl.nil ?_)))
   exact hk1 _ _ ⟨_, _, _, H, ⟨rfl, rfl, rfl, (by first | rfl | (show PV.lit (.bool _) = _; congr 2; simp_all)), trivial⟩, h1⟩
  rw [if_pos c22] at H
  have e20 : (a0_2 == 0) = true := by simpa using c22
  try rw [e20]
  refine Opl.p1 (v := .ptr i1 3) (n := Opl.ldb (v := .lit (.int .i64 a0_3)) h1 rfl T3 rfl rfl rfl rfl (Opl.p1 (n := Opl.p1 (n := Opl.nil ?_))))
  exact hk1 _ _ ⟨_, _, _, H, ⟨rfl, rfl, rfl, (by first | rfl | (show PV.lit (.bool _) = _; congr 2; simp_all)), trivial⟩, h1⟩
theorem spec_KindsOf.ev {k : Nat} {l0 : List ITerm} {v0 : PV} (hv0 : Sl cITerm l0 v0) {a1 : Int} {r : (List Int)} (H : spec_KindsOf.f k l0 a1 = some r) : Ret Try.prog 172 [v0, .lit (.int .i64 a1)] fun v S => Vec (cInt .i64) r v S := by
 unfold spec_KindsOf.f at H
 refine Ret.intro Try.func172 rfl (Nat.le_of_ble_eq_true rfl) rfl ?_
 rw [tm2]
 refine Evr.sr rfl (Opl.p1 (n := Opl.nil (Evr.seq (Evr.seq ?_))))
 refine Evr.join (fun tm S => ∃ (kq1 : Nat) (x16_1 : Bool), spec_KindsOf.j0 kq1 l0 a1 x16_1 = some r ∧ Has tm [(0, v0), (1, .lit (.int .i64 a1)), (16, .lit (.bool x16_1))]) ?_ fun hk1 => ?_
 ·
  rintro tm S ⟨kq1, x16_1, H, hh⟩
  rw [hh.eq]
  obtain _ | k1 := kq1
  · simp [spec_KindsOf.j0] at H
  simp only [spec_KindsOf.j0] at H
  by_cases c1 : x16_1 = true
  case pos =>
   rw [if_pos c1] at H
   obtain rfl : x16_1 = true := by simpa using c1
   refine Evr.condT rfl (Evr.sr rfl (Opl.p1 (n := Opl.nil ?_)))
   obtain rfl := sinj H
   refine Evr.ret1 Try.func172 rfl ?_
   show Vec _ _ (.lit (.slice none 0 0)) _
   exact .nil
  rw [if_neg c1] at H
  obtain rfl : x16_1 = false := by simpa using c1
  refine Evr.condF rfl (Evr.skip (Evr.sr rfl (Opl.lits (M := (cInt .i64)) (ys := []) [] K27 T3 rfl rfl rfl trivial rfl (by decide) rfl rfl rfl ?_)))
  rintro pv1 S h1 u1 w1
  refine Opl.p1 (n := Opl.nil (Evr.seq (Evr.sr rfl (Opl.p1 (n := Opl.nil (Evr.block ?_))))))
  refine Evr.loop (Evr.rounds (n := k1) (Inv := fun n tm S => n ≤ k1 ∧ ∃ (x5_1 : List Int) (x6_1 : Int) (pv2 : PV), spec_KindsOf.l0 n l0 a1 x5_1 x6_1 = some r ∧ Has tm [(0, v0), (1, .lit (.int .i64 a1)), (5, pv2), (6, .lit (.int .i64 x6_1))] ∧ Vec (cInt .i64) x5_1 pv2 S) ?_ ?_ ?_)
  · exact ⟨Nat.le_refl _, _, _, _, H, ⟨rfl, rfl, rfl, rfl, trivial⟩, h1⟩
  ·
   rintro tm S ⟨_, _, _, _, H, -⟩
   simp [spec_KindsOf.l0] at H
  ·
   rintro n1 ih1 tm S ⟨hle, x5_1, x6_1, pv2, H, hh, h2⟩
   simp only [spec_KindsOf.l0] at H
   rw [hh.eq]
   refine Evr.seq (Evr.sr rfl (Opl.p1 (n := Opl.p1 (n := Opl.len (xs := l0) (by exact hv0) K66 rfl rfl rfl rfl (Opl.p1 (n := Opl.nil ?_))))))
   by_cases c2 : x6_1 < (l0.length : Int)
   case neg =>
    rw [if_neg c2] at H
    have e4 : (decide (x6_1 < (l0.length : Int))) = false := by simpa using c2
    try rw [e4]
    refine Evr.condF rfl (Evr.exit rfl (Evr.sr rfl (Opl.p1 (n := Opl.p1 (n := Opl.nil ?_)))))
    obtain rfl := sinj H
    refine Evr.ret1 Try.func172 rfl ?_
    show Vec _ _ pv2 _
    exact h2
   rw [if_pos c2] at H
   have e1 : (decide (x6_1 < (l0.length : Int))) = true := by simpa using c2
   try rw [e1]
   refine Evr.condT rfl (Evr.skip (Evr.seq (Evr.block (Evr.sr rfl (Opl.p1 (n := Opl.p1 (n := ?_)))))))
   obtain ⟨c3, H⟩ := peel H
   refine Opl.idx (M := cITerm) (xs := l0) (j := x6_1) zITerm (by exact hv0) rfl (by omega) (by omega) K66 Z128 rfl rfl ?_
   rintro p1 q1 h3
   obtain rfl := cITerm_R (x := (rd_ITerm l0 x6_1)) h3
   refine Opl.lda (.agg [.lit (.int .i64 ((rd_ITerm l0 x6_1).f0)), .lit (.int .i64 ((rd_ITerm l0 x6_1).f1)), .lit (.int .i64 ((rd_ITerm l0 x6_1).f2)), .lit (.int .i64 ((rd_ITerm l0 x6_1).f3))]) rfl T128 rfl rfl rfl rfl (Opl.p1 (n := Opl.p1 (n := ?_)))
   obtain ⟨t151, h_t151, H⟩ := obs H
   obtain ⟨pv3, h4, -, h5⟩ := Out.vec h2
   refine Opl.callw (spec_l1Kind.ev h5 h_t151) rfl rfl rfl (.cons (.refl _) (.cons h4 (.cons (.refl _) .nil))) ⟨(.aggL ⟨(.lit _), (.lit _), (.lit _), (.lit _), trivial⟩), h5.plain, (.lit _), trivial⟩ (by decide) (Opl.p1 (n := Opl.nil (Evr.seq (Evr.sr rfl (Opl.p1 (n := Opl.p1 (n := Opl.nil ?_)))))))
   by_cases c4 : t151 = 0
   case pos =>
    rw [if_pos c4] at H
    have e2 : (t151 == 0) = true := by simpa using c4
    try rw [e2]
    refine Evr.condT rfl (Evr.sr rfl (Opl.p1 (n := Opl.nil ?_)))
    obtain rfl := sinj H
    refine Evr.ret1 Try.func172 rfl ?_
    show Vec _ _ (.lit (.slice none 0 0)) _
    exact .nil
   rw [if_neg c4] at H
   have e3 : (t151 == 0) = false := by simpa using c4
   try rw [e3]
   refine Evr.condF rfl (Evr.skip (Evr.regionN rfl (Opl.p1 (n := Opl.p1 (n := Opl.lits (M := (cInt .i64)) (ys := [t151]) [.tmp 34] K27 T3 rfl rfl rfl (by exact ⟨rfl, trivial⟩) rfl (by decide) rfl rfl rfl ?_)))))
   rintro pv4 S h6 u2 w2
   have ap1 := w2.vec h2
   have h7 := u2.vec h2 ap1
   obtain ⟨c5, H⟩ := peel H
   refine Opl.app (M := (cInt .i64)) (xs := x5_1) (ys := [t151]) (v := pv2) h7 (.vec h6) (oInt .i64) rfl rfl K27 T3 rfl rfl (by (try simp only [List.length_cons, List.length_nil]); omega) (by show (_ + _) * 8 ≤ 140737488355328; (try simp only [List.length_cons, List.length_nil]); omega) rfl rfl rfl rfl rfl ?_
   rintro pv5 S h8 u3 w3
   have ap2 := w3.vec h6
   have h9 := u3.vec h6 ap1.symm
   refine Opl.p1 (n := Opl.nil (Evr.inBlock (Evr.regionN rfl (Opl.p1 (n := Opl.add (k := .i64) (a := x6_1) (b := 1) K3 rfl rfl rfl rfl (Opl.one (v := .lit (.int .i64 (wrap64 (x6_1 + 1)))) rfl rfl rfl (Opl.nil ?_)))))))
   exact ih1 _ (by omega) _ _ ⟨by omega, _, _, _, H, ⟨rfl, rfl, rfl, rfl, trivial⟩, h8⟩
 ·
  refine Evr.regionN rfl (Opl.p1 (n := ?_))
  obtain ⟨t145, h_t145, H⟩ := obs H
  refine Opl.callc (spec_l1In.ev h_t145) rfl rfl rfl rfl ⟨(.lit _), (.lit _), (.lit _), trivial⟩ (by decide) (Opl.p1 (n := Opl.p1 (n := ?_)))
  by_cases c6 : t145 = true
  case neg =>
   rw [if_neg c6] at H
   have e6 : (!t145) = true := by simpa using c6
   try rw [e6]
   refine Opl.sk4 rfl rfl rfl rfl (Opl.p1 (n := Opl.nil ?_))
   exact hk1 _ _ ⟨_, _, H, ⟨rfl, rfl, (by first | rfl | (show PV.lit (.bool _) = _; congr 2; simp_all)), trivial⟩⟩
  rw [if_pos c6] at H
  have e5 : (!t145) = false := by simpa using c6
  try rw [e5]
  refine Opl.p1 (n := Opl.len (xs := l0) (by exact hv0) K66 rfl rfl rfl rfl ?_)
  obtain ⟨t146, h_t146, H⟩ := obs H
  refine Opl.callc (spec_l1In.ev h_t146) rfl rfl rfl rfl ⟨(.lit _), (.lit _), (.lit _), trivial⟩ (by decide) (Opl.p1 (n := Opl.p1 (n := Opl.nil ?_)))
  exact hk1 _ _ ⟨_, _, H, ⟨rfl, rfl, (by first | rfl | (show PV.lit (.bool _) = _; congr 2; simp_all)), trivial⟩⟩
theorem spec_l2Is.ev {k : Nat} {l0 : List ITerm} {v0 : PV} (hv0 : Sl cITerm l0 v0) {a1 : Int} {a2 : Int} {r : Bool} (H : spec_l2Is.f k l0 a1 a2 = some r) : Ret Try.prog 151 [v0, .lit (.int .i64 a1), .lit (.int .i64 a2)] fun v S => v = .lit (.bool r) := by
 unfold spec_l2Is.f at H
 refine Ret.intro Try.func151 rfl (Nat.le_of_ble_eq_true rfl) rfl ?_
 rw [tm3]
 refine Evr.sr rfl (Opl.p1 (n := Opl.nil (Evr.sr rfl (Opl.p1 (n := Opl.p1 (n := ?_))))))
 obtain ⟨t422, h_t422, H⟩ := obs H
 refine Opl.call ((spec_KindsOf.ev hv0 h_t422).mono fun _ _ h => Out.vec h) rfl rfl rfl rfl ⟨hv0.plain, (.lit _), trivial⟩ (by decide) ?_
 rintro pv1 h1
 refine Opl.p1 (n := Opl.nil (Evr.sr rfl (Opl.p1 (n := Opl.len (xs := t422) (by exact h1) K27 rfl rfl rfl rfl (Opl.p1 (n := Opl.p1 (n := ?_)))))))
 by_cases c1 : (t422.length : Int) > 0
 case neg =>
  rw [if_neg c1] at H
  have e2 : (decide ((t422.length : Int) > 0)) = false := by simpa using c1
  try rw [e2]
  refine Opl.sk8 rfl rfl rfl rfl rfl rfl rfl rfl (Opl.p1 (n := Opl.p1 (n := Opl.nil ?_)))
  obtain rfl := sinj H
  refine Evr.ret1 Try.func151 rfl ?_
  show (.lit (.bool false) : PV) = _
  first | rfl | (simp only [go_sem]; rfl)
 rw [if_pos c1] at H
 have e1 : (decide ((t422.length : Int) > 0)) = true := by simpa using c1
 try rw [e1]
 refine Opl.p1 (n := Opl.p1 (n := Opl.len (xs := t422) (by exact h1) K27 rfl rfl rfl rfl (Opl.subi (k := .i64) (a := (t422.length : Int)) (b := 1) K3 rfl rfl rfl rfl ?_)))
 obtain ⟨c2, H⟩ := peel H
 obtain ⟨c3, H⟩ := peel H
 refine Opl.idx (M := (cInt .i64)) (xs := t422) (j := (wrap64 ((t422.length : Int) - 1))) (0 : Int) (by exact h1) rfl (by omega) (by omega) K27 Z3 rfl rfl ?_
 rintro p1 q1 h2
 obtain rfl : p1 = [.lit (.int .i64 (rd t422 (wrap64 ((t422.length : Int) - 1))))] := h2
 refine Opl.lda (.lit (.int .i64 (rd t422 (wrap64 ((t422.length : Int) - 1))))) rfl T3 rfl rfl rfl rfl (Opl.one (v := .lit (.int .i64 a2)) rfl rfl rfl (Opl.eql (a := (rd t422 (wrap64 ((t422.length : Int) - 1)))) (b := a2) K3 rfl rfl rfl rfl (Opl.p1 (n := Opl.one (v := .lit (.bool ((rd t422 (wrap64 ((t422.length : Int) - 1))) == a2))) rfl rfl rfl (Opl.nil ?_)))))
 obtain rfl := sinj H
 refine Evr.ret1 Try.func151 rfl ?_
 show (.lit (.bool ((rd t422 (wrap64 ((t422.length : Int) - 1))) == a2)) : PV) = _
 first | rfl | (simp only [go_sem]; rfl)
theorem spec_l2Rule.ev {k : Nat} {l0_0 : List ITerm} {v0_0 : PV} (hv0_0 : Sl cITerm l0_0 v0_0) {l0_1 : List Int} {v0_1 : PV} (hv0_1 : Sl (cInt .i64) l0_1 v0_1) {l0_2 : List (List ITerm)} {v0_2 : PV} (hv0_2 : Sl (cSl cITerm) l0_2 v0_2) {a1 : Int} {r : Bool} (H : spec_l2Rule.f k l0_0 l0_1 l0_2 a1 = some r) : Ret Try.prog 95 [.agg [v0_0, v0_1, v0_2], .lit (.int .i64 a1)] fun v S => v = .lit (.bool r) := by
 unfold spec_l2Rule.f at H
 refine Ret.intro Try.func95 rfl (Nat.le_of_ble_eq_true rfl) rfl ?_
 rw [tm2]
 refine Evr.sr rfl (Opl.box (cs := [v0_0, v0_1, v0_2]) rfl rfl rfl rfl ?_)
 rintro i1 S h1 u1 w1
 refine Opl.p1 (n := Opl.nil (Evr.seq (Evr.seq ?_)))
 refine Evr.join (fun tm S => ∃ (kq1 : Nat) (x26_1 : Bool) (i2 : Abs.Id), spec_l2Rule.j0 kq1 a1 x26_1 l0_0 l0_1 l0_2 = some r ∧ Has tm [(1, .lit (.int .i64 a1)), (2, .ptr i2 0), (26, .lit (.bool x26_1))] ∧ Box (.ptr i2 0) [v0_0, v0_1, v0_2] S) ?_ fun hk1 => ?_
 ·
  rintro tm S ⟨kq1, x26_1, i2, H, hh, h2⟩
  rw [hh.eq]
  obtain _ | k1 := kq1
  · simp [spec_l2Rule.j0] at H
  simp only [spec_l2Rule.j0] at H
  by_cases c1 : x26_1 = true
  case pos =>
   rw [if_pos c1] at H
   obtain rfl : x26_1 = true := by simpa using c1
   refine Evr.condT rfl (Evr.sr rfl (Opl.p1 (n := Opl.nil ?_)))
   obtain rfl := sinj H
   refine Evr.ret1 Try.func95 rfl ?_
   show (.lit (.bool false) : PV) = _
   first | rfl | (simp only [go_sem]; rfl)
  rw [if_neg c1] at H
  obtain rfl : x26_1 = false := by simpa using c1
  refine Evr.condF rfl (Evr.skip (Evr.seq (Evr.sr rfl (Opl.p1 (n := Opl.nil (Evr.block ?_))))))
  refine Evr.loop (Evr.rounds (n := k1) (Inv := fun n tm S => n ≤ k1 ∧ ∃ (x5_1 : Int) (i3 : Abs.Id), spec_l2Rule.l0 n a1 x5_1 l0_0 l0_1 l0_2 = some r ∧ Has tm [(1, .lit (.int .i64 a1)), (2, .ptr i3 0), (5, .lit (.int .i64 x5_1))] ∧ Box (.ptr i3 0) [v0_0, v0_1, v0_2] S) ?_ ?_ ?_)
  · exact ⟨Nat.le_refl _, _, _, H, ⟨rfl, rfl, rfl, trivial⟩, h2⟩
  ·
   rintro tm S ⟨_, _, _, H, -⟩
   simp [spec_l2Rule.l0] at H
  ·
   rintro n1 ih1 tm S ⟨hle, x5_1, i3, H, hh, h3⟩
   simp only [spec_l2Rule.l0] at H
   rw [hh.eq]
   refine Evr.seq (Evr.sr rfl (Opl.p1 (n := Opl.p1 (v := .ptr i3 1) (n := Opl.ldb (v := v0_1) h3 rfl T27 rfl rfl rfl rfl (Opl.len (xs := l0_1) (by exact hv0_1) K27 rfl rfl rfl rfl (Opl.p1 (n := Opl.nil ?_)))))))
   by_cases c2 : x5_1 < (l0_1.length : Int)
   case neg =>
    rw [if_neg c2] at H
    have e8 : (decide (x5_1 < (l0_1.length : Int))) = false := by simpa using c2
    try rw [e8]
    refine Evr.condF rfl (Evr.exit rfl (Evr.sr rfl (Opl.p1 (n := Opl.nil ?_))))
    obtain rfl := sinj H
    refine Evr.ret1 Try.func95 rfl ?_
    show (.lit (.bool true) : PV) = _
    first | rfl | (simp only [go_sem]; rfl)
   rw [if_pos c2] at H
   have e1 : (decide (x5_1 < (l0_1.length : Int))) = true := by simpa using c2
   try rw [e1]
   refine Evr.condT rfl (Evr.skip (Evr.seq (Evr.block (Evr.seq ?_))))
   refine Evr.join (fun tm S => ∃ (kq2 : Nat) (x70_1 : Bool) (i4 : Abs.Id), spec_l2Rule.j2 kq2 a1 x5_1 x70_1 l0_0 l0_1 l0_2 = some r ∧ kq2 ≤ n1 ∧ Has tm [(1, .lit (.int .i64 a1)), (2, .ptr i4 0), (5, .lit (.int .i64 x5_1)), (70, .lit (.bool x70_1))] ∧ Box (.ptr i4 0) [v0_0, v0_1, v0_2] S) ?_ fun hk2 => ?_
   ·
    rintro tm S ⟨kq2, x70_1, i4, H, hle, hh, h4⟩
    rw [hh.eq]
    obtain _ | k2 := kq2
    · simp [spec_l2Rule.j2] at H
    simp only [spec_l2Rule.j2] at H
    by_cases c3 : x70_1 = true
    case pos =>
     rw [if_pos c3] at H
     obtain rfl : x70_1 = true := by simpa using c3
     refine Evr.condT rfl (Evr.sr rfl (Opl.p1 (n := Opl.nil ?_)))
     obtain rfl := sinj H
     refine Evr.ret1 Try.func95 rfl ?_
     show (.lit (.bool false) : PV) = _
     first | rfl | (simp only [go_sem]; rfl)
    rw [if_neg c3] at H
    obtain rfl : x70_1 = false := by simpa using c3
    refine Evr.condF rfl (Evr.skip (Evr.inBlock (Evr.regionN rfl (Opl.p1 (n := Opl.add (k := .i64) (a := x5_1) (b := 1) K3 rfl rfl rfl rfl (Opl.one (v := .lit (.int .i64 (wrap64 (x5_1 + 1)))) rfl rfl rfl (Opl.nil ?_)))))))
    exact ih1 _ (by omega) _ _ ⟨by omega, _, _, H, ⟨rfl, rfl, rfl, trivial⟩, h4⟩
   ·
    refine Evr.regionD rfl (by kernel_rfl) (Opl.p1 (v := .ptr i3 1) (n := Opl.ldb (v := v0_1) h3 rfl T27 rfl rfl rfl rfl (Opl.p1 (n := ?_))))
    obtain ⟨c4, H⟩ := peel H
    refine Opl.idx (M := (cInt .i64)) (xs := l0_1) (j := x5_1) (0 : Int) (by exact hv0_1) rfl (by omega) (by omega) K27 Z3 rfl rfl ?_
    rintro p1 q1 h5
    obtain rfl : p1 = [.lit (.int .i64 (rd l0_1 x5_1))] := h5
    refine Opl.lda (.lit (.int .i64 (rd l0_1 x5_1))) rfl T3 rfl rfl rfl rfl (Opl.p1 (n := Opl.subi (k := .i64) (a := a1) (b := 1) K3 rfl rfl rfl rfl ?_))
    obtain ⟨t429, h_t429, H⟩ := obs H
    refine Opl.callc (spec_l1In.ev h_t429) rfl rfl rfl rfl ⟨(.lit _), (.lit _), (.lit _), trivial⟩ (by decide) (Opl.p1 (n := Opl.one (v := .lit (.bool (!t429))) rfl rfl rfl ?_))
    by_cases c5 : t429 = true
    case neg =>
     rw [if_neg c5] at H
     have e7 : (!t429) = true := by simpa using c5
     try rw [e7]
     refine Opl.sk8 rfl rfl rfl rfl rfl rfl rfl rfl (Opl.sk8 rfl rfl rfl rfl rfl rfl rfl rfl (Opl.p1 (n := Opl.one (v := .lit (.bool true)) rfl rfl rfl (Opl.sk8 rfl rfl rfl rfl rfl rfl rfl rfl (Opl.p1 (n := Opl.nil ?_))))))
     exact hk2 _ _ ⟨_, _, _, H, by omega, ⟨rfl, rfl, rfl, (by first | rfl | (show PV.lit (.bool _) = _; congr 2; simp_all)), trivial⟩, h3⟩
    rw [if_pos c5] at H
    have e2 : (!t429) = false := by simpa using c5
    try rw [e2]
    refine Opl.one (v := .lit (.int .i64 x5_1)) rfl rfl rfl (Opl.p1 (n := Opl.one (v := .lit (.bool (decide (x5_1 > 0)))) rfl rfl rfl ?_))
    by_cases c6 : x5_1 > 0
    case neg =>
     rw [if_neg c6] at H
     have e6 : (decide (x5_1 > 0)) = false := by simpa using c6
     try rw [e6]
     refine Opl.sk8 rfl rfl rfl rfl rfl rfl rfl rfl (Opl.sk4 rfl rfl rfl rfl (Opl.p1 (n := Opl.p1 (n := Opl.one (v := .lit (.bool false)) rfl rfl rfl (Opl.p1 (v := .ptr i3 2) (n := Opl.ldb (v := v0_2) h3 rfl T104 rfl rfl rfl rfl (Opl.one (v := .lit (.int .i64 x5_1)) rfl rfl rfl ?_)))))))
     obtain ⟨c11, H⟩ := peel H
     refine Opl.idx (M := (cSl cITerm)) (xs := l0_2) (j := x5_1) ([] : List ITerm) (by exact hv0_2) rfl (by omega) (by omega) K104 Z66 rfl rfl ?_
     rintro p5 q5 h10
     obtain ⟨pv2, rfl, h11⟩ := h10
     refine Opl.lda (pv2) rfl T66 rfl rfl rfl rfl (Opl.one (v := .lit (.int .i64 a1)) rfl rfl rfl ?_)
     obtain ⟨t435, h_t435, H⟩ := obs H
     refine Opl.callc (spec_l2Is.ev h11 h_t435) rfl rfl rfl rfl ⟨h11.plain, (.lit _), (.lit _), trivial⟩ (by decide) (Opl.p1 (n := Opl.p1 (n := Opl.nil ?_)))
     exact hk2 _ _ ⟨_, _, _, H, by omega, ⟨rfl, rfl, rfl, (by first | rfl | (show PV.lit (.bool _) = _; congr 2; simp_all)), trivial⟩, h3⟩
    rw [if_pos c6] at H
    have e3 : (decide (x5_1 > 0)) = true := by simpa using c6
    try rw [e3]
    refine Opl.p1 (v := .ptr i3 1) (n := Opl.ldb (v := v0_1) h3 rfl T27 rfl rfl rfl rfl (Opl.one (v := .lit (.int .i64 x5_1)) rfl rfl rfl ?_))
    obtain ⟨c7, H⟩ := peel H
    obtain ⟨c8, H⟩ := peel H
    refine Opl.idx (M := (cInt .i64)) (xs := l0_1) (j := x5_1) (0 : Int) (by exact hv0_1) rfl (by omega) (by omega) K27 Z3 rfl rfl ?_
    rintro p2 q2 h6
    obtain rfl : p2 = [.lit (.int .i64 (rd l0_1 x5_1))] := h6
    refine Opl.lda (.lit (.int .i64 (rd l0_1 x5_1))) rfl T3 rfl rfl rfl rfl (Opl.p1 (v := .ptr i3 1) (n := Opl.ldb (v := v0_1) h3 rfl T27 rfl rfl rfl rfl (Opl.one (v := .lit (.int .i64 x5_1)) rfl rfl rfl (Opl.subi (k := .i64) (a := x5_1) (b := 1) K3 rfl rfl rfl rfl (Opl.idx (M := (cInt .i64)) (xs := l0_1) (j := (wrap64 (x5_1 - 1))) (0 : Int) (by exact hv0_1) rfl (by omega) (by omega) K27 Z3 rfl rfl ?_)))))
    rintro p3 q3 h7
    obtain rfl : p3 = [.lit (.int .i64 (rd l0_1 (wrap64 (x5_1 - 1))))] := h7
    refine Opl.lda (.lit (.int .i64 (rd l0_1 (wrap64 (x5_1 - 1))))) rfl T3 rfl rfl rfl rfl (Opl.leq (a := (rd l0_1 x5_1)) (b := (rd l0_1 (wrap64 (x5_1 - 1)))) K3 rfl rfl rfl rfl (Opl.p1 (n := Opl.p1 (n := Opl.one (v := .lit (.bool (decide ((rd l0_1 x5_1) ≤ (rd l0_1 (wrap64 (x5_1 - 1))))))) rfl rfl rfl ?_))))
    by_cases c9 : (rd l0_1 x5_1) ≤ (rd l0_1 (wrap64 (x5_1 - 1)))
    case pos =>
     rw [if_pos c9] at H
     have e4 : (decide ((rd l0_1 x5_1) ≤ (rd l0_1 (wrap64 (x5_1 - 1))))) = true := by simpa using c9
     try rw [e4]
     refine Opl.sk8 rfl rfl rfl rfl rfl rfl rfl rfl (Opl.p1 (n := Opl.nil ?_))
     exact hk2 _ _ ⟨_, _, _, H, by omega, ⟨rfl, rfl, rfl, (by first | rfl | (show PV.lit (.bool _) = _; congr 2; simp_all)), trivial⟩, h3⟩
    rw [if_neg c9] at H
    have e5 : (decide ((rd l0_1 x5_1) ≤ (rd l0_1 (wrap64 (x5_1 - 1))))) = false := by simpa using c9
    try rw [e5]
    refine Opl.p1 (v := .ptr i3 2) (n := Opl.ldb (v := v0_2) h3 rfl T104 rfl rfl rfl rfl (Opl.one (v := .lit (.int .i64 x5_1)) rfl rfl rfl ?_))
    obtain ⟨c10, H⟩ := peel H
    refine Opl.idx (M := (cSl cITerm)) (xs := l0_2) (j := x5_1) ([] : List ITerm) (by exact hv0_2) rfl (by omega) (by omega) K104 Z66 rfl rfl ?_
    rintro p4 q4 h8
    obtain ⟨pv1, rfl, h9⟩ := h8
    refine Opl.lda (pv1) rfl T66 rfl rfl rfl rfl (Opl.one (v := .lit (.int .i64 a1)) rfl rfl rfl ?_)
    obtain ⟨t433, h_t433, H⟩ := obs H
    refine Opl.callc (spec_l2Is.ev h9 h_t433) rfl rfl rfl rfl ⟨h9.plain, (.lit _), (.lit _), trivial⟩ (by decide) (Opl.p1 (n := Opl.p1 (n := Opl.nil ?_)))
    exact hk2 _ _ ⟨_, _, _, H, by omega, ⟨rfl, rfl, rfl, (by first | rfl | (show PV.lit (.bool _) = _; congr 2; simp_all)), trivial⟩, h3⟩
 ·
  refine Evr.regionN rfl (Opl.p1 (v := .ptr i1 0) (n := Opl.ldb (v := v0_0) h1 rfl T66 rfl rfl rfl rfl (Opl.p1 (n := ?_))))
  obtain ⟨t427, h_t427, H⟩ := obs H
  refine Opl.callc (spec_l2Is.ev hv0_0 h_t427) rfl rfl rfl rfl ⟨hv0_0.plain, (.lit _), (.lit _), trivial⟩ (by decide) (Opl.p1 (n := Opl.p1 (n := ?_)))
  by_cases c12 : t427 = true
  case neg =>
   rw [if_neg c12] at H
   have e12 : (!t427) = true := by simpa using c12
   try rw [e12]
   refine Opl.sk4 rfl rfl rfl rfl (Opl.sk2 rfl rfl (Opl.skp rfl (Opl.p1 (n := Opl.p1 (n := Opl.sk4 rfl rfl rfl rfl (Opl.skp rfl (Opl.p1 (n := Opl.nil ?_))))))))
   exact hk1 _ _ ⟨_, _, _, H, ⟨rfl, rfl, (by first | rfl | (show PV.lit (.bool _) = _; congr 2; simp_all)), trivial⟩, h1⟩
  rw [if_pos c12] at H
  have e9 : (!t427) = false := by simpa using c12
  try rw [e9]
  refine Opl.p1 (v := .ptr i1 1) (n := Opl.ldb (v := v0_1) h1 rfl T27 rfl rfl rfl rfl (Opl.len (xs := l0_1) (by exact hv0_1) K27 rfl rfl rfl rfl (Opl.p1 (v := .ptr i1 2) (n := Opl.ldb (v := v0_2) h1 rfl T104 rfl rfl rfl rfl (Opl.len (xs := l0_2) (by exact hv0_2) K104 rfl rfl rfl rfl (Opl.p1 (n := Opl.p1 (n := Opl.p1 (n := ?_)))))))))
  by_cases c13 : (l0_1.length : Int) = (l0_2.length : Int)
  case neg =>
   rw [if_neg c13] at H
   have e11 : ((l0_1.length : Int) != (l0_2.length : Int)) = true := by simpa using c13
   try rw [e11]
   refine Opl.sk4 rfl rfl rfl rfl (Opl.skp rfl (Opl.p1 (n := Opl.nil ?_)))
   exact hk1 _ _ ⟨_, _, _, H, ⟨rfl, rfl, (by first | rfl | (show PV.lit (.bool _) = _; congr 2; simp_all)), trivial⟩, h1⟩
  rw [if_pos c13] at H
  have e10 : ((l0_1.length : Int) != (l0_2.length : Int)) = false := by simpa using c13
  try rw [e10]
  refine Opl.p1 (v := .ptr i1 1) (n := Opl.ldb (v := v0_1) h1 rfl T27 rfl rfl rfl rfl (Opl.len (xs := l0_1) (by exact hv0_1) K27 rfl rfl rfl rfl (Opl.p1 (n := Opl.p1 (n := Opl.p1 (n := Opl.nil ?_))))))
  exact hk1 _ _ ⟨_, _, _, H, ⟨rfl, rfl, (by first | rfl | (show PV.lit (.bool _) = _; congr 2; simp_all)), trivial⟩, h1⟩
theorem spec_l2Var.ev {a0_0 : Int} {a0_1 : Int} {a0_2 : Int} {r : Bool} (H : spec_l2Var.f a0_0 a0_1 a0_2 = some r) : Ret Try.prog 94 [.agg [.lit (.int .i64 a0_0), .lit (.int .i64 a0_1), .lit (.int .i64 a0_2)]] fun v S => v = .lit (.bool r) := by
 unfold spec_l2Var.f at H
 refine Ret.intro Try.func94 rfl (Nat.le_of_ble_eq_true rfl) rfl ?_
 rw [tm1]
 refine Evr.sr rfl (Opl.box (cs := [.lit (.int .i64 a0_0), .lit (.int .i64 a0_1), .lit (.int .i64 a0_2)]) rfl rfl rfl rfl ?_)
 rintro i1 S h1 u1 w1
 refine Opl.p1 (n := Opl.nil (Evr.sr rfl (Opl.p1 (v := .ptr i1 0) (n := Opl.ldb (v := .lit (.int .i64 a0_0)) h1 rfl T3 rfl rfl rfl rfl ?_))))
 obtain ⟨t419, h_t419, H⟩ := obs H
 refine Opl.callc (spec_l1In.ev h_t419) rfl rfl rfl rfl ⟨(.lit _), (.lit _), (.lit _), trivial⟩ (by decide) (Opl.p1 (n := ?_))
 by_cases c1 : t419 = true
 case neg =>
  rw [if_neg c1] at H
  obtain rfl : t419 = false := by simpa using c1
  refine Opl.sk4 rfl rfl rfl rfl (Opl.skp rfl (Opl.p1 (n := Opl.p1 (n := Opl.sk4 rfl rfl rfl rfl (Opl.sk2 rfl rfl (Opl.p1 (n := Opl.p1 (n := Opl.sk4 rfl rfl rfl rfl (Opl.sk2 rfl rfl (Opl.skp rfl (Opl.p1 (n := Opl.p1 (n := Opl.nil ?_)))))))))))))
  obtain rfl := sinj H
  refine Evr.ret1 Try.func94 rfl ?_
  show (.lit (.bool false) : PV) = _
  first | rfl | (simp only [go_sem]; rfl)
 rw [if_pos c1] at H
 obtain rfl : t419 = true := by simpa using c1
 refine Opl.p1 (v := .ptr i1 1) (n := Opl.ldb (v := .lit (.int .i64 a0_1)) h1 rfl T3 rfl rfl rfl rfl (Opl.p1 (v := .ptr i1 0) (n := Opl.ldb (v := .lit (.int .i64 a0_0)) h1 rfl T3 rfl rfl rfl rfl ?_)))
 obtain ⟨t420, h_t420, H⟩ := obs H
 refine Opl.callc (spec_l1In.ev h_t420) rfl rfl rfl rfl ⟨(.lit _), (.lit _), (.lit _), trivial⟩ (by decide) (Opl.p1 (n := Opl.p1 (n := ?_)))
 by_cases c2 : t420 = true
 case neg =>
  rw [if_neg c2] at H
  obtain rfl : t420 = false := by simpa using c2
  refine Opl.sk4 rfl rfl rfl rfl (Opl.sk2 rfl rfl (Opl.p1 (n := Opl.p1 (n := Opl.sk4 rfl rfl rfl rfl (Opl.sk2 rfl rfl (Opl.skp rfl (Opl.p1 (n := Opl.p1 (n := Opl.nil ?_)))))))))
  obtain rfl := sinj H
  refine Evr.ret1 Try.func94 rfl ?_
  show (.lit (.bool false) : PV) = _
  first | rfl | (simp only [go_sem]; rfl)
 rw [if_pos c2] at H
 obtain rfl : t420 = true := by simpa using c2
 refine Opl.p1 (v := .ptr i1 1) (n := Opl.ldb (v := .lit (.int .i64 a0_1)) h1 rfl T3 rfl rfl rfl rfl (Opl.p1 (v := .ptr i1 0) (n := Opl.ldb (v := .lit (.int .i64 a0_0)) h1 rfl T3 rfl rfl rfl rfl (Opl.subi (k := .i64) (a := a0_1) (b := a0_0) K3 rfl rfl rfl rfl (Opl.lss (a := (wrap64 (a0_1 - a0_0))) (b := 20) K3 rfl rfl rfl rfl (Opl.p1 (n := Opl.one (v := .lit (.bool (decide ((wrap64 (a0_1 - a0_0)) < 20)))) rfl rfl rfl ?_)))))))
 by_cases c3 : (wrap64 (a0_1 - a0_0)) < 20
 case neg =>
  rw [if_neg c3] at H
  have e2 : (decide ((wrap64 (a0_1 - a0_0)) < 20)) = false := by simpa using c3
  try rw [e2]
  refine Opl.sk4 rfl rfl rfl rfl (Opl.sk2 rfl rfl (Opl.skp rfl (Opl.p1 (n := Opl.one (v := .lit (.bool false)) rfl rfl rfl (Opl.nil ?_)))))
  obtain rfl := sinj H
  refine Evr.ret1 Try.func94 rfl ?_
  show (.lit (.bool false) : PV) = _
  first | rfl | (simp only [go_sem]; rfl)
 rw [if_pos c3] at H
 have e1 : (decide ((wrap64 (a0_1 - a0_0)) < 20)) = true := by simpa using c3
 try rw [e1]
 refine Opl.p1 (v := .ptr i1 2) (n := Opl.ldb (v := .lit (.int .i64 a0_2)) h1 rfl T3 rfl rfl rfl rfl (Opl.p1 (v := .ptr i1 0) (n := Opl.ldb (v := .lit (.int .i64 a0_0)) h1 rfl T3 rfl rfl rfl rfl (Opl.p1 (v := .ptr i1 1) (n := Opl.ldb (v := .lit (.int .i64 a0_1)) h1 rfl T3 rfl rfl rfl rfl ?_)))))
 obtain ⟨t421, h_t421, H⟩ := obs H
 refine Opl.callc (spec_l1In.ev h_t421) rfl rfl rfl rfl ⟨(.lit _), (.lit _), (.lit _), trivial⟩ (by decide) (Opl.p1 (n := Opl.one (v := .lit (.bool t421)) rfl rfl rfl (Opl.nil ?_)))
 obtain rfl := sinj H
 refine Evr.ret1 Try.func94 rfl ?_
 show (.lit (.bool t421) : PV) = _
 first | rfl | (simp only [go_sem]; rfl)
theorem spec_SystemValid.ev {k : Nat} {l0_0 : List IVar} {v0_0 : PV} (hv0_0 : Sl cIVar l0_0 v0_0) {l0_1 : List IRule} {v0_1 : PV} (hv0_1 : Sl cIRule l0_1 v0_1) {r : Bool} (H : spec_SystemValid.f k l0_0 l0_1 = some r) : Ret Try.prog 27 [.agg [v0_0, v0_1]] fun v S => v = .lit (.bool r) := by
 unfold spec_SystemValid.f at H
 refine Ret.intro Try.func27 rfl (Nat.le_of_ble_eq_true rfl) rfl ?_
 rw [tm1]
 refine Evr.sr rfl (Opl.box (cs := [v0_0, v0_1]) rfl rfl rfl rfl ?_)
 rintro i1 S h1 u1 w1
 refine Opl.p1 (n := Opl.nil (Evr.seq (Evr.seq ?_)))
 refine Evr.join (fun tm S => ∃ (kq1 : Nat) (x16_1 : Bool) (i2 : Abs.Id), spec_SystemValid.j0 kq1 x16_1 l0_0 l0_1 = some r ∧ Has tm [(1, .ptr i2 0), (16, .lit (.bool x16_1))] ∧ Box (.ptr i2 0) [v0_0, v0_1] S) ?_ fun hk1 => ?_
 ·
  rintro tm S ⟨kq1, x16_1, i2, H, hh, h2⟩
  rw [hh.eq]
  obtain _ | k1 := kq1
  · simp [spec_SystemValid.j0] at H
  simp only [spec_SystemValid.j0] at H
  by_cases c1 : x16_1 = true
  case pos =>
   rw [if_pos c1] at H
   obtain rfl : x16_1 = true := by simpa using c1
   refine Evr.condT rfl (Evr.sr rfl (Opl.p1 (n := Opl.nil ?_)))
   obtain rfl := sinj H
   refine Evr.ret1 Try.func27 rfl ?_
   show (.lit (.bool false) : PV) = _
   first | rfl | (simp only [go_sem]; rfl)
  rw [if_neg c1] at H
  obtain rfl : x16_1 = false := by simpa using c1
  refine Evr.condF rfl (Evr.skip (Evr.sr rfl (Opl.p1 (n := Opl.nil (Evr.seq (Evr.sr rfl (Opl.p1 (n := Opl.nil (Evr.block ?_)))))))))
  refine Evr.loop (Evr.rounds (n := k1) (Inv := fun n tm S => n ≤ k1 ∧ ∃ (x3_1 : Int) (x4_1 : Int) (i3 : Abs.Id), spec_SystemValid.l0 n x3_1 x4_1 l0_0 l0_1 = some r ∧ Has tm [(1, .ptr i3 0), (3, .lit (.int .i64 x3_1)), (4, .lit (.int .i64 x4_1))] ∧ Box (.ptr i3 0) [v0_0, v0_1] S) ?_ ?_ ?_)
  · exact ⟨Nat.le_refl _, _, _, _, H, ⟨rfl, rfl, rfl, trivial⟩, h2⟩
  ·
   rintro tm S ⟨_, _, _, _, H, -⟩
   simp [spec_SystemValid.l0] at H
  ·
   rintro n1 ih1 tm S ⟨hle, x3_1, x4_1, i3, H, hh, h3⟩
   simp only [spec_SystemValid.l0] at H
   rw [hh.eq]
   refine Evr.seq (Evr.sr rfl (Opl.p1 (n := Opl.p1 (v := .ptr i3 0) (n := Opl.ldb (v := v0_0) h3 rfl T23 rfl rfl rfl rfl (Opl.len (xs := l0_0) (by exact hv0_0) K23 rfl rfl rfl rfl (Opl.p1 (n := Opl.nil ?_)))))))
   by_cases c2 : x4_1 < (l0_0.length : Int)
   case neg =>
    rw [if_neg c2] at H
    have e4 : (decide (x4_1 < (l0_0.length : Int))) = false := by simpa using c2
    try rw [e4]
    refine Evr.condF rfl (Evr.exit rfl (Evr.seq (Evr.sr rfl (Opl.p1 (n := Opl.nil (Evr.block ?_))))))
    refine Evr.loop (Evr.rounds (n := n1) (Inv := fun n tm S => n ≤ n1 ∧ ∃ (x5_1 : Int) (i4 : Abs.Id), spec_SystemValid.l1 n x3_1 x5_1 l0_0 l0_1 = some r ∧ Has tm [(1, .ptr i4 0), (3, .lit (.int .i64 x3_1)), (5, .lit (.int .i64 x5_1))] ∧ Box (.ptr i4 0) [v0_0, v0_1] S) ?_ ?_ ?_)
    · exact ⟨Nat.le_refl _, _, _, H, ⟨rfl, rfl, rfl, trivial⟩, h3⟩
    ·
     rintro tm S ⟨_, _, _, H, -⟩
     simp [spec_SystemValid.l1] at H
    ·
     rintro n2 ih2 tm S ⟨hle, x5_1, i4, H, hh, h7⟩
     simp only [spec_SystemValid.l1] at H
     rw [hh.eq]
     refine Evr.seq (Evr.sr rfl (Opl.p1 (n := Opl.p1 (v := .ptr i4 1) (n := Opl.ldb (v := v0_1) h7 rfl T24 rfl rfl rfl rfl (Opl.len (xs := l0_1) (by exact hv0_1) K24 rfl rfl rfl rfl (Opl.p1 (n := Opl.nil ?_)))))))
     by_cases c5 : x5_1 < (l0_1.length : Int)
     case neg =>
      rw [if_neg c5] at H
      have e8 : (decide (x5_1 < (l0_1.length : Int))) = false := by simpa using c5
      try rw [e8]
      refine Evr.condF rfl (Evr.exit rfl (Evr.sr rfl (Opl.p1 (n := Opl.p1 (n := Opl.p1 (n := Opl.nil ?_))))))
      obtain rfl := sinj H
      refine Evr.ret1 Try.func27 rfl ?_
      show (.lit (.bool (decide (x3_1 ≤ 400))) : PV) = _
      first | rfl | (simp only [go_sem]; rfl)
     rw [if_pos c5] at H
     have e5 : (decide (x5_1 < (l0_1.length : Int))) = true := by simpa using c5
     try rw [e5]
     refine Evr.condT rfl (Evr.skip (Evr.seq (Evr.block (Evr.seq (Evr.regionD rfl (by kernel_rfl) (Opl.p1 (v := .ptr i4 1) (n := Opl.ldb (v := v0_1) h7 rfl T24 rfl rfl rfl rfl (Opl.p1 (n := ?_)))))))))
     obtain ⟨c6, H⟩ := peel H
     refine Opl.idx (M := cIRule) (xs := l0_1) (j := x5_1) zIRule (by exact hv0_1) rfl (by omega) (by omega) K24 Z106 rfl rfl ?_
     rintro p4 q4 h8
     obtain ⟨pv1, pv2, pv3, rfl, h9, h10, h11⟩ := cIRule_R (x := (rd_IRule l0_1 x5_1)) h8
     refine Opl.lda (.agg [pv1, pv2, pv3]) rfl T106 rfl rfl rfl rfl (Opl.p1 (v := .ptr i4 0) (n := Opl.ldb (v := v0_0) h7 rfl T23 rfl rfl rfl rfl (Opl.len (xs := l0_0) (by exact hv0_0) K23 rfl rfl rfl rfl ?_)))
     obtain ⟨t443, h_t443, H⟩ := obs H
     refine Opl.callc (spec_l2Rule.ev h9 h10 h11 h_t443) rfl rfl rfl rfl ⟨(.aggL ⟨h9.plain, h10.plain, h11.plain, trivial⟩), (.lit _), trivial⟩ (by decide) (Opl.p1 (n := Opl.nil ?_))
     by_cases c7 : t443 = true
     case neg =>
      rw [if_neg c7] at H
      have e7 : (!t443) = true := by simpa using c7
      try rw [e7]
      refine Evr.condT rfl (Evr.sr rfl (Opl.p1 (n := Opl.nil ?_)))
      obtain rfl := sinj H
      refine Evr.ret1 Try.func27 rfl ?_
      show (.lit (.bool false) : PV) = _
      first | rfl | (simp only [go_sem]; rfl)
     rw [if_pos c7] at H
     have e6 : (!t443) = false := by simpa using c7
     try rw [e6]
     refine Evr.condF rfl (Evr.skip (Evr.inBlock (Evr.regionN rfl (Opl.p1 (n := Opl.add (k := .i64) (a := x5_1) (b := 1) K3 rfl rfl rfl rfl (Opl.one (v := .lit (.int .i64 (wrap64 (x5_1 + 1)))) rfl rfl rfl (Opl.nil ?_)))))))
     exact ih2 _ (by omega) _ _ ⟨by omega, _, _, H, ⟨rfl, rfl, rfl, trivial⟩, h7⟩
   rw [if_pos c2] at H
   have e1 : (decide (x4_1 < (l0_0.length : Int))) = true := by simpa using c2
   try rw [e1]
   refine Evr.condT rfl (Evr.skip (Evr.seq (Evr.block (Evr.seq (Evr.sr rfl (Opl.p1 (v := .ptr i3 0) (n := Opl.ldb (v := v0_0) h3 rfl T23 rfl rfl rfl rfl (Opl.p1 (n := ?_)))))))))
   obtain ⟨c3, H⟩ := peel H
   refine Opl.idx (M := cIVar) (xs := l0_0) (j := x4_1) zIVar (by exact hv0_0) rfl (by omega) (by omega) K23 Z101 rfl rfl ?_
   rintro p1 q1 h4
   obtain rfl := cIVar_R (x := (rd_IVar l0_0 x4_1)) h4
   refine Opl.lda (.agg [.lit (.int .i64 ((rd_IVar l0_0 x4_1).f0)), .lit (.int .i64 ((rd_IVar l0_0 x4_1).f1)), .lit (.int .i64 ((rd_IVar l0_0 x4_1).f2))]) rfl T101 rfl rfl rfl rfl ?_
   obtain ⟨t439, h_t439, H⟩ := obs H
   refine Opl.callc (spec_l2Var.ev h_t439) rfl rfl rfl rfl ⟨(.aggL ⟨(.lit _), (.lit _), (.lit _), trivial⟩), trivial⟩ (by decide) (Opl.p1 (n := Opl.nil ?_))
   by_cases c4 : t439 = true
   case neg =>
    rw [if_neg c4] at H
    have e3 : (!t439) = true := by simpa using c4
    try rw [e3]
    refine Evr.condT rfl (Evr.sr rfl (Opl.p1 (n := Opl.nil ?_)))
    obtain rfl := sinj H
    refine Evr.ret1 Try.func27 rfl ?_
    show (.lit (.bool false) : PV) = _
    first | rfl | (simp only [go_sem]; rfl)
   rw [if_pos c4] at H
   have e2 : (!t439) = false := by simpa using c4
   try rw [e2]
   refine Evr.condF rfl (Evr.skip (Evr.regionD rfl (by kernel_rfl) (Opl.p1 (n := Opl.p1 (v := .ptr i3 0) (n := Opl.ldb (v := v0_0) h3 rfl T23 rfl rfl rfl rfl (Opl.p1 (n := Opl.idx (M := cIVar) (xs := l0_0) (j := x4_1) zIVar (by exact hv0_0) rfl (by omega) (by omega) K23 Z101 rfl rfl ?_)))))))
   rintro p2 q2 h5
   obtain rfl := cIVar_R (x := (rd_IVar l0_0 x4_1)) h5
   refine Opl.p1 (v := .fel ((.lit (.int .i64 ((rd_IVar l0_0 x4_1).f1))) :: (.lit (.int .i64 ((rd_IVar l0_0 x4_1).f2))) :: q2)) (n := Opl.lda (.lit (.int .i64 ((rd_IVar l0_0 x4_1).f1))) rfl T3 rfl rfl rfl rfl (Opl.p1 (v := .ptr i3 0) (n := Opl.ldb (v := v0_0) h3 rfl T23 rfl rfl rfl rfl (Opl.p1 (n := Opl.idx (M := cIVar) (xs := l0_0) (j := x4_1) zIVar (by exact hv0_0) rfl (by omega) (by omega) K23 Z101 rfl rfl ?_)))))
   rintro p3 q3 h6
   obtain rfl := cIVar_R (x := (rd_IVar l0_0 x4_1)) h6
   refine Opl.p1 (v := .fel ((.lit (.int .i64 ((rd_IVar l0_0 x4_1).f0))) :: (.lit (.int .i64 ((rd_IVar l0_0 x4_1).f1))) :: (.lit (.int .i64 ((rd_IVar l0_0 x4_1).f2))) :: q3)) (n := Opl.lda (.lit (.int .i64 ((rd_IVar l0_0 x4_1).f0))) rfl T3 rfl rfl rfl rfl (Opl.subi (k := .i64) (a := ((rd_IVar l0_0 x4_1).f1)) (b := ((rd_IVar l0_0 x4_1).f0)) K3 rfl rfl rfl rfl (Opl.add (k := .i64) (a := (wrap64 (((rd_IVar l0_0 x4_1).f1) - ((rd_IVar l0_0 x4_1).f0)))) (b := 1) K3 rfl rfl rfl rfl (Opl.mul (k := .i64) (a := x3_1) (b := (wrap64 ((wrap64 (((rd_IVar l0_0 x4_1).f1) - ((rd_IVar l0_0 x4_1).f0))) + 1))) K3 rfl rfl rfl rfl (Opl.one (v := .lit (.int .i64 (wrap64 (x3_1 * (wrap64 ((wrap64 (((rd_IVar l0_0 x4_1).f1) - ((rd_IVar l0_0 x4_1).f0))) + 1)))))) rfl rfl rfl (Opl.nil (Evr.inBlock (Evr.regionN rfl (Opl.one (v := .lit (.int .i64 x4_1)) rfl rfl rfl (Opl.add (k := .i64) (a := x4_1) (b := 1) K3 rfl rfl rfl rfl (Opl.one (v := .lit (.int .i64 (wrap64 (x4_1 + 1)))) rfl rfl rfl (Opl.nil ?_))))))))))))
   exact ih1 _ (by omega) _ _ ⟨by omega, _, _, _, H, ⟨rfl, rfl, rfl, trivial⟩, h3⟩
 ·
  refine Evr.regionN rfl (Opl.p1 (v := .ptr i1 0) (n := Opl.ldb (v := v0_0) h1 rfl T23 rfl rfl rfl rfl (Opl.len (xs := l0_0) (by exact hv0_0) K23 rfl rfl rfl rfl ?_)))
  obtain ⟨t437, h_t437, H⟩ := obs H
  refine Opl.callc (spec_l1In.ev h_t437) rfl rfl rfl rfl ⟨(.lit _), (.lit _), (.lit _), trivial⟩ (by decide) (Opl.p1 (n := Opl.p1 (n := ?_)))
  by_cases c8 : t437 = true
  case neg =>
   rw [if_neg c8] at H
   have e10 : (!t437) = true := by simpa using c8
   try rw [e10]
   refine Opl.sk4 rfl rfl rfl rfl (Opl.p1 (n := Opl.nil ?_))
   exact hk1 _ _ ⟨_, _, _, H, ⟨rfl, (by first | rfl | (show PV.lit (.bool _) = _; congr 2; simp_all)), trivial⟩, h1⟩
  rw [if_pos c8] at H
  have e9 : (!t437) = false := by simpa using c8
  try rw [e9]
  refine Opl.p1 (v := .ptr i1 1) (n := Opl.ldb (v := v0_1) h1 rfl T24 rfl rfl rfl rfl (Opl.len (xs := l0_1) (by exact hv0_1) K24 rfl rfl rfl rfl (Opl.p1 (n := Opl.p1 (n := Opl.nil ?_)))))
  exact hk1 _ _ ⟨_, _, _, H, ⟨rfl, (by first | rfl | (show PV.lit (.bool _) = _; congr 2; simp_all)), trivial⟩, h1⟩
theorem spec_SizeOf.ev {k : Nat} {l0_0 : List IVar} {v0_0 : PV} (hv0_0 : Sl cIVar l0_0 v0_0) {l0_1 : List IRule} {v0_1 : PV} (hv0_1 : Sl cIRule l0_1 v0_1) {r : Int} (H : spec_SizeOf.f k l0_0 l0_1 = some r) : Ret Try.prog 55 [.agg [v0_0, v0_1]] fun v S => v = .lit (.int .i64 r) := by
 unfold spec_SizeOf.f at H
 refine Ret.intro Try.func55 rfl (Nat.le_of_ble_eq_true rfl) rfl ?_
 rw [tm1]
 refine Evr.sr rfl (Opl.box (cs := [v0_0, v0_1]) rfl rfl rfl rfl ?_)
 rintro i1 S h1 u1 w1
 refine Opl.p1 (n := Opl.nil (Evr.seq (Evr.sr rfl (Opl.ldb (v := .agg [v0_0, v0_1]) h1 rfl T26 rfl rfl rfl rfl ?_))))
 obtain ⟨t445, h_t445, H⟩ := obs H
 refine Opl.callc (spec_SystemValid.ev hv0_0 hv0_1 h_t445) rfl rfl rfl rfl ⟨(.aggL ⟨hv0_0.plain, hv0_1.plain, trivial⟩), trivial⟩ (by decide) (Opl.p1 (n := Opl.nil ?_))
 by_cases c1 : t445 = true
 case neg =>
  rw [if_neg c1] at H
  have e4 : (!t445) = true := by simpa using c1
  try rw [e4]
  refine Evr.condT rfl (Evr.sr rfl (Opl.p1 (n := Opl.nil ?_)))
  obtain rfl := sinj H
  refine Evr.ret1 Try.func55 rfl ?_
  show (.lit (.int .i64 0) : PV) = _
  first | rfl | (simp only [go_sem]; rfl)
 rw [if_pos c1] at H
 have e1 : (!t445) = false := by simpa using c1
 try rw [e1]
 refine Evr.condF rfl (Evr.skip (Evr.sr rfl (Opl.p1 (n := Opl.nil (Evr.seq (Evr.sr rfl (Opl.p1 (n := Opl.nil (Evr.block ?_)))))))))
 refine Evr.loop (Evr.rounds (n := k) (Inv := fun n tm S => n ≤ k ∧ ∃ (x3_1 : Int) (x4_1 : Int) (i2 : Abs.Id), spec_SizeOf.l0 n x3_1 x4_1 l0_0 l0_1 = some r ∧ Has tm [(1, .ptr i2 0), (3, .lit (.int .i64 x3_1)), (4, .lit (.int .i64 x4_1))] ∧ Box (.ptr i2 0) [v0_0, v0_1] S) ?_ ?_ ?_)
 · exact ⟨Nat.le_refl _, _, _, _, H, ⟨rfl, rfl, rfl, trivial⟩, h1⟩
 ·
  rintro tm S ⟨_, _, _, _, H, -⟩
  simp [spec_SizeOf.l0] at H
 ·
  rintro n1 ih1 tm S ⟨hle, x3_1, x4_1, i2, H, hh, h2⟩
  simp only [spec_SizeOf.l0] at H
  rw [hh.eq]
  refine Evr.seq (Evr.sr rfl (Opl.p1 (n := Opl.p1 (v := .ptr i2 0) (n := Opl.ldb (v := v0_0) h2 rfl T23 rfl rfl rfl rfl (Opl.len (xs := l0_0) (by exact hv0_0) K23 rfl rfl rfl rfl (Opl.p1 (n := Opl.nil ?_)))))))
  by_cases c2 : x4_1 < (l0_0.length : Int)
  case neg =>
   rw [if_neg c2] at H
   have e3 : (decide (x4_1 < (l0_0.length : Int))) = false := by simpa using c2
   try rw [e3]
   refine Evr.condF rfl (Evr.exit rfl (Evr.sr rfl (Opl.p1 (n := Opl.p1 (n := Opl.nil ?_)))))
   obtain rfl := sinj H
   refine Evr.ret1 Try.func55 rfl ?_
   show (.lit (.int .i64 x3_1) : PV) = _
   first | rfl | (simp only [go_sem]; rfl)
  rw [if_pos c2] at H
  have e2 : (decide (x4_1 < (l0_0.length : Int))) = true := by simpa using c2
  try rw [e2]
  refine Evr.condT rfl (Evr.skip (Evr.seq (Evr.block (Evr.regionD rfl (by kernel_rfl) (Opl.p1 (n := Opl.p1 (v := .ptr i2 0) (n := Opl.ldb (v := v0_0) h2 rfl T23 rfl rfl rfl rfl (Opl.p1 (n := ?_)))))))))
  obtain ⟨c3, H⟩ := peel H
  refine Opl.idx (M := cIVar) (xs := l0_0) (j := x4_1) zIVar (by exact hv0_0) rfl (by omega) (by omega) K23 Z101 rfl rfl ?_
  rintro p1 q1 h3
  obtain rfl := cIVar_R (x := (rd_IVar l0_0 x4_1)) h3
  refine Opl.p1 (v := .fel ((.lit (.int .i64 ((rd_IVar l0_0 x4_1).f1))) :: (.lit (.int .i64 ((rd_IVar l0_0 x4_1).f2))) :: q1)) (n := Opl.lda (.lit (.int .i64 ((rd_IVar l0_0 x4_1).f1))) rfl T3 rfl rfl rfl rfl (Opl.p1 (v := .ptr i2 0) (n := Opl.ldb (v := v0_0) h2 rfl T23 rfl rfl rfl rfl (Opl.p1 (n := Opl.idx (M := cIVar) (xs := l0_0) (j := x4_1) zIVar (by exact hv0_0) rfl (by omega) (by omega) K23 Z101 rfl rfl ?_)))))
  rintro p2 q2 h4
  obtain rfl := cIVar_R (x := (rd_IVar l0_0 x4_1)) h4
  refine Opl.p1 (v := .fel ((.lit (.int .i64 ((rd_IVar l0_0 x4_1).f0))) :: (.lit (.int .i64 ((rd_IVar l0_0 x4_1).f1))) :: (.lit (.int .i64 ((rd_IVar l0_0 x4_1).f2))) :: q2)) (n := Opl.lda (.lit (.int .i64 ((rd_IVar l0_0 x4_1).f0))) rfl T3 rfl rfl rfl rfl (Opl.subi (k := .i64) (a := ((rd_IVar l0_0 x4_1).f1)) (b := ((rd_IVar l0_0 x4_1).f0)) K3 rfl rfl rfl rfl (Opl.add (k := .i64) (a := (wrap64 (((rd_IVar l0_0 x4_1).f1) - ((rd_IVar l0_0 x4_1).f0)))) (b := 1) K3 rfl rfl rfl rfl (Opl.mul (k := .i64) (a := x3_1) (b := (wrap64 ((wrap64 (((rd_IVar l0_0 x4_1).f1) - ((rd_IVar l0_0 x4_1).f0))) + 1))) K3 rfl rfl rfl rfl (Opl.one (v := .lit (.int .i64 (wrap64 (x3_1 * (wrap64 ((wrap64 (((rd_IVar l0_0 x4_1).f1) - ((rd_IVar l0_0 x4_1).f0))) + 1)))))) rfl rfl rfl (Opl.nil (Evr.inBlock (Evr.regionN rfl (Opl.one (v := .lit (.int .i64 x4_1)) rfl rfl rfl (Opl.add (k := .i64) (a := x4_1) (b := 1) K3 rfl rfl rfl rfl (Opl.one (v := .lit (.int .i64 (wrap64 (x4_1 + 1)))) rfl rfl rfl (Opl.nil ?_))))))))))))
  exact ih1 _ (by omega) _ _ ⟨by omega, _, _, _, H, ⟨rfl, rfl, rfl, trivial⟩, h2⟩
theorem spec_SetValid.ev {k : Nat} {l0_0 : List IVar} {v0_0 : PV} (hv0_0 : Sl cIVar l0_0 v0_0) {l0_1 : List IRule} {v0_1 : PV} (hv0_1 : Sl cIRule l0_1 v0_1) {l1 : List Int} {v1 : PV} (hv1 : Sl (cInt .i64) l1 v1) {r : Bool} (H : spec_SetValid.f k l0_0 l0_1 l1 = some r) : Ret Try.prog 13 [.agg [v0_0, v0_1], v1] fun v S => v = .lit (.bool r) := by
 unfold spec_SetValid.f at H
 refine Ret.intro Try.func13 rfl (Nat.le_of_ble_eq_true rfl) rfl ?_
 rw [tm2]
 refine Evr.sr rfl (Opl.box (cs := [v0_0, v0_1]) rfl rfl rfl rfl ?_)
 rintro i1 S h1 u1 w1
 refine Opl.p1 (n := Opl.nil (Evr.sr rfl (Opl.ldb (v := .agg [v0_0, v0_1]) h1 rfl T26 rfl rfl rfl rfl ?_)))
 obtain ⟨t622, h_t622, H⟩ := obs H
 refine Opl.callc (spec_SizeOf.ev hv0_0 hv0_1 h_t622) rfl rfl rfl rfl ⟨(.aggL ⟨hv0_0.plain, hv0_1.plain, trivial⟩), trivial⟩ (by decide) (Opl.p1 (n := Opl.nil (Evr.seq (Evr.sr rfl (Opl.p1 (n := Opl.nil (Evr.block ?_)))))))
 refine Evr.loop (Evr.rounds (n := k) (Inv := fun n tm S => n ≤ k ∧ ∃ (x6_1 : Int), spec_SetValid.l0 n l1 t622 x6_1 = some r ∧ Has tm [(1, v1), (5, .lit (.int .i64 t622)), (6, .lit (.int .i64 x6_1))]) ?_ ?_ ?_)
 · exact ⟨Nat.le_refl _, _, H, ⟨rfl, rfl, rfl, trivial⟩⟩
 ·
  rintro tm S ⟨_, _, H, -⟩
  simp [spec_SetValid.l0] at H
 ·
  rintro n1 ih1 tm S ⟨hle, x6_1, H, hh⟩
  simp only [spec_SetValid.l0] at H
  rw [hh.eq]
  refine Evr.seq (Evr.sr rfl (Opl.p1 (n := Opl.p1 (n := Opl.len (xs := l1) (by exact hv1) K27 rfl rfl rfl rfl (Opl.p1 (n := Opl.nil ?_))))))
  by_cases c1 : x6_1 < (l1.length : Int)
  case neg =>
   rw [if_neg c1] at H
   have e8 : (decide (x6_1 < (l1.length : Int))) = false := by simpa using c1
   try rw [e8]
   refine Evr.condF rfl (Evr.exit rfl (Evr.sr rfl (Opl.p1 (n := Opl.p1 (n := Opl.p1 (n := Opl.nil ?_))))))
   obtain rfl := sinj H
   refine Evr.ret1 Try.func13 rfl ?_
   show (.lit (.bool (decide (t622 > 0))) : PV) = _
   first | rfl | (simp only [go_sem]; rfl)
  rw [if_pos c1] at H
  have e1 : (decide (x6_1 < (l1.length : Int))) = true := by simpa using c1
  try rw [e1]
  refine Evr.condT rfl (Evr.skip (Evr.seq (Evr.block (Evr.seq (Evr.regionD rfl (by kernel_rfl) (Opl.p1 (n := Opl.p1 (n := ?_))))))))
  obtain ⟨c2, H⟩ := peel H
  refine Opl.idx (M := (cInt .i64)) (xs := l1) (j := x6_1) (0 : Int) (by exact hv1) rfl (by omega) (by omega) K27 Z3 rfl rfl ?_
  rintro p1 q1 h2
  obtain rfl : p1 = [.lit (.int .i64 (rd l1 x6_1))] := h2
  refine Opl.lda (.lit (.int .i64 (rd l1 x6_1))) rfl T3 rfl rfl rfl rfl (Opl.p1 (n := Opl.subi (k := .i64) (a := t622) (b := 1) K3 rfl rfl rfl rfl ?_))
  obtain ⟨t624, h_t624, H⟩ := obs H
  refine Opl.callc (spec_l1In.ev h_t624) rfl rfl rfl rfl ⟨(.lit _), (.lit _), (.lit _), trivial⟩ (by decide) (Opl.p1 (n := Opl.one (v := .lit (.bool (!t624))) rfl rfl rfl ?_))
  by_cases c3 : t624 = true
  case neg =>
   rw [if_neg c3] at H
   have e7 : (!t624) = true := by simpa using c3
   try rw [e7]
   refine Opl.sk8 rfl rfl rfl rfl rfl rfl rfl rfl (Opl.sk4 rfl rfl rfl rfl (Opl.sk2 rfl rfl (Opl.p1 (n := Opl.nil (Evr.condT rfl (Evr.sr rfl (Opl.one (v := .lit (.bool false)) rfl rfl rfl (Opl.nil ?_))))))))
   obtain _ | k3 := n1
   · simp [spec_SetValid.j1] at H
   simp only [spec_SetValid.j1] at H
   rw [if_pos (by first | rfl | trivial)] at H
   obtain rfl := sinj H
   refine Evr.ret1 Try.func13 rfl ?_
   show (.lit (.bool false) : PV) = _
   first | rfl | (simp only [go_sem]; rfl)
  rw [if_pos c3] at H
  have e2 : (!t624) = false := by simpa using c3
  try rw [e2]
  refine Opl.one (v := .lit (.int .i64 x6_1)) rfl rfl rfl (Opl.p1 (n := Opl.one (v := .lit (.bool (decide (x6_1 > 0)))) rfl rfl rfl ?_))
  by_cases c4 : x6_1 > 0
  case neg =>
   rw [if_neg c4] at H
   have e6 : (decide (x6_1 > 0)) = false := by simpa using c4
   try rw [e6]
   refine Opl.sk8 rfl rfl rfl rfl rfl rfl rfl rfl (Opl.sk2 rfl rfl (Opl.p1 (n := Opl.p1 (n := Opl.nil (Evr.condF rfl (Evr.skip (Evr.inBlock (Evr.regionN rfl (Opl.one (v := .lit (.int .i64 x6_1)) rfl rfl rfl (Opl.add (k := .i64) (a := x6_1) (b := 1) K3 rfl rfl rfl rfl (Opl.one (v := .lit (.int .i64 (wrap64 (x6_1 + 1)))) rfl rfl rfl (Opl.nil ?_))))))))))))
   obtain _ | k2 := n1
   · simp [spec_SetValid.j1] at H
   simp only [spec_SetValid.j1] at H
   rw [if_neg (by first | decide | exact id)] at H
   exact ih1 _ (by omega) _ _ ⟨by omega, _, H, ⟨rfl, rfl, rfl, trivial⟩⟩
  rw [if_pos c4] at H
  have e3 : (decide (x6_1 > 0)) = true := by simpa using c4
  try rw [e3]
  refine Opl.one (v := v1) rfl rfl rfl (Opl.one (v := .lit (.int .i64 x6_1)) rfl rfl rfl ?_)
  obtain ⟨c5, H⟩ := peel H
  obtain ⟨c6, H⟩ := peel H
  obtain _ | k1 := n1
  · simp [spec_SetValid.j1] at H
  simp only [spec_SetValid.j1] at H
  refine Opl.idx (M := (cInt .i64)) (xs := l1) (j := x6_1) (0 : Int) (by exact hv1) rfl (by omega) (by omega) K27 Z3 rfl rfl ?_
  rintro p2 q2 h3
  obtain rfl : p2 = [.lit (.int .i64 (rd l1 x6_1))] := h3
  refine Opl.lda (.lit (.int .i64 (rd l1 x6_1))) rfl T3 rfl rfl rfl rfl (Opl.one (v := v1) rfl rfl rfl (Opl.one (v := .lit (.int .i64 x6_1)) rfl rfl rfl (Opl.subi (k := .i64) (a := x6_1) (b := 1) K3 rfl rfl rfl rfl (Opl.idx (M := (cInt .i64)) (xs := l1) (j := (wrap64 (x6_1 - 1))) (0 : Int) (by exact hv1) rfl (by omega) (by omega) K27 Z3 rfl rfl ?_))))
  rintro p3 q3 h4
  obtain rfl : p3 = [.lit (.int .i64 (rd l1 (wrap64 (x6_1 - 1))))] := h4
  refine Opl.lda (.lit (.int .i64 (rd l1 (wrap64 (x6_1 - 1))))) rfl T3 rfl rfl rfl rfl (Opl.leq (a := (rd l1 x6_1)) (b := (rd l1 (wrap64 (x6_1 - 1)))) K3 rfl rfl rfl rfl (Opl.p1 (n := Opl.p1 (n := Opl.nil ?_))))
  by_cases c7 : (decide ((rd l1 x6_1) ≤ (rd l1 (wrap64 (x6_1 - 1))))) = true
  case pos =>
   rw [if_pos c7] at H
   have e4 : (decide ((rd l1 x6_1) ≤ (rd l1 (wrap64 (x6_1 - 1))))) = true := by simpa using c7
   try rw [e4]
   refine Evr.condT rfl (Evr.sr rfl (Opl.one (v := .lit (.bool false)) rfl rfl rfl (Opl.nil ?_)))
   obtain rfl := sinj H
   refine Evr.ret1 Try.func13 rfl ?_
   show (.lit (.bool false) : PV) = _
   first | rfl | (simp only [go_sem]; rfl)
  rw [if_neg c7] at H
  have e5 : (decide ((rd l1 x6_1) ≤ (rd l1 (wrap64 (x6_1 - 1))))) = false := by simpa using c7
  try rw [e5]
  refine Evr.condF rfl (Evr.skip (Evr.inBlock (Evr.regionN rfl (Opl.one (v := .lit (.int .i64 x6_1)) rfl rfl rfl (Opl.add (k := .i64) (a := x6_1) (b := 1) K3 rfl rfl rfl rfl (Opl.one (v := .lit (.int .i64 (wrap64 (x6_1 + 1)))) rfl rfl rfl (Opl.nil ?_)))))))
  exact ih1 _ (by omega) _ _ ⟨by omega, _, H, ⟨rfl, rfl, rfl, trivial⟩⟩
theorem spec_SetEither.ev {k : Nat} {l0 : List Int} {v0 : PV} (hv0 : Sl (cInt .i64) l0 v0) {l1 : List Int} {v1 : PV} (hv1 : Sl (cInt .i64) l1 v1) {r : (List Int)} (H : spec_SetEither.f k l0 l1 = some r) : Ret Try.prog 145 [v0, v1] fun v S => Vec (cInt .i64) r v S := by
 unfold spec_SetEither.f at H
 refine Ret.intro Try.func145 rfl (Nat.le_of_ble_eq_true rfl) rfl ?_
 rw [tm2]
 refine Evr.sr rfl (Opl.p1 (n := Opl.nil (Evr.sr rfl (Opl.p1 (n := Opl.p1 (n := ?_))))))
 obtain ⟨r1, h_r1, H⟩ := obs H
 refine Opl.calla (spec_l4Mix.ev hv0 hv1 h_r1) rfl rfl rfl rfl ⟨hv0.plain, hv1.plain, (.lit _), trivial⟩ rfl ?_
 rintro pv1 S h1 u1 w1
 refine Opl.p1 (n := Opl.nil ?_)
 obtain rfl := sinj H
 refine Evr.ret1 Try.func145 rfl ?_
 show Vec _ _ pv1 _
 exact h1
theorem spec_l16Has.ev {k : Nat} {l0 : List Int} {v0 : PV} (hv0 : Sl (cInt .i64) l0 v0) {l1 : List Int} {v1 : PV} (hv1 : Sl (cInt .i64) l1 v1) {r : Bool} (H : spec_l16Has.f k l0 l1 = some r) : Ret Try.prog 137 [v0, v1] fun v S => v = .lit (.bool r) := by
 unfold spec_l16Has.f at H
 refine Ret.intro Try.func137 rfl (Nat.le_of_ble_eq_true rfl) rfl ?_
 rw [tm2]
 refine Evr.sr rfl (Opl.p1 (n := Opl.nil (Evr.seq (Evr.sr rfl (Opl.p1 (n := Opl.nil (Evr.block ?_)))))))
 refine Evr.loop (Evr.rounds (n := k) (Inv := fun n tm S => n ≤ k ∧ ∃ (x5_1 : Int), spec_l16Has.l0 n l0 l1 x5_1 = some r ∧ Has tm [(0, v0), (1, v1), (5, .lit (.int .i64 x5_1))]) ?_ ?_ ?_)
 · exact ⟨Nat.le_refl _, _, H, ⟨rfl, rfl, rfl, trivial⟩⟩
 ·
  rintro tm S ⟨_, _, H, -⟩
  simp [spec_l16Has.l0] at H
 ·
  rintro n1 ih1 tm S ⟨hle, x5_1, H, hh⟩
  simp only [spec_l16Has.l0] at H
  rw [hh.eq]
  refine Evr.seq (Evr.sr rfl (Opl.p1 (n := Opl.p1 (n := Opl.len (xs := l0) (by exact hv0) K27 rfl rfl rfl rfl (Opl.p1 (n := Opl.nil ?_))))))
  by_cases c1 : x5_1 < (l0.length : Int)
  case neg =>
   rw [if_neg c1] at H
   have e6 : (decide (x5_1 < (l0.length : Int))) = false := by simpa using c1
   try rw [e6]
   refine Evr.condF rfl (Evr.exit rfl (Evr.sr rfl (Opl.p1 (n := Opl.nil ?_))))
   obtain rfl := sinj H
   refine Evr.ret1 Try.func137 rfl ?_
   show (.lit (.bool true) : PV) = _
   first | rfl | (simp only [go_sem]; rfl)
  rw [if_pos c1] at H
  have e1 : (decide (x5_1 < (l0.length : Int))) = true := by simpa using c1
  try rw [e1]
  refine Evr.condT rfl (Evr.skip (Evr.seq (Evr.block (Evr.seq (Evr.regionD rfl (by kernel_rfl) (Opl.p1 (n := Opl.p1 (n := ?_))))))))
  obtain ⟨c2, H⟩ := peel H
  refine Opl.idx (M := (cInt .i64)) (xs := l0) (j := x5_1) (0 : Int) (by exact hv0) rfl (by omega) (by omega) K27 Z3 rfl rfl ?_
  rintro p1 q1 h1
  obtain rfl : p1 = [.lit (.int .i64 (rd l0 x5_1))] := h1
  refine Opl.lda (.lit (.int .i64 (rd l0 x5_1))) rfl T3 rfl rfl rfl rfl (Opl.p1 (n := Opl.p1 (n := ?_)))
  by_cases c3 : (rd l0 x5_1) = 2
  case pos =>
   rw [if_pos c3] at H
   have e2 : ((rd l0 x5_1) != 2) = false := by simpa using c3
   try rw [e2]
   refine Opl.sk8 rfl rfl rfl rfl rfl rfl rfl rfl (Opl.skp rfl (Opl.p1 (n := Opl.nil (Evr.condF rfl (Evr.skip (Evr.inBlock (Evr.regionN rfl (Opl.p1 (n := Opl.add (k := .i64) (a := x5_1) (b := 1) K3 rfl rfl rfl rfl (Opl.one (v := .lit (.int .i64 (wrap64 (x5_1 + 1)))) rfl rfl rfl (Opl.nil ?_)))))))))))
   exact ih1 _ (by omega) _ _ ⟨by omega, _, H, ⟨rfl, rfl, rfl, trivial⟩⟩
  rw [if_neg c3] at H
  have e3 : ((rd l0 x5_1) != 2) = true := by simpa using c3
  try rw [e3]
  refine Opl.p1 (n := Opl.p1 (n := ?_))
  obtain ⟨c4, H⟩ := peel H
  refine Opl.idx (M := (cInt .i64)) (xs := l0) (j := x5_1) (0 : Int) (by exact hv0) rfl (by omega) (by omega) K27 Z3 rfl rfl ?_
  rintro p2 q2 h2
  obtain rfl : p2 = [.lit (.int .i64 (rd l0 x5_1))] := h2
  refine Opl.lda (.lit (.int .i64 (rd l0 x5_1))) rfl T3 rfl rfl rfl rfl (Opl.p1 (n := Opl.p1 (n := Opl.idx (M := (cInt .i64)) (xs := l1) (j := x5_1) (0 : Int) (by exact hv1) rfl (by omega) (by omega) K27 Z3 rfl rfl ?_)))
  rintro p3 q3 h3
  obtain rfl : p3 = [.lit (.int .i64 (rd l1 x5_1))] := h3
  refine Opl.lda (.lit (.int .i64 (rd l1 x5_1))) rfl T3 rfl rfl rfl rfl (Opl.p1 (n := Opl.p1 (n := Opl.nil ?_)))
  by_cases c5 : (rd l0 x5_1) = (rd l1 x5_1)
  case neg =>
   rw [if_neg c5] at H
   have e5 : ((rd l0 x5_1) != (rd l1 x5_1)) = true := by simpa using c5
   try rw [e5]
   refine Evr.condT rfl (Evr.sr rfl (Opl.p1 (n := Opl.nil ?_)))
   obtain rfl := sinj H
   refine Evr.ret1 Try.func137 rfl ?_
   show (.lit (.bool false) : PV) = _
   first | rfl | (simp only [go_sem]; rfl)
  rw [if_pos c5] at H
  have e4 : ((rd l0 x5_1) != (rd l1 x5_1)) = false := by simpa using c5
  try rw [e4]
  refine Evr.condF rfl (Evr.skip (Evr.inBlock (Evr.regionN rfl (Opl.p1 (n := Opl.add (k := .i64) (a := x5_1) (b := 1) K3 rfl rfl rfl rfl (Opl.one (v := .lit (.int .i64 (wrap64 (x5_1 + 1)))) rfl rfl rfl (Opl.nil ?_)))))))
  exact ih1 _ (by omega) _ _ ⟨by omega, _, H, ⟨rfl, rfl, rfl, trivial⟩⟩
theorem spec_FirstState.ev {k : Nat} {l0_0 : List IVar} {v0_0 : PV} (hv0_0 : Sl cIVar l0_0 v0_0) {l0_1 : List IRule} {v0_1 : PV} (hv0_1 : Sl cIRule l0_1 v0_1) {r : (List Int)} (H : spec_FirstState.f k l0_0 l0_1 = some r) : Ret Try.prog 96 [.agg [v0_0, v0_1]] fun v S => Vec (cInt .i64) r v S := by
 unfold spec_FirstState.f at H
 refine Ret.intro Try.func96 rfl (Nat.le_of_ble_eq_true rfl) rfl ?_
 rw [tm1]
 refine Evr.sr rfl (Opl.box (cs := [v0_0, v0_1]) rfl rfl rfl rfl ?_)
 rintro i1 S h1 u1 w1
 refine Opl.p1 (n := Opl.nil (Evr.sr rfl (Opl.lits (M := (cInt .i64)) (ys := []) [] K27 T3 rfl rfl rfl trivial rfl (by decide) rfl rfl rfl ?_)))
 rintro pv1 S h2 u2 w2
 have ap1 := w2.box h1
 have h3 := u2.box h1 ap1
 refine Opl.p1 (n := Opl.nil (Evr.seq (Evr.sr rfl (Opl.p1 (n := Opl.nil (Evr.block ?_))))))
 refine Evr.loop (Evr.rounds (n := k) (Inv := fun n tm S => n ≤ k ∧ ∃ (x3_1 : List Int) (x4_1 : Int) (i2 : Abs.Id) (pv2 : PV), spec_FirstState.l0 n x3_1 x4_1 l0_0 l0_1 = some r ∧ Has tm [(1, .ptr i2 0), (3, pv2), (4, .lit (.int .i64 x4_1))] ∧ Box (.ptr i2 0) [v0_0, v0_1] S ∧ Vec (cInt .i64) x3_1 pv2 S ∧ Ap (.ptr i2 0) pv2) ?_ ?_ ?_)
 · exact ⟨Nat.le_refl _, _, _, _, _, H, ⟨rfl, rfl, rfl, trivial⟩, h3, h2, ap1⟩
 ·
  rintro tm S ⟨_, _, _, _, _, H, -⟩
  simp [spec_FirstState.l0] at H
 ·
  rintro n1 ih1 tm S ⟨hle, x3_1, x4_1, i2, pv2, H, hh, h4, h5, ap2⟩
  simp only [spec_FirstState.l0] at H
  rw [hh.eq]
  refine Evr.seq (Evr.sr rfl (Opl.p1 (n := Opl.p1 (v := .ptr i2 0) (n := Opl.ldb (v := v0_0) h4 rfl T23 rfl rfl rfl rfl (Opl.len (xs := l0_0) (by exact hv0_0) K23 rfl rfl rfl rfl (Opl.p1 (n := Opl.p1 (n := ?_))))))))
  by_cases c1 : x4_1 < (l0_0.length : Int)
  case neg =>
   rw [if_neg c1] at H
   have e2 : (decide (x4_1 < (l0_0.length : Int))) = false := by simpa using c1
   try rw [e2]
   refine Opl.sk2 rfl rfl (Opl.p1 (n := Opl.nil (Evr.condF rfl (Evr.exit rfl (Evr.sr rfl (Opl.p1 (n := Opl.p1 (n := Opl.nil ?_))))))))
   obtain rfl := sinj H
   refine Evr.ret1 Try.func96 rfl ?_
   show Vec _ _ pv2 _
   exact h5
  rw [if_pos c1] at H
  have e1 : (decide (x4_1 < (l0_0.length : Int))) = true := by simpa using c1
  try rw [e1]
  refine Opl.ldb (v := .agg [v0_0, v0_1]) h4 rfl T26 rfl rfl rfl rfl ?_
  obtain ⟨t717, h_t717, H⟩ := obs H
  refine Opl.callc (spec_SystemValid.ev hv0_0 hv0_1 h_t717) rfl rfl rfl rfl ⟨(.aggL ⟨hv0_0.plain, hv0_1.plain, trivial⟩), trivial⟩ (by decide) (Opl.p1 (n := Opl.nil ?_))
  by_cases c2 : t717 = true
  case neg =>
   rw [if_neg c2] at H
   obtain rfl : t717 = false := by simpa using c2
   refine Evr.condF rfl (Evr.exit rfl (Evr.sr rfl (Opl.p1 (n := Opl.p1 (n := Opl.nil ?_)))))
   obtain rfl := sinj H
   refine Evr.ret1 Try.func96 rfl ?_
   show Vec _ _ pv2 _
   exact h5
  rw [if_pos c2] at H
  obtain rfl : t717 = true := by simpa using c2
  refine Evr.condT rfl (Evr.skip (Evr.seq (Evr.block (Evr.regionN rfl (Opl.p1 (n := Opl.p1 (v := .ptr i2 0) (n := Opl.ldb (v := v0_0) h4 rfl T23 rfl rfl rfl rfl (Opl.p1 (n := ?_)))))))))
  obtain ⟨c3, H⟩ := peel H
  obtain ⟨c4, H⟩ := peel H
  refine Opl.idx (M := cIVar) (xs := l0_0) (j := x4_1) zIVar (by exact hv0_0) rfl (by omega) (by omega) K23 Z101 rfl rfl ?_
  rintro p1 q1 h6
  obtain rfl := cIVar_R (x := (rd_IVar l0_0 x4_1)) h6
  refine Opl.p1 (v := .fel ((.lit (.int .i64 ((rd_IVar l0_0 x4_1).f2))) :: q1)) (n := Opl.lda (.lit (.int .i64 ((rd_IVar l0_0 x4_1).f2))) rfl T3 rfl rfl rfl rfl (Opl.lits (M := (cInt .i64)) (ys := [((rd_IVar l0_0 x4_1).f2)]) [.tmp 23] K27 T3 rfl rfl rfl (by exact ⟨rfl, trivial⟩) rfl (by decide) rfl rfl rfl ?_))
  rintro pv3 S h7 u3 w3
  have ap3 := w3.box h4
  have h8 := u3.box h4 ap3
  have ap4 := w3.vec h5
  have h9 := u3.vec h5 ap4
  refine Opl.app (M := (cInt .i64)) (xs := x3_1) (ys := [((rd_IVar l0_0 x4_1).f2)]) (v := pv2) h9 (.vec h7) (oInt .i64) rfl rfl K27 T3 rfl rfl (by (try simp only [List.length_cons, List.length_nil]); omega) (by show (_ + _) * 8 ≤ 140737488355328; (try simp only [List.length_cons, List.length_nil]); omega) rfl rfl rfl rfl rfl ?_
  rintro pv4 S h10 u4 w4
  have ap5 := w4.box h8
  have h11 := u4.box h8 ap2
  have ap6 := w4.vec h7
  have h12 := u4.vec h7 ap4.symm
  refine Opl.p1 (n := Opl.nil (Evr.inBlock (Evr.regionN rfl (Opl.p1 (n := Opl.add (k := .i64) (a := x4_1) (b := 1) K3 rfl rfl rfl rfl (Opl.one (v := .lit (.int .i64 (wrap64 (x4_1 + 1)))) rfl rfl rfl (Opl.nil ?_)))))))
  exact ih1 _ (by omega) _ _ ⟨by omega, _, _, _, _, H, ⟨rfl, rfl, rfl, trivial⟩, h11, h10, ap5⟩
theorem spec_l3Copy.ev {k : Nat} {l0 : List Int} {v0 : PV} (hv0 : Sl (cInt .i64) l0 v0) {r : (List Int)} (H : spec_l3Copy.f k l0 = some r) : Ret Try.prog 56 [v0] fun v S => Vec (cInt .i64) r v S := by
 unfold spec_l3Copy.f at H
 refine Ret.intro Try.func56 rfl (Nat.le_of_ble_eq_true rfl) rfl ?_
 rw [tm1]
 refine Evr.sr rfl (Opl.p1 (n := Opl.nil (Evr.sr rfl (Opl.lits (M := (cInt .i64)) (ys := []) [] K27 T3 rfl rfl rfl trivial rfl (by decide) rfl rfl rfl ?_))))
 rintro pv1 S h1 u1 w1
 refine Opl.p1 (n := Opl.nil (Evr.seq (Evr.sr rfl (Opl.p1 (n := Opl.nil (Evr.block ?_))))))
 refine Evr.loop (Evr.rounds (n := k) (Inv := fun n tm S => n ≤ k ∧ ∃ (x3_1 : List Int) (x4_1 : Int) (pv2 : PV), spec_l3Copy.l0 n l0 x3_1 x4_1 = some r ∧ Has tm [(0, v0), (3, pv2), (4, .lit (.int .i64 x4_1))] ∧ Vec (cInt .i64) x3_1 pv2 S) ?_ ?_ ?_)
 · exact ⟨Nat.le_refl _, _, _, _, H, ⟨rfl, rfl, rfl, trivial⟩, h1⟩
 ·
  rintro tm S ⟨_, _, _, _, H, -⟩
  simp [spec_l3Copy.l0] at H
 ·
  rintro n1 ih1 tm S ⟨hle, x3_1, x4_1, pv2, H, hh, h2⟩
  simp only [spec_l3Copy.l0] at H
  rw [hh.eq]
  refine Evr.seq (Evr.sr rfl (Opl.p1 (n := Opl.p1 (n := Opl.len (xs := l0) (by exact hv0) K27 rfl rfl rfl rfl (Opl.p1 (n := Opl.nil ?_))))))
  by_cases c1 : x4_1 < (l0.length : Int)
  case neg =>
   rw [if_neg c1] at H
   have e2 : (decide (x4_1 < (l0.length : Int))) = false := by simpa using c1
   try rw [e2]
   refine Evr.condF rfl (Evr.exit rfl (Evr.sr rfl (Opl.p1 (n := Opl.p1 (n := Opl.nil ?_)))))
   obtain rfl := sinj H
   refine Evr.ret1 Try.func56 rfl ?_
   show Vec _ _ pv2 _
   exact h2
  rw [if_pos c1] at H
  have e1 : (decide (x4_1 < (l0.length : Int))) = true := by simpa using c1
  try rw [e1]
  refine Evr.condT rfl (Evr.skip (Evr.seq (Evr.block (Evr.regionN rfl (Opl.p1 (n := Opl.p1 (n := Opl.p1 (n := ?_))))))))
  obtain ⟨c2, H⟩ := peel H
  obtain ⟨c3, H⟩ := peel H
  refine Opl.idx (M := (cInt .i64)) (xs := l0) (j := x4_1) (0 : Int) (by exact hv0) rfl (by omega) (by omega) K27 Z3 rfl rfl ?_
  rintro p1 q1 h3
  obtain rfl : p1 = [.lit (.int .i64 (rd l0 x4_1))] := h3
  refine Opl.lda (.lit (.int .i64 (rd l0 x4_1))) rfl T3 rfl rfl rfl rfl (Opl.lits (M := (cInt .i64)) (ys := [(rd l0 x4_1)]) [.tmp 16] K27 T3 rfl rfl rfl (by exact ⟨rfl, trivial⟩) rfl (by decide) rfl rfl rfl ?_)
  rintro pv3 S h4 u2 w2
  have ap1 := w2.vec h2
  have h5 := u2.vec h2 ap1
  refine Opl.app (M := (cInt .i64)) (xs := x3_1) (ys := [(rd l0 x4_1)]) (v := pv2) h5 (.vec h4) (oInt .i64) rfl rfl K27 T3 rfl rfl (by (try simp only [List.length_cons, List.length_nil]); omega) (by show (_ + _) * 8 ≤ 140737488355328; (try simp only [List.length_cons, List.length_nil]); omega) rfl rfl rfl rfl rfl ?_
  rintro pv4 S h6 u3 w3
  have ap2 := w3.vec h4
  have h7 := u3.vec h4 ap1.symm
  refine Opl.p1 (n := Opl.nil (Evr.inBlock (Evr.regionN rfl (Opl.p1 (n := Opl.add (k := .i64) (a := x4_1) (b := 1) K3 rfl rfl rfl rfl (Opl.one (v := .lit (.int .i64 (wrap64 (x4_1 + 1)))) rfl rfl rfl (Opl.nil ?_)))))))
  exact ih1 _ (by omega) _ _ ⟨by omega, _, _, _, H, ⟨rfl, rfl, rfl, trivial⟩, h6⟩
theorem spec_l4State.ev {k : Nat} {l0_0 : List IVar} {v0_0 : PV} (hv0_0 : Sl cIVar l0_0 v0_0) {l0_1 : List IRule} {v0_1 : PV} (hv0_1 : Sl cIRule l0_1 v0_1) {a1 : Int} {r : (List Int)} (H : spec_l4State.f k l0_0 l0_1 a1 = some r) : Ret Try.prog 59 [.agg [v0_0, v0_1], .lit (.int .i64 a1)] fun v S => Vec (cInt .i64) r v S := by
 unfold spec_l4State.f at H
 refine Ret.intro Try.func59 rfl (Nat.le_of_ble_eq_true rfl) rfl ?_
 rw [tm2]
 refine Evr.sr rfl (Opl.box (cs := [v0_0, v0_1]) rfl rfl rfl rfl ?_)
 rintro i1 S h1 u1 w1
 refine Opl.p1 (n := Opl.nil (Evr.sr rfl (Opl.ldb (v := .agg [v0_0, v0_1]) h1 rfl T26 rfl rfl rfl rfl ?_)))
 obtain ⟨t723, h_t723, H⟩ := obs H
 refine Opl.call ((spec_FirstState.ev hv0_0 hv0_1 h_t723).mono fun _ _ h => Out.vec h) rfl rfl rfl rfl ⟨(.aggL ⟨hv0_0.plain, hv0_1.plain, trivial⟩), trivial⟩ (by decide) ?_
 rintro pv1 h2
 obtain ⟨t726, h_t726, H⟩ := obs H
 refine Opl.calla (spec_l3Copy.ev h2 h_t726) rfl rfl rfl rfl ⟨h2.plain, trivial⟩ rfl ?_
 rintro pv2 S h3 u2 w2
 have ap1 := w2.box h1
 have h4 := u2.box h1 ap1
 refine Opl.p1 (n := Opl.nil (Evr.seq (Evr.sr rfl (Opl.p1 (v := .ptr i1 0) (n := Opl.ldb (v := v0_0) h4 rfl T23 rfl rfl rfl rfl (Opl.len (xs := l0_0) (by exact hv0_0) K23 rfl rfl rfl rfl (Opl.subi (k := .i64) (a := (l0_0.length : Int)) (b := 1) K3 rfl rfl rfl rfl (Opl.one (v := .lit (.int .i64 (wrap64 ((l0_0.length : Int) - 1)))) rfl rfl rfl (Opl.nil (Evr.block ?_))))))))))
 refine Evr.loop (Evr.rounds (n := k) (Inv := fun n tm S => n ≤ k ∧ ∃ (x1_1 : Int) (x5_1 : List Int) (x6_1 : Int) (i2 : Abs.Id) (pv3 : PV), spec_l4State.l0 n x1_1 x5_1 x6_1 l0_0 l0_1 = some r ∧ Has tm [(1, .lit (.int .i64 x1_1)), (2, .ptr i2 0), (5, pv3), (6, .lit (.int .i64 x6_1))] ∧ Box (.ptr i2 0) [v0_0, v0_1] S ∧ Vec (cInt .i64) x5_1 pv3 S ∧ Ap (.ptr i2 0) pv3) ?_ ?_ ?_)
 · exact ⟨Nat.le_refl _, _, _, _, _, _, H, ⟨rfl, rfl, rfl, rfl, trivial⟩, h4, h3, ap1⟩
 ·
  rintro tm S ⟨_, _, _, _, _, _, H, -⟩
  simp [spec_l4State.l0] at H
 ·
  rintro n1 ih1 tm S ⟨hle, x1_1, x5_1, x6_1, i2, pv3, H, hh, h5, h6, ap2⟩
  simp only [spec_l4State.l0] at H
  rw [hh.eq]
  refine Evr.seq (Evr.sr rfl (Opl.p1 (n := Opl.p1 (n := Opl.nil ?_))))
  by_cases c1 : x6_1 ≥ 0
  case neg =>
   rw [if_neg c1] at H
   have e2 : (decide (x6_1 ≥ 0)) = false := by simpa using c1
   try rw [e2]
   refine Evr.condF rfl (Evr.exit rfl (Evr.sr rfl (Opl.p1 (n := Opl.p1 (n := Opl.nil ?_)))))
   obtain rfl := sinj H
   refine Evr.ret1 Try.func59 rfl ?_
   show Vec _ _ pv3 _
   exact h6
  rw [if_pos c1] at H
  have e1 : (decide (x6_1 ≥ 0)) = true := by simpa using c1
  try rw [e1]
  refine Evr.condT rfl (Evr.skip (Evr.seq (Evr.block (Evr.seq (Evr.regionD rfl (by kernel_rfl) (Opl.p1 (v := .ptr i2 0) (n := Opl.ldb (v := v0_0) h5 rfl T23 rfl rfl rfl rfl (Opl.p1 (n := ?_)))))))))
  obtain ⟨c2, H⟩ := peel H
  obtain ⟨c3, H⟩ := peel H
  obtain ⟨c4, H⟩ := peelN H
  obtain ⟨c5, H⟩ := peel H
  refine Opl.idx (M := cIVar) (xs := l0_0) (j := x6_1) zIVar (by exact hv0_0) rfl (by omega) (by omega) K23 Z101 rfl rfl ?_
  rintro p1 q1 h7
  obtain rfl := cIVar_R (x := (rd_IVar l0_0 x6_1)) h7
  refine Opl.p1 (v := .fel ((.lit (.int .i64 ((rd_IVar l0_0 x6_1).f1))) :: (.lit (.int .i64 ((rd_IVar l0_0 x6_1).f2))) :: q1)) (n := Opl.lda (.lit (.int .i64 ((rd_IVar l0_0 x6_1).f1))) rfl T3 rfl rfl rfl rfl (Opl.p1 (v := .ptr i2 0) (n := Opl.ldb (v := v0_0) h5 rfl T23 rfl rfl rfl rfl (Opl.p1 (n := Opl.idx (M := cIVar) (xs := l0_0) (j := x6_1) zIVar (by exact hv0_0) rfl (by omega) (by omega) K23 Z101 rfl rfl ?_)))))
  rintro p2 q2 h8
  obtain rfl := cIVar_R (x := (rd_IVar l0_0 x6_1)) h8
  refine Opl.p1 (v := .fel ((.lit (.int .i64 ((rd_IVar l0_0 x6_1).f0))) :: (.lit (.int .i64 ((rd_IVar l0_0 x6_1).f1))) :: (.lit (.int .i64 ((rd_IVar l0_0 x6_1).f2))) :: q2)) (n := Opl.lda (.lit (.int .i64 ((rd_IVar l0_0 x6_1).f0))) rfl T3 rfl rfl rfl rfl (Opl.subi (k := .i64) (a := ((rd_IVar l0_0 x6_1).f1)) (b := ((rd_IVar l0_0 x6_1).f0)) K3 rfl rfl rfl rfl (Opl.add (k := .i64) (a := (wrap64 (((rd_IVar l0_0 x6_1).f1) - ((rd_IVar l0_0 x6_1).f0)))) (b := 1) K3 rfl rfl rfl rfl (Opl.one (v := .lit (.int .i64 (wrap64 ((wrap64 (((rd_IVar l0_0 x6_1).f1) - ((rd_IVar l0_0 x6_1).f0))) + 1)))) rfl rfl rfl (Opl.nil (Evr.seq (Evr.regionD rfl (by kernel_rfl) (Opl.one (v := pv3) rfl rfl rfl (Opl.one (v := .lit (.int .i64 x6_1)) rfl rfl rfl (Opl.p1 (v := .ptr i2 0) (n := Opl.ldb (v := v0_0) h5 rfl T23 rfl rfl rfl rfl (Opl.one (v := .lit (.int .i64 x6_1)) rfl rfl rfl (Opl.idx (M := cIVar) (xs := l0_0) (j := x6_1) zIVar (by exact hv0_0) rfl (by omega) (by omega) K23 Z101 rfl rfl ?_)))))))))))))
  rintro p3 q3 h9
  obtain rfl := cIVar_R (x := (rd_IVar l0_0 x6_1)) h9
  refine Opl.p1 (v := .fel ((.lit (.int .i64 ((rd_IVar l0_0 x6_1).f0))) :: (.lit (.int .i64 ((rd_IVar l0_0 x6_1).f1))) :: (.lit (.int .i64 ((rd_IVar l0_0 x6_1).f2))) :: q3)) (n := Opl.lda (.lit (.int .i64 ((rd_IVar l0_0 x6_1).f0))) rfl T3 rfl rfl rfl rfl (Opl.one (v := .lit (.int .i64 x1_1)) rfl rfl rfl (Opl.one (v := .lit (.int .i64 (wrap64 ((wrap64 (((rd_IVar l0_0 x6_1).f1) - ((rd_IVar l0_0 x6_1).f0))) + 1)))) rfl rfl rfl (Opl.one (v := .lit (.int .i64 (Int.tmod x1_1 (wrap64 ((wrap64 (((rd_IVar l0_0 x6_1).f1) - ((rd_IVar l0_0 x6_1).f0))) + 1))))) rfl rfl (by simp only [go_sem]; rw [if_neg (by first | assumption | decide | omega)]; rfl) (Opl.add (k := .i64) (a := ((rd_IVar l0_0 x6_1).f0)) (b := (Int.tmod x1_1 (wrap64 ((wrap64 (((rd_IVar l0_0 x6_1).f1) - ((rd_IVar l0_0 x6_1).f0))) + 1)))) K3 rfl rfl rfl rfl (Opl.idv (M := (cInt .i64)) (xs := x5_1) (j := x6_1) (v := pv3) h6 rfl rfl (by omega) (by omega) K27 Z3 rfl rfl ?_))))))
  rintro d1 z1 q4 h10 h11
  refine Opl.stv (M := (cInt .i64)) (xs := x5_1) (j := x6_1) (y := (wrap64 (((rd_IVar l0_0 x6_1).f0) + (Int.tmod x1_1 (wrap64 ((wrap64 (((rd_IVar l0_0 x6_1).f1) - ((rd_IVar l0_0 x6_1).f0))) + 1)))))) (vs := [.lit (.int .i64 (wrap64 (((rd_IVar l0_0 x6_1).f0) + (Int.tmod x1_1 (wrap64 ((wrap64 (((rd_IVar l0_0 x6_1).f1) - ((rd_IVar l0_0 x6_1).f0))) + 1))))))]) h10 h11 (by omega) (by omega) rfl rfl (by exact rfl) Z3 rfl rfl rfl rfl ?_
  rw [← q4]
  rintro S h12 u3
  have h13 := u3.box h5 ap2
  refine Opl.nil (Evr.regionN rfl (Opl.one (v := .lit (.int .i64 x1_1)) rfl rfl rfl (Opl.one (v := .lit (.int .i64 (wrap64 ((wrap64 (((rd_IVar l0_0 x6_1).f1) - ((rd_IVar l0_0 x6_1).f0))) + 1)))) rfl rfl rfl (Opl.one (v := .lit (.int .i64 (wrap64 (Int.tdiv x1_1 (wrap64 ((wrap64 (((rd_IVar l0_0 x6_1).f1) - ((rd_IVar l0_0 x6_1).f0))) + 1)))))) rfl rfl (by simp only [go_sem]; rw [if_neg (by first | assumption | decide | omega)]; rfl) (Opl.one (v := .lit (.int .i64 (wrap64 (Int.tdiv x1_1 (wrap64 ((wrap64 (((rd_IVar l0_0 x6_1).f1) - ((rd_IVar l0_0 x6_1).f0))) + 1)))))) rfl rfl rfl (Opl.nil (Evr.inBlock (Evr.regionN rfl (Opl.one (v := .lit (.int .i64 x6_1)) rfl rfl rfl (Opl.subi (k := .i64) (a := x6_1) (b := 1) K3 rfl rfl rfl rfl (Opl.one (v := .lit (.int .i64 (wrap64 (x6_1 - 1)))) rfl rfl rfl (Opl.nil ?_))))))))))))
  exact ih1 _ (by omega) _ _ ⟨by omega, _, _, _, _, _, H, ⟨rfl, rfl, rfl, rfl, trivial⟩, h13, h12, ap2⟩
theorem spec_l6Value.ev {k : Nat} {a0 : Int} {a1 : Int} {r : (List Int)} (H : spec_l6Value.f k a0 a1 = some r) : Ret Try.prog 136 [.lit (.int .i64 a0), .lit (.int .i64 a1)] fun v S => Vec (cInt .i64) r v S := by
 unfold spec_l6Value.f at H
 refine Ret.intro Try.func136 rfl (Nat.le_of_ble_eq_true rfl) rfl ?_
 rw [tm2]
 refine Evr.sr rfl (Opl.p1 (n := Opl.nil (Evr.sr rfl (Opl.lits (M := (cInt .i64)) (ys := []) [] K27 T3 rfl rfl rfl trivial rfl (by decide) rfl rfl rfl ?_))))
 rintro pv1 S h1 u1 w1
 refine Opl.p1 (n := Opl.nil (Evr.seq (Evr.sr rfl (Opl.p1 (n := Opl.subi (k := .i64) (a := a1) (b := 1) K3 rfl rfl rfl rfl (Opl.one (v := .lit (.int .i64 (wrap64 (a1 - 1)))) rfl rfl rfl (Opl.nil (Evr.block ?_))))))))
 refine Evr.loop (Evr.rounds (n := k) (Inv := fun n tm S => n ≤ k ∧ ∃ (x5_1 : List Int) (x6_1 : Int) (pv2 : PV), spec_l6Value.l0 n a0 x5_1 x6_1 = some r ∧ Has tm [(0, .lit (.int .i64 a0)), (5, pv2), (6, .lit (.int .i64 x6_1))] ∧ Vec (cInt .i64) x5_1 pv2 S) ?_ ?_ ?_)
 · exact ⟨Nat.le_refl _, _, _, _, H, ⟨rfl, rfl, rfl, trivial⟩, h1⟩
 ·
  rintro tm S ⟨_, _, _, _, H, -⟩
  simp [spec_l6Value.l0] at H
 ·
  rintro n1 ih1 tm S ⟨hle, x5_1, x6_1, pv2, H, hh, h2⟩
  simp only [spec_l6Value.l0] at H
  rw [hh.eq]
  refine Evr.seq (Evr.sr rfl (Opl.p1 (n := Opl.p1 (n := Opl.nil ?_))))
  by_cases c1 : x6_1 ≥ 0
  case neg =>
   rw [if_neg c1] at H
   have e2 : (decide (x6_1 ≥ 0)) = false := by simpa using c1
   try rw [e2]
   refine Evr.condF rfl (Evr.exit rfl (Evr.sr rfl (Opl.p1 (n := Opl.p1 (n := Opl.nil ?_)))))
   obtain rfl := sinj H
   refine Evr.ret1 Try.func136 rfl ?_
   show Vec _ _ pv2 _
   exact h2
  rw [if_pos c1] at H
  have e1 : (decide (x6_1 ≥ 0)) = true := by simpa using c1
  try rw [e1]
  refine Evr.condT rfl (Evr.skip (Evr.seq (Evr.block (Evr.regionN rfl (Opl.p1 (n := Opl.p1 (n := Opl.p1 (n := ?_))))))))
  obtain ⟨c2, H⟩ := peel H
  obtain ⟨c3, H⟩ := peel H
  refine Opl.one (v := .lit (.int .i64 (shr .i64 a0 x6_1))) rfl rfl (by simp only [go_sem]; rw [if_neg (by omega), fdiv_pow]; simp only [shr, w64, IntKind.bits]; rfl) (Opl.one (v := .lit (.int .i64 (Int.tmod (shr .i64 a0 x6_1) 2))) rfl rfl (by simp only [go_sem]; rw [if_neg (by first | assumption | decide | omega)]; rfl) (Opl.lits (M := (cInt .i64)) (ys := [(Int.tmod (shr .i64 a0 x6_1) 2)]) [.tmp 18] K27 T3 rfl rfl rfl (by exact ⟨rfl, trivial⟩) rfl (by decide) rfl rfl rfl ?_))
  rintro pv3 S h3 u2 w2
  have ap1 := w2.vec h2
  have h4 := u2.vec h2 ap1
  refine Opl.app (M := (cInt .i64)) (xs := x5_1) (ys := [(Int.tmod (shr .i64 a0 x6_1) 2)]) (v := pv2) h4 (.vec h3) (oInt .i64) rfl rfl K27 T3 rfl rfl (by (try simp only [List.length_cons, List.length_nil]); omega) (by show (_ + _) * 8 ≤ 140737488355328; (try simp only [List.length_cons, List.length_nil]); omega) rfl rfl rfl rfl rfl ?_
  rintro pv4 S h5 u3 w3
  have ap2 := w3.vec h3
  have h6 := u3.vec h3 ap1.symm
  refine Opl.p1 (n := Opl.nil (Evr.inBlock (Evr.regionN rfl (Opl.p1 (n := Opl.subi (k := .i64) (a := x6_1) (b := 1) K3 rfl rfl rfl rfl (Opl.one (v := .lit (.int .i64 (wrap64 (x6_1 - 1)))) rfl rfl rfl (Opl.nil ?_)))))))
  exact ih1 _ (by omega) _ _ ⟨by omega, _, _, _, H, ⟨rfl, rfl, rfl, trivial⟩, h5⟩
theorem spec_l6Many.ev {k : Nat} {a0 : Int} {r : Int} (H : spec_l6Many.f k a0 = some r) : Ret Try.prog 183 [.lit (.int .i64 a0)] fun v S => v = .lit (.int .i64 r) := by
 unfold spec_l6Many.f at H
 refine Ret.intro Try.func183 rfl (Nat.le_of_ble_eq_true rfl) rfl ?_
 rw [tm1]
 refine Evr.sr rfl (Opl.p1 (n := Opl.nil (Evr.sr rfl (Opl.p1 (n := Opl.nil (Evr.seq (Evr.sr rfl (Opl.p1 (n := Opl.nil (Evr.block ?_))))))))))
 refine Evr.loop (Evr.rounds (n := k) (Inv := fun n tm S => n ≤ k ∧ ∃ (x3_1 : Int) (x4_1 : Int), spec_l6Many.l0 n a0 x3_1 x4_1 = some r ∧ Has tm [(0, .lit (.int .i64 a0)), (3, .lit (.int .i64 x3_1)), (4, .lit (.int .i64 x4_1))]) ?_ ?_ ?_)
 · exact ⟨Nat.le_refl _, _, _, H, ⟨rfl, rfl, rfl, trivial⟩⟩
 ·
  rintro tm S ⟨_, _, _, H, -⟩
  simp [spec_l6Many.l0] at H
 ·
  rintro n1 ih1 tm S ⟨hle, x3_1, x4_1, H, hh⟩
  simp only [spec_l6Many.l0] at H
  rw [hh.eq]
  refine Evr.seq (Evr.sr rfl (Opl.p1 (n := Opl.p1 (n := Opl.p1 (n := Opl.nil ?_)))))
  by_cases c1 : x4_1 < a0
  case neg =>
   rw [if_neg c1] at H
   have e2 : (decide (x4_1 < a0)) = false := by simpa using c1
   try rw [e2]
   refine Evr.condF rfl (Evr.exit rfl (Evr.sr rfl (Opl.p1 (n := Opl.p1 (n := Opl.nil ?_)))))
   obtain rfl := sinj H
   refine Evr.ret1 Try.func183 rfl ?_
   show (.lit (.int .i64 x3_1) : PV) = _
   first | rfl | (simp only [go_sem]; rfl)
  rw [if_pos c1] at H
  have e1 : (decide (x4_1 < a0)) = true := by simpa using c1
  try rw [e1]
  refine Evr.condT rfl (Evr.skip (Evr.seq (Evr.block (Evr.regionN rfl (Opl.p1 (n := Opl.add (k := .i64) (a := x3_1) (b := 1) K3 rfl rfl rfl rfl (Opl.one (v := .lit (.int .i64 (wrap64 (x3_1 + 1)))) rfl rfl rfl (Opl.nil (Evr.inBlock (Evr.regionN rfl (Opl.one (v := .lit (.int .i64 x4_1)) rfl rfl rfl (Opl.mul (k := .i64) (a := x4_1) (b := 2) K3 rfl rfl rfl rfl (Opl.one (v := .lit (.int .i64 (wrap64 (x4_1 * 2)))) rfl rfl rfl (Opl.nil ?_))))))))))))))
  exact ih1 _ (by omega) _ _ ⟨by omega, _, _, H, ⟨rfl, rfl, rfl, trivial⟩⟩
theorem spec_l6Widths.ev {k : Nat} {l0_0 : List IVar} {v0_0 : PV} (hv0_0 : Sl cIVar l0_0 v0_0) {l0_1 : List IRule} {v0_1 : PV} (hv0_1 : Sl cIRule l0_1 v0_1) {r : (List Int)} (H : spec_l6Widths.f k l0_0 l0_1 = some r) : Ret Try.prog 135 [.agg [v0_0, v0_1]] fun v S => Vec (cInt .i64) r v S := by
 unfold spec_l6Widths.f at H
 refine Ret.intro Try.func135 rfl (Nat.le_of_ble_eq_true rfl) rfl ?_
 rw [tm1]
 refine Evr.sr rfl (Opl.box (cs := [v0_0, v0_1]) rfl rfl rfl rfl ?_)
 rintro i1 S h1 u1 w1
 refine Opl.p1 (n := Opl.nil (Evr.sr rfl (Opl.lits (M := (cInt .i64)) (ys := []) [] K27 T3 rfl rfl rfl trivial rfl (by decide) rfl rfl rfl ?_)))
 rintro pv1 S h2 u2 w2
 have ap1 := w2.box h1
 have h3 := u2.box h1 ap1
 refine Opl.p1 (n := Opl.nil (Evr.seq (Evr.sr rfl (Opl.p1 (n := Opl.nil (Evr.block ?_))))))
 refine Evr.loop (Evr.rounds (n := k) (Inv := fun n tm S => n ≤ k ∧ ∃ (x3_1 : List Int) (x4_1 : Int) (i2 : Abs.Id) (pv2 : PV), spec_l6Widths.l0 n x3_1 x4_1 l0_0 l0_1 = some r ∧ Has tm [(1, .ptr i2 0), (3, pv2), (4, .lit (.int .i64 x4_1))] ∧ Box (.ptr i2 0) [v0_0, v0_1] S ∧ Vec (cInt .i64) x3_1 pv2 S ∧ Ap (.ptr i2 0) pv2) ?_ ?_ ?_)
 · exact ⟨Nat.le_refl _, _, _, _, _, H, ⟨rfl, rfl, rfl, trivial⟩, h3, h2, ap1⟩
 ·
  rintro tm S ⟨_, _, _, _, _, H, -⟩
  simp [spec_l6Widths.l0] at H
 ·
  rintro n1 ih1 tm S ⟨hle, x3_1, x4_1, i2, pv2, H, hh, h4, h5, ap2⟩
  simp only [spec_l6Widths.l0] at H
  rw [hh.eq]
  refine Evr.seq (Evr.sr rfl (Opl.p1 (n := Opl.p1 (v := .ptr i2 0) (n := Opl.ldb (v := v0_0) h4 rfl T23 rfl rfl rfl rfl (Opl.len (xs := l0_0) (by exact hv0_0) K23 rfl rfl rfl rfl (Opl.p1 (n := Opl.nil ?_)))))))
  by_cases c1 : x4_1 < (l0_0.length : Int)
  case neg =>
   rw [if_neg c1] at H
   have e2 : (decide (x4_1 < (l0_0.length : Int))) = false := by simpa using c1
   try rw [e2]
   refine Evr.condF rfl (Evr.exit rfl (Evr.sr rfl (Opl.p1 (n := Opl.p1 (n := Opl.nil ?_)))))
   obtain rfl := sinj H
   refine Evr.ret1 Try.func135 rfl ?_
   show Vec _ _ pv2 _
   exact h5
  rw [if_pos c1] at H
  have e1 : (decide (x4_1 < (l0_0.length : Int))) = true := by simpa using c1
  try rw [e1]
  refine Evr.condT rfl (Evr.skip (Evr.seq (Evr.block (Evr.regionD rfl (by kernel_rfl) (Opl.p1 (n := Opl.p1 (v := .ptr i2 0) (n := Opl.ldb (v := v0_0) h4 rfl T23 rfl rfl rfl rfl (Opl.p1 (n := ?_)))))))))
  obtain ⟨c2, H⟩ := peel H
  refine Opl.idx (M := cIVar) (xs := l0_0) (j := x4_1) zIVar (by exact hv0_0) rfl (by omega) (by omega) K23 Z101 rfl rfl ?_
  rintro p1 q1 h6
  obtain rfl := cIVar_R (x := (rd_IVar l0_0 x4_1)) h6
  refine Opl.p1 (v := .fel ((.lit (.int .i64 ((rd_IVar l0_0 x4_1).f1))) :: (.lit (.int .i64 ((rd_IVar l0_0 x4_1).f2))) :: q1)) (n := Opl.lda (.lit (.int .i64 ((rd_IVar l0_0 x4_1).f1))) rfl T3 rfl rfl rfl rfl (Opl.p1 (v := .ptr i2 0) (n := Opl.ldb (v := v0_0) h4 rfl T23 rfl rfl rfl rfl (Opl.p1 (n := Opl.idx (M := cIVar) (xs := l0_0) (j := x4_1) zIVar (by exact hv0_0) rfl (by omega) (by omega) K23 Z101 rfl rfl ?_)))))
  rintro p2 q2 h7
  obtain rfl := cIVar_R (x := (rd_IVar l0_0 x4_1)) h7
  refine Opl.p1 (v := .fel ((.lit (.int .i64 ((rd_IVar l0_0 x4_1).f0))) :: (.lit (.int .i64 ((rd_IVar l0_0 x4_1).f1))) :: (.lit (.int .i64 ((rd_IVar l0_0 x4_1).f2))) :: q2)) (n := Opl.lda (.lit (.int .i64 ((rd_IVar l0_0 x4_1).f0))) rfl T3 rfl rfl rfl rfl (Opl.subi (k := .i64) (a := ((rd_IVar l0_0 x4_1).f1)) (b := ((rd_IVar l0_0 x4_1).f0)) K3 rfl rfl rfl rfl (Opl.add (k := .i64) (a := (wrap64 (((rd_IVar l0_0 x4_1).f1) - ((rd_IVar l0_0 x4_1).f0)))) (b := 1) K3 rfl rfl rfl rfl ?_)))
  obtain ⟨t686, h_t686, H⟩ := obs H
  refine Opl.callc (spec_l6Many.ev h_t686) rfl rfl rfl rfl ⟨(.lit _), trivial⟩ (by decide) (Opl.lits (M := (cInt .i64)) (ys := [t686]) [.tmp 28] K27 T3 rfl rfl rfl (by exact ⟨rfl, trivial⟩) rfl (by decide) rfl rfl rfl ?_)
  rintro pv3 S h8 u3 w3
  have ap3 := w3.box h4
  have h9 := u3.box h4 ap3
  have ap4 := w3.vec h5
  have h10 := u3.vec h5 ap4
  obtain ⟨c3, H⟩ := peel H
  refine Opl.app (M := (cInt .i64)) (xs := x3_1) (ys := [t686]) (v := pv2) h10 (.vec h8) (oInt .i64) rfl rfl K27 T3 rfl rfl (by (try simp only [List.length_cons, List.length_nil]); omega) (by show (_ + _) * 8 ≤ 140737488355328; (try simp only [List.length_cons, List.length_nil]); omega) rfl rfl rfl rfl rfl ?_
  rintro pv4 S h11 u4 w4
  have ap5 := w4.box h9
  have h12 := u4.box h9 ap2
  have ap6 := w4.vec h8
  have h13 := u4.vec h8 ap4.symm
  refine Opl.one (v := pv4) rfl rfl rfl (Opl.nil (Evr.inBlock (Evr.regionN rfl (Opl.one (v := .lit (.int .i64 x4_1)) rfl rfl rfl (Opl.add (k := .i64) (a := x4_1) (b := 1) K3 rfl rfl rfl rfl (Opl.one (v := .lit (.int .i64 (wrap64 (x4_1 + 1)))) rfl rfl rfl (Opl.nil ?_)))))))
  exact ih1 _ (by omega) _ _ ⟨by omega, _, _, _, _, H, ⟨rfl, rfl, rfl, trivial⟩, h12, h11, ap5⟩
theorem spec_l6State.ev {k : Nat} {l0_0 : List IVar} {v0_0 : PV} (hv0_0 : Sl cIVar l0_0 v0_0) {l0_1 : List IRule} {v0_1 : PV} (hv0_1 : Sl cIRule l0_1 v0_1) {l1 : List Int} {v1 : PV} (hv1 : Sl (cInt .i64) l1 v1) {r : (List Int)} (H : spec_l6State.f k l0_0 l0_1 l1 = some r) : Ret Try.prog 58 [.agg [v0_0, v0_1], v1] fun v S => Vec (cInt .i64) r v S := by
 unfold spec_l6State.f at H
 refine Ret.intro Try.func58 rfl (Nat.le_of_ble_eq_true rfl) rfl ?_
 rw [tm2]
 refine Evr.sr rfl (Opl.box (cs := [v0_0, v0_1]) rfl rfl rfl rfl ?_)
 rintro i1 S h1 u1 w1
 refine Opl.p1 (n := Opl.nil (Evr.sr rfl (Opl.lits (M := (cInt .i64)) (ys := []) [] K27 T3 rfl rfl rfl trivial rfl (by decide) rfl rfl rfl ?_)))
 rintro pv1 S h2 u2 w2
 have ap1 := w2.box h1
 have h3 := u2.box h1 ap1
 refine Opl.p1 (n := Opl.nil (Evr.sr rfl (Opl.ldb (v := .agg [v0_0, v0_1]) h3 rfl T26 rfl rfl rfl rfl ?_)))
 obtain ⟨t700, h_t700, H⟩ := obs H
 refine Opl.call ((spec_l6Widths.ev hv0_0 hv0_1 h_t700).mono fun _ _ h => Out.vec h) rfl rfl rfl rfl ⟨(.aggL ⟨hv0_0.plain, hv0_1.plain, trivial⟩), trivial⟩ (by decide) ?_
 rintro pv2 h4
 refine Opl.p1 (n := Opl.nil (Evr.seq (Evr.sr rfl (Opl.p1 (n := Opl.nil (Evr.block ?_))))))
 refine Evr.loop (Evr.rounds (n := k) (Inv := fun n tm S => n ≤ k ∧ ∃ (x5_1 : List Int) (x7_1 : Int) (i2 : Abs.Id) (pv3 : PV), spec_l6State.l0 n l1 x5_1 t700 x7_1 l0_0 l0_1 = some r ∧ Has tm [(1, v1), (2, .ptr i2 0), (5, pv3), (6, pv2), (7, .lit (.int .i64 x7_1))] ∧ Box (.ptr i2 0) [v0_0, v0_1] S ∧ Vec (cInt .i64) x5_1 pv3 S ∧ Ap (.ptr i2 0) pv3) ?_ ?_ ?_)
 · exact ⟨Nat.le_refl _, _, _, _, _, H, ⟨rfl, rfl, rfl, rfl, rfl, trivial⟩, h3, h2, ap1⟩
 ·
  rintro tm S ⟨_, _, _, _, _, H, -⟩
  simp [spec_l6State.l0] at H
 ·
  rintro n1 ih1 tm S ⟨hle, x5_1, x7_1, i2, pv3, H, hh, h5, h6, ap2⟩
  simp only [spec_l6State.l0] at H
  rw [hh.eq]
  refine Evr.seq (Evr.sr rfl (Opl.p1 (n := Opl.p1 (n := Opl.len (xs := l1) (by exact hv1) K27 rfl rfl rfl rfl (Opl.p1 (n := Opl.nil ?_))))))
  by_cases c1 : x7_1 < (l1.length : Int)
  case neg =>
   rw [if_neg c1] at H
   have e4 : (decide (x7_1 < (l1.length : Int))) = false := by simpa using c1
   try rw [e4]
   refine Evr.condF rfl (Evr.exit rfl (Evr.sr rfl (Opl.p1 (n := Opl.p1 (n := Opl.nil ?_)))))
   obtain rfl := sinj H
   refine Evr.ret1 Try.func58 rfl ?_
   show Vec _ _ pv3 _
   exact h6
  rw [if_pos c1] at H
  have e1 : (decide (x7_1 < (l1.length : Int))) = true := by simpa using c1
  try rw [e1]
  refine Evr.condT rfl (Evr.skip (Evr.seq (Evr.block (Evr.seq (Evr.regionD rfl (by kernel_rfl) (Opl.p1 (n := Opl.p1 (n := ?_))))))))
  obtain ⟨c2, H⟩ := peel H
  obtain ⟨c3, H⟩ := peel H
  obtain ⟨c4, H⟩ := peel H
  refine Opl.idx (M := (cInt .i64)) (xs := l1) (j := x7_1) (0 : Int) (by exact hv1) rfl (by omega) (by omega) K27 Z3 rfl rfl ?_
  rintro p1 q1 h7
  obtain rfl : p1 = [.lit (.int .i64 (rd l1 x7_1))] := h7
  refine Opl.lda (.lit (.int .i64 (rd l1 x7_1))) rfl T3 rfl rfl rfl rfl (Opl.p1 (v := .ptr i2 0) (n := Opl.ldb (v := v0_0) h5 rfl T23 rfl rfl rfl rfl (Opl.p1 (n := Opl.idx (M := cIVar) (xs := l0_0) (j := x7_1) zIVar (by exact hv0_0) rfl (by omega) (by omega) K23 Z101 rfl rfl ?_))))
  rintro p2 q2 h8
  obtain rfl := cIVar_R (x := (rd_IVar l0_0 x7_1)) h8
  refine Opl.p1 (v := .fel ((.lit (.int .i64 ((rd_IVar l0_0 x7_1).f0))) :: (.lit (.int .i64 ((rd_IVar l0_0 x7_1).f1))) :: (.lit (.int .i64 ((rd_IVar l0_0 x7_1).f2))) :: q2)) (n := Opl.lda (.lit (.int .i64 ((rd_IVar l0_0 x7_1).f0))) rfl T3 rfl rfl rfl rfl (Opl.subi (k := .i64) (a := (rd l1 x7_1)) (b := ((rd_IVar l0_0 x7_1).f0)) K3 rfl rfl rfl rfl (Opl.one (v := pv2) rfl rfl rfl (Opl.one (v := .lit (.int .i64 x7_1)) rfl rfl rfl (Opl.idx (M := (cInt .i64)) (xs := t700) (j := x7_1) (0 : Int) (by exact h4) rfl (by omega) (by omega) K27 Z3 rfl rfl ?_)))))
  rintro p3 q3 h9
  obtain rfl : p3 = [.lit (.int .i64 (rd t700 x7_1))] := h9
  refine Opl.lda (.lit (.int .i64 (rd t700 x7_1))) rfl T3 rfl rfl rfl rfl ?_
  obtain ⟨t706, h_t706, H⟩ := obs H
  refine Opl.call ((spec_l6Value.ev h_t706).mono fun _ _ h => Out.vec h) rfl rfl rfl rfl ⟨(.lit _), (.lit _), trivial⟩ (by decide) ?_
  rintro pv4 h10
  refine Opl.one (v := pv4) rfl rfl rfl (Opl.nil (Evr.sr rfl (Opl.one (v := .lit (.int .i64 0)) rfl rfl rfl (Opl.nil (Evr.block ?_)))))
  refine Evr.loop (Evr.rounds (n := n1) (Inv := fun n tm S => n ≤ n1 ∧ ∃ (x5_2 : List Int) (x9_1 : Int) (i3 : Abs.Id) (pv5 : PV), spec_l6State.l1 n l1 x5_2 t700 x7_1 t706 x9_1 l0_0 l0_1 = some r ∧ Has tm [(1, v1), (2, .ptr i3 0), (5, pv5), (6, pv2), (7, .lit (.int .i64 x7_1)), (8, pv4), (9, .lit (.int .i64 x9_1))] ∧ Box (.ptr i3 0) [v0_0, v0_1] S ∧ Vec (cInt .i64) x5_2 pv5 S ∧ Ap (.ptr i3 0) pv5) ?_ ?_ ?_)
  · exact ⟨Nat.le_refl _, _, _, _, _, H, ⟨rfl, rfl, rfl, rfl, rfl, rfl, rfl, trivial⟩, h5, h6, ap2⟩
  ·
   rintro tm S ⟨_, _, _, _, _, H, -⟩
   simp [spec_l6State.l1] at H
  ·
   rintro n2 ih2 tm S ⟨hle, x5_2, x9_1, i3, pv5, H, hh, h11, h12, ap3⟩
   simp only [spec_l6State.l1] at H
   rw [hh.eq]
   refine Evr.seq (Evr.sr rfl (Opl.p1 (n := Opl.p1 (n := Opl.len (xs := t706) (by exact h10) K27 rfl rfl rfl rfl (Opl.p1 (n := Opl.nil ?_))))))
   by_cases c5 : x9_1 < (t706.length : Int)
   case neg =>
    rw [if_neg c5] at H
    have e3 : (decide (x9_1 < (t706.length : Int))) = false := by simpa using c5
    try rw [e3]
    refine Evr.condF rfl (Evr.exit rfl (Evr.inBlock (Evr.regionN rfl (Opl.p1 (n := Opl.add (k := .i64) (a := x7_1) (b := 1) K3 rfl rfl rfl rfl (Opl.one (v := .lit (.int .i64 (wrap64 (x7_1 + 1)))) rfl rfl rfl (Opl.nil ?_)))))))
    exact ih1 _ (by omega) _ _ ⟨by omega, _, _, _, _, H, ⟨rfl, rfl, rfl, rfl, rfl, trivial⟩, h11, h12, ap3⟩
   rw [if_pos c5] at H
   have e2 : (decide (x9_1 < (t706.length : Int))) = true := by simpa using c5
   try rw [e2]
   refine Evr.condT rfl (Evr.skip (Evr.seq (Evr.block (Evr.regionN rfl (Opl.p1 (n := Opl.p1 (n := Opl.p1 (n := ?_))))))))
   obtain ⟨c6, H⟩ := peel H
   obtain ⟨c7, H⟩ := peel H
   refine Opl.idx (M := (cInt .i64)) (xs := t706) (j := x9_1) (0 : Int) (by exact h10) rfl (by omega) (by omega) K27 Z3 rfl rfl ?_
   rintro p4 q4 h13
   obtain rfl : p4 = [.lit (.int .i64 (rd t706 x9_1))] := h13
   refine Opl.lda (.lit (.int .i64 (rd t706 x9_1))) rfl T3 rfl rfl rfl rfl (Opl.lits (M := (cInt .i64)) (ys := [(rd t706 x9_1)]) [.tmp 45] K27 T3 rfl rfl rfl (by exact ⟨rfl, trivial⟩) rfl (by decide) rfl rfl rfl ?_)
   rintro pv6 S h14 u3 w3
   have ap4 := w3.box h11
   have h15 := u3.box h11 ap4
   have ap5 := w3.vec h12
   have h16 := u3.vec h12 ap5
   refine Opl.app (M := (cInt .i64)) (xs := x5_2) (ys := [(rd t706 x9_1)]) (v := pv5) h16 (.vec h14) (oInt .i64) rfl rfl K27 T3 rfl rfl (by (try simp only [List.length_cons, List.length_nil]); omega) (by show (_ + _) * 8 ≤ 140737488355328; (try simp only [List.length_cons, List.length_nil]); omega) rfl rfl rfl rfl rfl ?_
   rintro pv7 S h17 u4 w4
   have ap6 := w4.box h15
   have h18 := u4.box h15 ap3
   have ap7 := w4.vec h14
   have h19 := u4.vec h14 ap5.symm
   refine Opl.p1 (n := Opl.nil (Evr.inBlock (Evr.regionN rfl (Opl.p1 (n := Opl.add (k := .i64) (a := x9_1) (b := 1) K3 rfl rfl rfl rfl (Opl.one (v := .lit (.int .i64 (wrap64 (x9_1 + 1)))) rfl rfl rfl (Opl.nil ?_)))))))
   exact ih2 _ (by omega) _ _ ⟨by omega, _, _, _, _, H, ⟨rfl, rfl, rfl, rfl, rfl, rfl, rfl, trivial⟩, h18, h17, ap6⟩
theorem spec_l16States.ev {k : Nat} {l0_0 : List IVar} {v0_0 : PV} (hv0_0 : Sl cIVar l0_0 v0_0) {l0_1 : List IRule} {v0_1 : PV} (hv0_1 : Sl cIRule l0_1 v0_1) {l1 : List Int} {v1 : PV} (hv1 : Sl (cInt .i64) l1 v1) {r : (List Int)} (H : spec_l16States.f k l0_0 l0_1 l1 = some r) : Ret Try.prog 60 [.agg [v0_0, v0_1], v1] fun v S => Vec (cInt .i64) r v S := by
 unfold spec_l16States.f at H
 refine Ret.intro Try.func60 rfl (Nat.le_of_ble_eq_true rfl) rfl ?_
 rw [tm2]
 refine Evr.sr rfl (Opl.box (cs := [v0_0, v0_1]) rfl rfl rfl rfl ?_)
 rintro i1 S h1 u1 w1
 refine Opl.p1 (n := Opl.nil (Evr.sr rfl (Opl.lits (M := (cInt .i64)) (ys := []) [] K27 T3 rfl rfl rfl trivial rfl (by decide) rfl rfl rfl ?_)))
 rintro pv1 S h2 u2 w2
 have ap1 := w2.box h1
 have h3 := u2.box h1 ap1
 refine Opl.p1 (n := Opl.nil (Evr.seq (Evr.sr rfl (Opl.p1 (n := Opl.nil (Evr.block ?_))))))
 refine Evr.loop (Evr.rounds (n := k) (Inv := fun n tm S => n ≤ k ∧ ∃ (x5_1 : List Int) (x6_1 : Int) (i2 : Abs.Id) (pv2 : PV), spec_l16States.l0 n l1 x5_1 x6_1 l0_0 l0_1 = some r ∧ Has tm [(1, v1), (2, .ptr i2 0), (5, pv2), (6, .lit (.int .i64 x6_1))] ∧ Box (.ptr i2 0) [v0_0, v0_1] S ∧ Vec (cInt .i64) x5_1 pv2 S ∧ Ap (.ptr i2 0) pv2) ?_ ?_ ?_)
 · exact ⟨Nat.le_refl _, _, _, _, _, H, ⟨rfl, rfl, rfl, rfl, trivial⟩, h3, h2, ap1⟩
 ·
  rintro tm S ⟨_, _, _, _, _, H, -⟩
  simp [spec_l16States.l0] at H
 ·
  rintro n1 ih1 tm S ⟨hle, x5_1, x6_1, i2, pv2, H, hh, h4, h5, ap2⟩
  simp only [spec_l16States.l0] at H
  rw [hh.eq]
  refine Evr.seq (Evr.sr rfl (Opl.p1 (n := Opl.ldb (v := .agg [v0_0, v0_1]) h4 rfl T26 rfl rfl rfl rfl ?_)))
  obtain ⟨t740, h_t740, H⟩ := obs H
  refine Opl.callc (spec_SizeOf.ev hv0_0 hv0_1 h_t740) rfl rfl rfl rfl ⟨(.aggL ⟨hv0_0.plain, hv0_1.plain, trivial⟩), trivial⟩ (by decide) (Opl.p1 (n := Opl.nil ?_))
  by_cases c1 : x6_1 < t740
  case neg =>
   rw [if_neg c1] at H
   have e2 : (decide (x6_1 < t740)) = false := by simpa using c1
   try rw [e2]
   refine Evr.condF rfl (Evr.exit rfl (Evr.sr rfl (Opl.p1 (n := Opl.p1 (n := Opl.nil ?_)))))
   obtain rfl := sinj H
   refine Evr.ret1 Try.func60 rfl ?_
   show Vec _ _ pv2 _
   exact h5
  rw [if_pos c1] at H
  have e1 : (decide (x6_1 < t740)) = true := by simpa using c1
  try rw [e1]
  refine Evr.condT rfl (Evr.skip (Evr.seq (Evr.block (Evr.seq (Evr.regionD rfl (by kernel_rfl) (Opl.p1 (n := Opl.ldb (v := .agg [v0_0, v0_1]) h4 rfl T26 rfl rfl rfl rfl (Opl.ldb (v := .agg [v0_0, v0_1]) h4 rfl T26 rfl rfl rfl rfl (Opl.p1 (n := ?_))))))))))
  obtain ⟨t741, h_t741, H⟩ := obs H
  refine Opl.call ((spec_l4State.ev hv0_0 hv0_1 h_t741).mono fun _ _ h => Out.vec h) rfl rfl rfl rfl ⟨(.aggL ⟨hv0_0.plain, hv0_1.plain, trivial⟩), (.lit _), trivial⟩ (by decide) ?_
  rintro pv3 h6
  obtain ⟨t744, h_t744, H⟩ := obs H
  refine Opl.call ((spec_l6State.ev hv0_0 hv0_1 h6 h_t744).mono fun _ _ h => Out.vec h) rfl rfl rfl rfl ⟨(.aggL ⟨hv0_0.plain, hv0_1.plain, trivial⟩), h6.plain, trivial⟩ (by decide) ?_
  rintro pv4 h7
  obtain ⟨t747, h_t747, H⟩ := obs H
  refine Opl.callc (spec_l16Has.ev hv1 h7 h_t747) rfl rfl rfl rfl ⟨hv1.plain, h7.plain, trivial⟩ (by decide) (Opl.nil ?_)
  refine Evr.join (fun tm S => ∃ (kq1 : Nat) (x5_2 : List Int) (i3 : Abs.Id) (pv5 : PV), spec_l16States.l0 kq1 l1 x5_2 (wrap64 (x6_1 + 1)) l0_0 l0_1 = some r ∧ kq1 ≤ n1 ∧ Has tm [(1, v1), (2, .ptr i3 0), (5, pv5), (6, .lit (.int .i64 x6_1))] ∧ Box (.ptr i3 0) [v0_0, v0_1] S ∧ Vec (cInt .i64) x5_2 pv5 S ∧ Ap (.ptr i3 0) pv5) ?_ fun hk1 => ?_
  ·
   rintro tm S ⟨kq1, x5_2, i3, pv5, H, hle, hh, h8, h9, ap3⟩
   rw [hh.eq]
   refine Evr.inBlock (Evr.regionN rfl (Opl.p1 (n := Opl.add (k := .i64) (a := x6_1) (b := 1) K3 rfl rfl rfl rfl (Opl.one (v := .lit (.int .i64 (wrap64 (x6_1 + 1)))) rfl rfl rfl (Opl.nil ?_)))))
   exact ih1 _ (by omega) _ _ ⟨by omega, _, _, _, _, H, ⟨rfl, rfl, rfl, rfl, trivial⟩, h8, h9, ap3⟩
  ·
   by_cases c2 : t747 = true
   case neg =>
    rw [if_neg c2] at H
    obtain rfl : t747 = false := by simpa using c2
    refine Evr.condF rfl (Evr.skip ?_)
    exact hk1 _ _ ⟨_, _, _, _, H, by omega, ⟨rfl, rfl, rfl, rfl, trivial⟩, h4, h5, ap2⟩
   rw [if_pos c2] at H
   obtain rfl : t747 = true := by simpa using c2
   refine Evr.condT rfl (Evr.regionN rfl (Opl.p1 (n := Opl.p1 (n := Opl.lits (M := (cInt .i64)) (ys := [x6_1]) [.tmp 22] K27 T3 rfl rfl rfl (by exact ⟨rfl, trivial⟩) rfl (by decide) rfl rfl rfl ?_))))
   rintro pv6 S h10 u3 w3
   have ap4 := w3.box h4
   have h11 := u3.box h4 ap4
   have ap5 := w3.vec h5
   have h12 := u3.vec h5 ap5
   obtain ⟨c3, H⟩ := peel H
   refine Opl.app (M := (cInt .i64)) (xs := x5_1) (ys := [x6_1]) (v := pv2) h12 (.vec h10) (oInt .i64) rfl rfl K27 T3 rfl rfl (by (try simp only [List.length_cons, List.length_nil]); omega) (by show (_ + _) * 8 ≤ 140737488355328; (try simp only [List.length_cons, List.length_nil]); omega) rfl rfl rfl rfl rfl ?_
   rintro pv7 S h13 u4 w4
   have ap6 := w4.box h11
   have h14 := u4.box h11 ap2
   have ap7 := w4.vec h10
   have h15 := u4.vec h10 ap5.symm
   refine Opl.p1 (n := Opl.nil ?_)
   exact hk1 _ _ ⟨_, _, _, _, H, by omega, ⟨rfl, rfl, rfl, rfl, trivial⟩, h14, h13, ap6⟩
theorem spec_l16Wide.ev {k : Nat} {l0_0 : List IVar} {v0_0 : PV} (hv0_0 : Sl cIVar l0_0 v0_0) {l0_1 : List IRule} {v0_1 : PV} (hv0_1 : Sl cIRule l0_1 v0_1) {l1 : List Int} {v1 : PV} (hv1 : Sl (cInt .i64) l1 v1) {l2 : List Int} {v2 : PV} (hv2 : Sl (cInt .i64) l2 v2) {r : (List Int)} (H : spec_l16Wide.f k l0_0 l0_1 l1 l2 = some r) : Ret Try.prog 57 [.agg [v0_0, v0_1], v1, v2] fun v S => Vec (cInt .i64) r v S := by
 unfold spec_l16Wide.f at H
 refine Ret.intro Try.func57 rfl (Nat.le_of_ble_eq_true rfl) rfl ?_
 rw [tm3]
 refine Evr.sr rfl (Opl.box (cs := [v0_0, v0_1]) rfl rfl rfl rfl ?_)
 rintro i1 S h1 u1 w1
 refine Opl.p1 (n := Opl.nil (Evr.sr rfl (Opl.p1 (n := ?_))))
 obtain ⟨r1, h_r1, H⟩ := obs H
 refine Opl.calla (spec_l3Copy.ev hv1 h_r1) rfl rfl rfl rfl ⟨hv1.plain, trivial⟩ rfl ?_
 rintro pv1 S h2 u2 w2
 have ap1 := w2.box h1
 have h3 := u2.box h1 ap1
 refine Opl.p1 (n := Opl.nil (Evr.seq (Evr.sr rfl (Opl.p1 (n := Opl.nil (Evr.block ?_))))))
 refine Evr.loop (Evr.rounds (n := k) (Inv := fun n tm S => n ≤ k ∧ ∃ (x7_1 : List Int) (x8_1 : Int) (i2 : Abs.Id) (pv2 : PV), spec_l16Wide.l1 n x7_1 x8_1 l0_0 l0_1 l2 = some r ∧ Has tm [(2, v2), (3, .ptr i2 0), (7, pv2), (8, .lit (.int .i64 x8_1))] ∧ Box (.ptr i2 0) [v0_0, v0_1] S ∧ Vec (cInt .i64) x7_1 pv2 S ∧ Ap (.ptr i2 0) pv2) ?_ ?_ ?_)
 · exact ⟨Nat.le_refl _, _, _, _, _, H, ⟨rfl, rfl, rfl, rfl, trivial⟩, h3, h2, ap1⟩
 ·
  rintro tm S ⟨_, _, _, _, _, H, -⟩
  simp [spec_l16Wide.l1] at H
 ·
  rintro n1 ih1 tm S ⟨hle, x7_1, x8_1, i2, pv2, H, hh, h4, h5, ap2⟩
  simp only [spec_l16Wide.l1] at H
  rw [hh.eq]
  refine Evr.seq (Evr.sr rfl (Opl.p1 (n := Opl.p1 (n := Opl.lenv (xs := x7_1) (by exact h5) K27 rfl rfl rfl rfl (Opl.p1 (n := Opl.nil ?_))))))
  by_cases c1 : x8_1 < (x7_1.length : Int)
  case neg =>
   rw [if_neg c1] at H
   have e4 : (decide (x8_1 < (x7_1.length : Int))) = false := by simpa using c1
   try rw [e4]
   refine Evr.condF rfl (Evr.exit rfl (Evr.sr rfl (Opl.p1 (n := Opl.p1 (n := Opl.nil ?_)))))
   obtain rfl := sinj H
   refine Evr.ret1 Try.func57 rfl ?_
   show Vec _ _ pv2 _
   exact h5
  rw [if_pos c1] at H
  have e1 : (decide (x8_1 < (x7_1.length : Int))) = true := by simpa using c1
  try rw [e1]
  refine Evr.condT rfl (Evr.skip (Evr.seq (Evr.block (Evr.sr rfl (Opl.p1 (n := ?_))))))
  obtain ⟨r2, h_r2, H⟩ := obs H
  obtain ⟨pv3, h6, -, h7⟩ := Out.vec h5
  refine Opl.callav (sInt .i64) (spec_l3Copy.ev h7 h_r2) rfl rfl rfl (.cons h6 .nil) ⟨h7.plain, trivial⟩ rfl ?_
  rintro pv4 S h8 u3 w3
  have ap3 := w3.box h4
  have h9 := u3.box h4 ap3
  have ap4 := w3.vec h5
  have h10 := u3.vec h5 ap4
  refine Opl.p1 (n := Opl.nil (Evr.sr rfl (Opl.p1 (n := Opl.p1 (n := ?_)))))
  obtain ⟨c2, H⟩ := peel H
  obtain ⟨c3, H⟩ := peel H
  refine Opl.idv (M := (cInt .i64)) (xs := r2) (j := x8_1) (v := pv4) h8 rfl rfl (by omega) (by omega) K27 Z3 rfl rfl ?_
  rintro d1 z1 q1 h11 h12
  refine Opl.stv (M := (cInt .i64)) (xs := r2) (j := x8_1) (y := 2) (vs := [.lit (.int .i64 2)]) h11 h12 (by omega) (by omega) rfl rfl (by exact rfl) Z3 rfl rfl rfl rfl ?_
  rw [← q1]
  rintro S h13 u4
  have h14 := u4.box h9 ap3
  have h15 := u4.vec h10 ap4
  refine Opl.nil (Evr.sr rfl (Opl.ldb (v := .agg [v0_0, v0_1]) h14 rfl T26 rfl rfl rfl rfl (Opl.p1 (n := ?_))))
  obtain ⟨r3, h_r3, H⟩ := obs H
  obtain ⟨pv5, h16, -, h17⟩ := Out.vec h13
  refine Opl.callv (sInt .i64) (spec_l16States.ev hv0_0 hv0_1 h17 h_r3) rfl rfl rfl (.cons (.refl _) (.cons h16 .nil)) ⟨(.aggL ⟨hv0_0.plain, hv0_1.plain, trivial⟩), h17.plain, trivial⟩ (by decide) ?_
  rintro pv6 h18
  refine Opl.p1 (n := ?_)
  obtain ⟨r4, h_r4, H⟩ := obs H
  refine Opl.call ((spec_SetBoth.ev h18 hv2 h_r4).mono fun _ _ h => Out.vec h) rfl rfl rfl rfl ⟨h18.plain, hv2.plain, trivial⟩ (by decide) ?_
  rintro pv7 h19
  refine Opl.len (xs := r4) (by exact h19) K27 rfl rfl rfl rfl (Opl.p1 (n := Opl.nil ?_))
  refine Evr.join (fun tm S => ∃ (kq1 : Nat) (x7_2 : List Int) (i3 : Abs.Id) (pv8 : PV), spec_l16Wide.l1 kq1 x7_2 (wrap64 (x8_1 + 1)) l0_0 l0_1 l2 = some r ∧ kq1 ≤ n1 ∧ Has tm [(2, v2), (3, .ptr i3 0), (7, pv8), (8, .lit (.int .i64 x8_1))] ∧ Box (.ptr i3 0) [v0_0, v0_1] S ∧ Vec (cInt .i64) x7_2 pv8 S ∧ Ap (.ptr i3 0) pv8) ?_ fun hk1 => ?_
  ·
   rintro tm S ⟨kq1, x7_2, i3, pv8, H, hle, hh, h20, h21, ap5⟩
   rw [hh.eq]
   refine Evr.inBlock (Evr.regionN rfl (Opl.p1 (n := Opl.add (k := .i64) (a := x8_1) (b := 1) K3 rfl rfl rfl rfl (Opl.one (v := .lit (.int .i64 (wrap64 (x8_1 + 1)))) rfl rfl rfl (Opl.nil ?_)))))
   exact ih1 _ (by omega) _ _ ⟨by omega, _, _, _, _, H, ⟨rfl, rfl, rfl, rfl, trivial⟩, h20, h21, ap5⟩
  ·
   by_cases c4 : (r4.length : Int) = 0
   case neg =>
    rw [if_neg c4] at H
    have e3 : ((r4.length : Int) == 0) = false := by simpa using c4
    try rw [e3]
    refine Evr.condF rfl (Evr.skip ?_)
    exact hk1 _ _ ⟨_, _, _, _, H, by omega, ⟨rfl, rfl, rfl, rfl, trivial⟩, h14, h15, ap2⟩
   rw [if_pos c4] at H
   have e2 : ((r4.length : Int) == 0) = true := by simpa using c4
   try rw [e2]
   refine Evr.condT rfl (Evr.regionN rfl (Opl.p1 (n := Opl.p1 (n := Opl.nil ?_))))
   exact hk1 _ _ ⟨_, _, _, _, H, by omega, ⟨rfl, rfl, rfl, rfl, trivial⟩, h14, h13, ap3⟩
theorem spec_l2Has.ev {k : Nat} {l0 : List Int} {v0 : PV} (hv0 : Sl (cInt .i64) l0 v0) {a1 : Int} {r : Bool} (H : spec_l2Has.f k l0 a1 = some r) : Ret Try.prog 144 [v0, .lit (.int .i64 a1)] fun v S => v = .lit (.bool r) := by
 unfold spec_l2Has.f at H
 refine Ret.intro Try.func144 rfl (Nat.le_of_ble_eq_true rfl) rfl ?_
 rw [tm2]
 refine Evr.sr rfl (Opl.p1 (n := Opl.nil (Evr.seq (Evr.sr rfl (Opl.p1 (n := Opl.nil (Evr.block ?_)))))))
 refine Evr.loop (Evr.rounds (n := k) (Inv := fun n tm S => n ≤ k ∧ ∃ (x5_1 : Int), spec_l2Has.l0 n l0 a1 x5_1 = some r ∧ Has tm [(0, v0), (1, .lit (.int .i64 a1)), (5, .lit (.int .i64 x5_1))]) ?_ ?_ ?_)
 · exact ⟨Nat.le_refl _, _, H, ⟨rfl, rfl, rfl, trivial⟩⟩
 ·
  rintro tm S ⟨_, _, H, -⟩
  simp [spec_l2Has.l0] at H
 ·
  rintro n1 ih1 tm S ⟨hle, x5_1, H, hh⟩
  simp only [spec_l2Has.l0] at H
  rw [hh.eq]
  refine Evr.seq (Evr.sr rfl (Opl.p1 (n := Opl.p1 (n := Opl.len (xs := l0) (by exact hv0) K27 rfl rfl rfl rfl (Opl.p1 (n := Opl.nil ?_))))))
  by_cases c1 : x5_1 < (l0.length : Int)
  case neg =>
   rw [if_neg c1] at H
   have e4 : (decide (x5_1 < (l0.length : Int))) = false := by simpa using c1
   try rw [e4]
   refine Evr.condF rfl (Evr.exit rfl (Evr.sr rfl (Opl.p1 (n := Opl.nil ?_))))
   obtain rfl := sinj H
   refine Evr.ret1 Try.func144 rfl ?_
   show (.lit (.bool false) : PV) = _
   first | rfl | (simp only [go_sem]; rfl)
  rw [if_pos c1] at H
  have e1 : (decide (x5_1 < (l0.length : Int))) = true := by simpa using c1
  try rw [e1]
  refine Evr.condT rfl (Evr.skip (Evr.seq (Evr.block (Evr.sr rfl (Opl.p1 (n := Opl.p1 (n := ?_)))))))
  obtain ⟨c2, H⟩ := peel H
  refine Opl.idx (M := (cInt .i64)) (xs := l0) (j := x5_1) (0 : Int) (by exact hv0) rfl (by omega) (by omega) K27 Z3 rfl rfl ?_
  rintro p1 q1 h1
  obtain rfl : p1 = [.lit (.int .i64 (rd l0 x5_1))] := h1
  refine Opl.lda (.lit (.int .i64 (rd l0 x5_1))) rfl T3 rfl rfl rfl rfl (Opl.p1 (n := Opl.p1 (n := Opl.nil ?_)))
  by_cases c3 : (rd l0 x5_1) = a1
  case pos =>
   rw [if_pos c3] at H
   have e2 : ((rd l0 x5_1) == a1) = true := by simpa using c3
   try rw [e2]
   refine Evr.condT rfl (Evr.sr rfl (Opl.p1 (n := Opl.nil ?_)))
   obtain rfl := sinj H
   refine Evr.ret1 Try.func144 rfl ?_
   show (.lit (.bool true) : PV) = _
   first | rfl | (simp only [go_sem]; rfl)
  rw [if_neg c3] at H
  have e3 : ((rd l0 x5_1) == a1) = false := by simpa using c3
  try rw [e3]
  refine Evr.condF rfl (Evr.skip (Evr.inBlock (Evr.regionN rfl (Opl.p1 (n := Opl.add (k := .i64) (a := x5_1) (b := 1) K3 rfl rfl rfl rfl (Opl.one (v := .lit (.int .i64 (wrap64 (x5_1 + 1)))) rfl rfl rfl (Opl.nil ?_)))))))
  exact ih1 _ (by omega) _ _ ⟨by omega, _, H, ⟨rfl, rfl, rfl, trivial⟩⟩
theorem spec_l19Around.ev {k : Nat} {l0_0 : List IVar} {v0_0 : PV} (hv0_0 : Sl cIVar l0_0 v0_0) {l0_1 : List IRule} {v0_1 : PV} (hv0_1 : Sl cIRule l0_1 v0_1) {l1 : List Int} {v1 : PV} (hv1 : Sl (cInt .i64) l1 v1) {l2 : List Int} {v2 : PV} (hv2 : Sl (cInt .i64) l2 v2) {r : (List Int)} (H : spec_l19Around.f k l0_0 l0_1 l1 l2 = some r) : Ret Try.prog 77 [.agg [v0_0, v0_1], v1, v2] fun v S => Vec (cInt .i64) r v S := by
 unfold spec_l19Around.f at H
 refine Ret.intro Try.func77 rfl (Nat.le_of_ble_eq_true rfl) rfl ?_
 rw [tm3]
 refine Evr.sr rfl (Opl.box (cs := [v0_0, v0_1]) rfl rfl rfl rfl ?_)
 rintro i1 S h1 u1 w1
 refine Opl.p1 (n := Opl.nil (Evr.sr rfl (Opl.lits (M := (cInt .i64)) (ys := []) [] K27 T3 rfl rfl rfl trivial rfl (by decide) rfl rfl rfl ?_)))
 rintro pv1 S h2 u2 w2
 have ap1 := w2.box h1
 have h3 := u2.box h1 ap1
 refine Opl.p1 (n := Opl.nil (Evr.seq (Evr.sr rfl (Opl.p1 (n := Opl.nil (Evr.block ?_))))))
 refine Evr.loop (Evr.rounds (n := k) (Inv := fun n tm S => n ≤ k ∧ ∃ (x7_1 : List Int) (x8q2_1 : Int) (i2 : Abs.Id) (pv2 : PV), spec_l19Around.l1 n x7_1 x8q2_1 l0_0 l0_1 l1 l2 = some r ∧ Has tm [(1, v1), (2, v2), (3, .ptr i2 0), (7, pv2), (8, .lit (.int .i64 x8q2_1))] ∧ Box (.ptr i2 0) [v0_0, v0_1] S ∧ Vec (cInt .i64) x7_1 pv2 S ∧ Ap (.ptr i2 0) pv2) ?_ ?_ ?_)
 · exact ⟨Nat.le_refl _, _, _, _, _, H, ⟨rfl, rfl, rfl, rfl, rfl, trivial⟩, h3, h2, ap1⟩
 ·
  rintro tm S ⟨_, _, _, _, _, H, -⟩
  simp [spec_l19Around.l1] at H
 ·
  rintro n1 ih1 tm S ⟨hle, x7_1, x8q2_1, i2, pv2, H, hh, h4, h5, ap2⟩
  simp only [spec_l19Around.l1] at H
  rw [hh.eq]
  refine Evr.seq (Evr.sr rfl (Opl.p1 (n := Opl.p1 (n := Opl.len (xs := l1) (by exact hv1) K27 rfl rfl rfl rfl (Opl.p1 (n := Opl.nil ?_))))))
  by_cases c1 : x8q2_1 < (l1.length : Int)
  case neg =>
   rw [if_neg c1] at H
   have e4 : (decide (x8q2_1 < (l1.length : Int))) = false := by simpa using c1
   try rw [e4]
   refine Evr.condF rfl (Evr.exit rfl (Evr.sr rfl (Opl.p1 (n := Opl.p1 (n := Opl.nil ?_)))))
   obtain rfl := sinj H
   refine Evr.ret1 Try.func77 rfl ?_
   show Vec _ _ pv2 _
   exact h5
  rw [if_pos c1] at H
  have e1 : (decide (x8q2_1 < (l1.length : Int))) = true := by simpa using c1
  try rw [e1]
  refine Evr.condT rfl (Evr.skip (Evr.seq (Evr.block (Evr.sr rfl (Opl.p1 (n := Opl.p1 (n := Opl.p1 (n := ?_))))))))
  obtain ⟨c2, H⟩ := peel H
  obtain ⟨c3, H⟩ := peel H
  refine Opl.idx (M := (cInt .i64)) (xs := l1) (j := x8q2_1) (0 : Int) (by exact hv1) rfl (by omega) (by omega) K27 Z3 rfl rfl ?_
  rintro p1 q1 h6
  obtain rfl : p1 = [.lit (.int .i64 (rd l1 x8q2_1))] := h6
  refine Opl.lda (.lit (.int .i64 (rd l1 x8q2_1))) rfl T3 rfl rfl rfl rfl ?_
  obtain ⟨r1, h_r1, H⟩ := obs H
  obtain ⟨pv3, h7, -, h8⟩ := Out.vec h5
  refine Opl.callw (spec_l2Has.ev h8 h_r1) rfl rfl rfl (.cons h7 (.cons (.refl _) .nil)) ⟨h8.plain, (.lit _), trivial⟩ (by decide) (Opl.p1 (n := Opl.nil ?_))
  refine Evr.join (fun tm S => ∃ (kq1 : Nat) (x7_2 : List Int) (i3 : Abs.Id) (pv4 : PV), spec_l19Around.l1 kq1 x7_2 (wrap64 (x8q2_1 + 1)) l0_0 l0_1 l1 l2 = some r ∧ kq1 ≤ n1 ∧ Has tm [(1, v1), (2, v2), (3, .ptr i3 0), (7, pv4), (8, .lit (.int .i64 x8q2_1))] ∧ Box (.ptr i3 0) [v0_0, v0_1] S ∧ Vec (cInt .i64) x7_2 pv4 S ∧ Ap (.ptr i3 0) pv4) ?_ fun hk1 => ?_
  ·
   rintro tm S ⟨kq1, x7_2, i3, pv4, H, hle, hh, h9, h10, ap3⟩
   rw [hh.eq]
   refine Evr.inBlock (Evr.regionN rfl (Opl.p1 (n := Opl.add (k := .i64) (a := x8q2_1) (b := 1) K3 rfl rfl rfl rfl (Opl.one (v := .lit (.int .i64 (wrap64 (x8q2_1 + 1)))) rfl rfl rfl (Opl.nil ?_)))))
   exact ih1 _ (by omega) _ _ ⟨by omega, _, _, _, _, H, ⟨rfl, rfl, rfl, rfl, rfl, trivial⟩, h9, h10, ap3⟩
  ·
   by_cases c4 : r1 = true
   case pos =>
    rw [if_pos c4] at H
    have e2 : (!r1) = false := by simpa using c4
    try rw [e2]
    refine Evr.condF rfl (Evr.skip ?_)
    exact hk1 _ _ ⟨_, _, _, _, H, by omega, ⟨rfl, rfl, rfl, rfl, rfl, trivial⟩, h4, h5, ap2⟩
   rw [if_neg c4] at H
   have e3 : (!r1) = true := by simpa using c4
   try rw [e3]
   refine Evr.condT rfl (Evr.seq (Evr.regionD rfl (by kernel_rfl) (Opl.ldb (v := .agg [v0_0, v0_1]) h4 rfl T26 rfl rfl rfl rfl (Opl.ldb (v := .agg [v0_0, v0_1]) h4 rfl T26 rfl rfl rfl rfl (Opl.ldb (v := .agg [v0_0, v0_1]) h4 rfl T26 rfl rfl rfl rfl (Opl.p1 (n := Opl.p1 (n := ?_))))))))
   obtain ⟨c5, H⟩ := peel H
   obtain ⟨c6, H⟩ := peel H
   refine Opl.idx (M := (cInt .i64)) (xs := l1) (j := x8q2_1) (0 : Int) (by exact hv1) rfl (by omega) (by omega) K27 Z3 rfl rfl ?_
   rintro p2 q2 h11
   obtain rfl : p2 = [.lit (.int .i64 (rd l1 x8q2_1))] := h11
   refine Opl.lda (.lit (.int .i64 (rd l1 x8q2_1))) rfl T3 rfl rfl rfl rfl ?_
   obtain ⟨r2, h_r2, H⟩ := obs H
   refine Opl.call ((spec_l4State.ev hv0_0 hv0_1 h_r2).mono fun _ _ h => Out.vec h) rfl rfl rfl rfl ⟨(.aggL ⟨hv0_0.plain, hv0_1.plain, trivial⟩), (.lit _), trivial⟩ (by decide) ?_
   rintro pv5 h12
   obtain ⟨r3, h_r3, H⟩ := obs H
   refine Opl.call ((spec_l6State.ev hv0_0 hv0_1 h12 h_r3).mono fun _ _ h => Out.vec h) rfl rfl rfl rfl ⟨(.aggL ⟨hv0_0.plain, hv0_1.plain, trivial⟩), h12.plain, trivial⟩ (by decide) ?_
   rintro pv6 h13
   refine Opl.p1 (n := ?_)
   obtain ⟨r4, h_r4, H⟩ := obs H
   refine Opl.call ((spec_l16Wide.ev hv0_0 hv0_1 h13 hv2 h_r4).mono fun _ _ h => Out.vec h) rfl rfl rfl rfl ⟨(.aggL ⟨hv0_0.plain, hv0_1.plain, trivial⟩), h13.plain, hv2.plain, trivial⟩ (by decide) ?_
   rintro pv7 h14
   refine Opl.p1 (n := Opl.nil (Evr.regionN rfl (Opl.p1 (n := Opl.ldb (v := .agg [v0_0, v0_1]) h4 rfl T26 rfl rfl rfl rfl (Opl.p1 (n := ?_))))))
   obtain ⟨r5, h_r5, H⟩ := obs H
   refine Opl.call ((spec_l16States.ev hv0_0 hv0_1 h14 h_r5).mono fun _ _ h => Out.vec h) rfl rfl rfl rfl ⟨(.aggL ⟨hv0_0.plain, hv0_1.plain, trivial⟩), h14.plain, trivial⟩ (by decide) ?_
   rintro pv8 h15
   obtain ⟨r6, h_r6, H⟩ := obs H
   obtain ⟨pv9, h16, -, h17⟩ := Out.vec h5
   refine Opl.callav (sInt .i64) (spec_SetEither.ev h17 h15 h_r6) rfl rfl rfl (.cons h16 (.cons (.refl _) .nil)) ⟨h17.plain, h15.plain, trivial⟩ rfl ?_
   rintro pv10 S h18 u3 w3
   have ap4 := w3.box h4
   have h19 := u3.box h4 ap4
   have ap5 := w3.vec h5
   have h20 := u3.vec h5 ap5
   refine Opl.p1 (n := Opl.nil ?_)
   exact hk1 _ _ ⟨_, _, _, _, H, by omega, ⟨rfl, rfl, rfl, rfl, rfl, trivial⟩, h19, h18, ap4⟩
theorem spec_Around.ev {k : Nat} {l0_0 : List IVar} {v0_0 : PV} (hv0_0 : Sl cIVar l0_0 v0_0) {l0_1 : List IRule} {v0_1 : PV} (hv0_1 : Sl cIRule l0_1 v0_1) {l1 : List Int} {v1 : PV} (hv1 : Sl (cInt .i64) l1 v1) {l2 : List Int} {v2 : PV} (hv2 : Sl (cInt .i64) l2 v2) {r : (List Int) × Bool} (H : spec_Around.f k l0_0 l0_1 l1 l2 = some r) : Ret Try.prog 20 [.agg [v0_0, v0_1], v1, v2] fun v S => Out (fun q => ∃ q1 q2, q = .tup [q1, q2] ∧ Sl (cInt .i64) r.1 q1 ∧ q2 = .lit (.bool r.2)) v S := by
 unfold spec_Around.f at H
 refine Ret.intro Try.func20 rfl (Nat.le_of_ble_eq_true rfl) rfl ?_
 rw [tm3]
 refine Evr.sr rfl (Opl.box (cs := [v0_0, v0_1]) rfl rfl rfl rfl ?_)
 rintro i1 S h1 u1 w1
 refine Opl.p1 (n := Opl.p1 (n := Opl.nil (Evr.seq (Evr.sr rfl (Opl.ldb (v := .agg [v0_0, v0_1]) h1 rfl T26 rfl rfl rfl rfl (Opl.p1 (n := ?_)))))))
 obtain ⟨r1, h_r1, H⟩ := obs H
 refine Opl.callc (spec_SetValid.ev hv0_0 hv0_1 hv1 h_r1) rfl rfl rfl rfl ⟨(.aggL ⟨hv0_0.plain, hv0_1.plain, trivial⟩), hv1.plain, trivial⟩ (by decide) (Opl.p1 (n := Opl.p1 (n := ?_)))
 by_cases c1 : r1 = true
 case neg =>
  rw [if_neg c1] at H
  have e6 : (!r1) = true := by simpa using c1
  try rw [e6]
  refine Opl.sk4 rfl rfl rfl rfl (Opl.p1 (n := Opl.p1 (n := Opl.sk4 rfl rfl rfl rfl (Opl.skp rfl (Opl.p1 (n := Opl.nil (Evr.condT rfl (Evr.sr rfl (Opl.p1 (n := Opl.p1 (n := Opl.nil ?_)))))))))))
  obtain rfl := sinj H
  refine Evr.ret2 Try.func20 rfl ?_
  show Out _ (.tup [.lit (.slice none 0 0), .lit (.bool false)]) _
  exact .tup2 (.sl .nil) .lit
 rw [if_pos c1] at H
 have e1 : (!r1) = false := by simpa using c1
 try rw [e1]
 refine Opl.ldb (v := .agg [v0_0, v0_1]) h1 rfl T26 rfl rfl rfl rfl (Opl.p1 (n := ?_))
 obtain ⟨r2, h_r2, H⟩ := obs H
 refine Opl.callc (spec_SetValid.ev hv0_0 hv0_1 hv2 h_r2) rfl rfl rfl rfl ⟨(.aggL ⟨hv0_0.plain, hv0_1.plain, trivial⟩), hv2.plain, trivial⟩ (by decide) (Opl.p1 (n := Opl.p1 (n := Opl.p1 (n := ?_))))
 by_cases c2 : r2 = true
 case neg =>
  rw [if_neg c2] at H
  have e5 : (!r2) = true := by simpa using c2
  try rw [e5]
  refine Opl.sk4 rfl rfl rfl rfl (Opl.skp rfl (Opl.p1 (n := Opl.nil (Evr.condT rfl (Evr.sr rfl (Opl.p1 (n := Opl.p1 (n := Opl.nil ?_))))))))
  obtain rfl := sinj H
  refine Evr.ret2 Try.func20 rfl ?_
  show Out _ (.tup [.lit (.slice none 0 0), .lit (.bool false)]) _
  exact .tup2 (.sl .nil) .lit
 rw [if_pos c2] at H
 have e2 : (!r2) = false := by simpa using c2
 try rw [e2]
 refine Opl.p1 (n := Opl.p1 (n := ?_))
 obtain ⟨r3, h_r3, H⟩ := obs H
 refine Opl.call ((spec_SetBoth.ev hv1 hv2 h_r3).mono fun _ _ h => Out.vec h) rfl rfl rfl rfl ⟨hv1.plain, hv2.plain, trivial⟩ (by decide) ?_
 rintro pv1 h2
 refine Opl.len (xs := r3) (by exact h2) K27 rfl rfl rfl rfl (Opl.p1 (n := Opl.p1 (n := Opl.nil ?_)))
 by_cases c3 : (r3.length : Int) > 0
 case pos =>
  rw [if_pos c3] at H
  have e3 : (decide ((r3.length : Int) > 0)) = true := by simpa using c3
  try rw [e3]
  refine Evr.condT rfl (Evr.sr rfl (Opl.p1 (n := Opl.p1 (n := Opl.nil ?_))))
  obtain rfl := sinj H
  refine Evr.ret2 Try.func20 rfl ?_
  show Out _ (.tup [.lit (.slice none 0 0), .lit (.bool false)]) _
  exact .tup2 (.sl .nil) .lit
 rw [if_neg c3] at H
 have e4 : (decide ((r3.length : Int) > 0)) = false := by simpa using c3
 try rw [e4]
 refine Evr.condF rfl (Evr.skip (Evr.sr rfl (Opl.ldb (v := .agg [v0_0, v0_1]) h1 rfl T26 rfl rfl rfl rfl (Opl.p1 (n := Opl.p1 (n := ?_))))))
 obtain ⟨r4, h_r4, H⟩ := obs H
 refine Opl.call ((spec_l19Around.ev hv0_0 hv0_1 hv1 hv2 h_r4).mono fun _ _ h => Out.vec h) rfl rfl rfl rfl ⟨(.aggL ⟨hv0_0.plain, hv0_1.plain, trivial⟩), hv1.plain, hv2.plain, trivial⟩ (by decide) ?_
 rintro pv2 h3
 refine Opl.p1 (n := Opl.p1 (n := Opl.nil ?_))
 obtain rfl := sinj H
 refine Evr.ret2 Try.func20 rfl ?_
 show Out _ (.tup [pv2, .lit (.bool true)]) _
 exact .tup2 (.sl h3) .lit
theorem spec_SetWithout.ev {k : Nat} {l0 : List Int} {v0 : PV} (hv0 : Sl (cInt .i64) l0 v0) {l1 : List Int} {v1 : PV} (hv1 : Sl (cInt .i64) l1 v1) {r : (List Int)} (H : spec_SetWithout.f k l0 l1 = some r) : Ret Try.prog 53 [v0, v1] fun v S => Vec (cInt .i64) r v S := by
 unfold spec_SetWithout.f at H
 refine Ret.intro Try.func53 rfl (Nat.le_of_ble_eq_true rfl) rfl ?_
 rw [tm2]
 refine Evr.sr rfl (Opl.p1 (n := Opl.nil (Evr.sr rfl (Opl.p1 (n := Opl.p1 (n := ?_))))))
 obtain ⟨r1, h_r1, H⟩ := obs H
 refine Opl.calla (spec_l4Mix.ev hv0 hv1 h_r1) rfl rfl rfl rfl ⟨hv0.plain, hv1.plain, (.lit _), trivial⟩ rfl ?_
 rintro pv1 S h1 u1 w1
 refine Opl.p1 (n := Opl.nil ?_)
 obtain rfl := sinj H
 refine Evr.ret1 Try.func53 rfl ?_
 show Vec _ _ pv1 _
 exact h1
theorem spec_l2Const.ev {a0 : Int} {r : (Int × Int × Int × Int)} (H : spec_l2Const.f a0 = some r) : Ret Try.prog 126 [.lit (.int .i64 a0)] fun v S => Out (fun q => ∃ q1 q2 q3 q4, q = .agg [q1, q2, q3, q4] ∧ q1 = .lit (.int .i64 r.1) ∧ q2 = .lit (.int .i64 r.2.1) ∧ q3 = .lit (.int .i64 r.2.2.1) ∧ q4 = .lit (.int .i64 r.2.2.2)) v S := by
 unfold spec_l2Const.f at H
 refine Ret.intro Try.func126 rfl (Nat.le_of_ble_eq_true rfl) rfl ?_
 rw [tm1]
 refine Evr.sr rfl (Opl.alloc T128 rfl rfl rfl ?_)
 rintro i1 S h1 u1 w1
 refine Opl.nil (Evr.sr rfl (Opl.p1 (n := Opl.p1 (v := .agg [.lit (.int .i64 0), .lit (.int .i64 a0), .lit (.int .i64 0), .lit (.int .i64 0)]) (n := Opl.stb (vs := [.lit (.int .i64 0), .lit (.int .i64 a0), .lit (.int .i64 0), .lit (.int .i64 0)]) h1 rfl rfl Z128 rfl (Nat.le_of_ble_eq_true rfl) rfl rfl rfl rfl ?_))))
 rintro S (h2 : Box (.ptr i1 0) [.lit (.int .i64 0), .lit (.int .i64 a0), .lit (.int .i64 0), .lit (.int .i64 0)] _) u2
 refine Opl.nil ?_
 obtain rfl := sinj H
 refine Evr.retb (v := .agg [.lit (.int .i64 0), .lit (.int .i64 a0), .lit (.int .i64 0), .lit (.int .i64 0)]) Try.func126 rfl h2 rfl T128 rfl ?_
 show Out _ (.agg [.lit (.int .i64 0), .lit (.int .i64 a0), .lit (.int .i64 0), .lit (.int .i64 0)]) _
 exact (.agg4 .lit .lit .lit .lit)
theorem spec_l40Rd_pick.evb {k : Nat} {S0 : Sto} {l0_0 : List Int} {a0_1 : Int} {i0 : Abs.Id} {q0 : PV} (hq0 : Sl (cInt .u8) l0_0 q0) (hb0 : Box (.ptr i0 0) [q0, .lit (.int .i64 a0_1)] S0) {a1 : Int} {r : Int × Int} (H : spec_l40Rd_pick.f k l0_0 a0_1 a1 = some r) : RetS Try.prog 70 [.ptr i0 0, .lit (.int .i64 a1)] S0 fun v S => v = .lit (.int .i64 r.2) ∧ Box (.ptr i0 0) [q0, .lit (.int .i64 r.1)] S ∧ Same S0 S [i0] := by
 have hs0 : Same S0 S0 [i0] := .refl _ _
 unfold spec_l40Rd_pick.f at H
 refine RetS.intro Try.func70 rfl (Nat.le_of_ble_eq_true rfl) rfl ?_
 rw [tm2]
 refine Evr.sr rfl (Opl.p1 (n := Opl.nil (Evr.sr rfl (Opl.p1 (n := Opl.p1 (n := Opl.p1 (v := .ptr i0 0) (n := Opl.p1 (v := .ptr i0 1) (n := Opl.ldb (v := .lit (.int .i64 a0_1)) hb0 rfl T3 rfl rfl rfl rfl (Opl.add (k := .i64) (a := a0_1) (b := 1) K3 rfl rfl rfl rfl (Opl.p1 (v := .ptr i0 0) (n := Opl.p1 (v := .ptr i0 1) (n := Opl.stb (vs := [.lit (.int .i64 (wrap64 (a0_1 + 1)))]) hb0 rfl rfl Z3 rfl (Nat.le_of_ble_eq_true rfl) rfl rfl rfl rfl ?_))))))))))))
 rintro S (h1 : Box (.ptr i0 0) [q0, .lit (.int .i64 (wrap64 (a0_1 + 1)))] _) u1
 have h2 := u1.sameP hs0 OutT.box
 refine Opl.nil (Evr.seq (Evr.sr rfl (Opl.one (v := .lit (.int .i64 a1)) rfl rfl rfl (Opl.p1 (n := Opl.one (v := .lit (.bool (decide (a1 < 1)))) rfl rfl rfl ?_)))))
 by_cases c1 : a1 < 1
 case pos =>
  rw [if_pos c1] at H
  have e1 : (decide (a1 < 1)) = true := by simpa using c1
  try rw [e1]
  refine Opl.sk4 rfl rfl rfl rfl (Opl.sk2 rfl rfl (Opl.p1 (n := Opl.nil (Evr.condT rfl (Evr.sr rfl (Opl.one (v := .lit (.int .i64 0)) rfl rfl rfl (Opl.nil ?_)))))))
  obtain rfl := sinj H
  refine Evr.ret1 Try.func70 rfl ?_
  exact ⟨(by first | rfl | (simp only [go_sem]; rfl)), h1, h2⟩
 rw [if_neg c1] at H
 have e2 : (decide (a1 < 1)) = false := by simpa using c1
 try rw [e2]
 refine Opl.one (v := .ptr i0 0) rfl rfl rfl (Opl.p1 (v := .ptr i0 0) (n := Opl.p1 (v := .ptr i0 0) (n := Opl.ldb (v := q0) h1 rfl T22 rfl rfl rfl rfl (Opl.len (xs := l0_0) (by exact hq0) K22 rfl rfl rfl rfl (Opl.p1 (n := Opl.p1 (n := Opl.nil ?_)))))))
 by_cases c2 : (l0_0.length : Int) = 0
 case pos =>
  rw [if_pos c2] at H
  have e3 : ((l0_0.length : Int) == 0) = true := by simpa using c2
  try rw [e3]
  refine Evr.condT rfl (Evr.sr rfl (Opl.one (v := .lit (.int .i64 0)) rfl rfl rfl (Opl.nil ?_)))
  obtain rfl := sinj H
  refine Evr.ret1 Try.func70 rfl ?_
  exact ⟨(by first | rfl | (simp only [go_sem]; rfl)), h1, h2⟩
 rw [if_neg c2] at H
 have e4 : ((l0_0.length : Int) == 0) = false := by simpa using c2
 try rw [e4]
 refine Evr.condF rfl (Evr.skip (Evr.sr rfl (Opl.one (v := .ptr i0 0) rfl rfl rfl (Opl.p1 (v := .ptr i0 0) (n := Opl.p1 (v := .ptr i0 1) (n := Opl.ldb (v := .lit (.int .i64 (wrap64 (a0_1 + 1)))) h1 rfl T3 rfl rfl rfl rfl (Opl.subi (k := .i64) (a := (wrap64 (a0_1 + 1))) (b := 1) K3 rfl rfl rfl rfl (Opl.one (v := .lit (.int .i64 (wrap64 ((wrap64 (a0_1 + 1)) - 1)))) rfl rfl rfl (Opl.nil (Evr.seq (Evr.sr rfl (Opl.one (v := .lit (.int .i64 (wrap64 ((wrap64 (a0_1 + 1)) - 1)))) rfl rfl rfl (Opl.one (v := .ptr i0 0) rfl rfl rfl (Opl.p1 (v := .ptr i0 0) (n := Opl.p1 (v := .ptr i0 0) (n := Opl.ldb (v := q0) h1 rfl T22 rfl rfl rfl rfl (Opl.len (xs := l0_0) (by exact hq0) K22 rfl rfl rfl rfl (Opl.lss (a := (wrap64 ((wrap64 (a0_1 + 1)) - 1))) (b := (l0_0.length : Int)) K3 rfl rfl rfl rfl (Opl.nil ?_)))))))))))))))))))
 by_cases c3 : (wrap64 ((wrap64 (a0_1 + 1)) - 1)) < (l0_0.length : Int)
 case pos =>
  rw [if_pos c3] at H
  have e5 : (decide ((wrap64 ((wrap64 (a0_1 + 1)) - 1)) < (l0_0.length : Int))) = true := by simpa using c3
  try rw [e5]
  refine Evr.condT rfl (Evr.sr rfl (Opl.one (v := .ptr i0 0) rfl rfl rfl (Opl.p1 (v := .ptr i0 0) (n := Opl.p1 (v := .ptr i0 0) (n := Opl.ldb (v := q0) h1 rfl T22 rfl rfl rfl rfl (Opl.one (v := .lit (.int .i64 (wrap64 ((wrap64 (a0_1 + 1)) - 1)))) rfl rfl rfl ?_))))))
  obtain ⟨c4, H⟩ := peel H
  obtain ⟨c5, H⟩ := peel H
  obtain ⟨c6, H⟩ := peel H
  refine Opl.idx (M := (cInt .u8)) (xs := l0_0) (j := (wrap64 ((wrap64 (a0_1 + 1)) - 1))) (0 : Int) (by exact hq0) rfl (by omega) (by omega) K22 Z5 rfl rfl ?_
  rintro p1 q1 h3
  obtain rfl : p1 = [.lit (.int .u8 (rd l0_0 (wrap64 ((wrap64 (a0_1 + 1)) - 1))))] := h3
  refine Opl.lda (.lit (.int .u8 (rd l0_0 (wrap64 ((wrap64 (a0_1 + 1)) - 1))))) rfl T5 rfl rfl rfl rfl (Opl.p1 (v := .lit (.int .i64 (wrap64 (rd l0_0 (wrap64 ((wrap64 (a0_1 + 1)) - 1)))))) (n := Opl.one (v := .lit (.int .i64 a1)) rfl rfl rfl (Opl.one (v := .lit (.int .i64 (Int.tmod (wrap64 (rd l0_0 (wrap64 ((wrap64 (a0_1 + 1)) - 1)))) a1))) rfl rfl (by simp only [go_sem]; rw [if_neg (by first | assumption | decide | omega)]; rfl) (Opl.one (v := .lit (.int .i64 (Int.tmod (wrap64 (rd l0_0 (wrap64 ((wrap64 (a0_1 + 1)) - 1)))) a1))) rfl rfl rfl (Opl.nil ?_)))))
  obtain rfl := sinj H
  refine Evr.ret1 Try.func70 rfl ?_
  exact ⟨(by first | rfl | (simp only [go_sem]; rfl)), h1, h2⟩
 rw [if_neg c3] at H
 have e6 : (decide ((wrap64 ((wrap64 (a0_1 + 1)) - 1)) < (l0_0.length : Int))) = false := by simpa using c3
 try rw [e6]
 refine Evr.condF rfl (Evr.skip (Evr.seq (Evr.regionD rfl (by kernel_rfl) (Opl.one (v := .ptr i0 0) rfl rfl rfl (Opl.p1 (v := .ptr i0 0) (n := Opl.p1 (v := .ptr i0 0) (n := Opl.ldb (v := q0) h1 rfl T22 rfl rfl rfl rfl (Opl.one (v := .lit (.int .i64 (wrap64 ((wrap64 (a0_1 + 1)) - 1)))) rfl rfl rfl (Opl.one (v := .ptr i0 0) rfl rfl rfl (Opl.p1 (v := .ptr i0 0) (n := Opl.p1 (v := .ptr i0 0) (n := Opl.ldb (v := q0) h1 rfl T22 rfl rfl rfl rfl (Opl.len (xs := l0_0) (by exact hq0) K22 rfl rfl rfl rfl ?_)))))))))))))
 obtain ⟨c7, H⟩ := peel H
 obtain ⟨c8, H⟩ := peel H
 obtain ⟨c9, H⟩ := peel H
 obtain ⟨c10, H⟩ := peel H
 obtain ⟨c11, H⟩ := peel H
 obtain ⟨c12, H⟩ := peel H
 obtain ⟨c13, H⟩ := peel H
 obtain ⟨c14, H⟩ := peel H
 refine Opl.one (v := .lit (.int .i64 (Int.tmod (wrap64 ((wrap64 (a0_1 + 1)) - 1)) (l0_0.length : Int)))) rfl rfl (by simp only [go_sem]; rw [if_neg (by first | assumption | decide | omega)]; rfl) (Opl.idx (M := (cInt .u8)) (xs := l0_0) (j := (Int.tmod (wrap64 ((wrap64 (a0_1 + 1)) - 1)) (l0_0.length : Int))) (0 : Int) (by exact hq0) rfl (by omega) (by omega) K22 Z5 rfl rfl ?_)
 rintro p2 q2 h4
 obtain rfl : p2 = [.lit (.int .u8 (rd l0_0 (Int.tmod (wrap64 ((wrap64 (a0_1 + 1)) - 1)) (l0_0.length : Int))))] := h4
 refine Opl.lda (.lit (.int .u8 (rd l0_0 (Int.tmod (wrap64 ((wrap64 (a0_1 + 1)) - 1)) (l0_0.length : Int))))) rfl T5 rfl rfl rfl rfl (Opl.p1 (v := .lit (.int .i64 (wrap64 (rd l0_0 (Int.tmod (wrap64 ((wrap64 (a0_1 + 1)) - 1)) (l0_0.length : Int)))))) (n := Opl.mul (k := .i64) (a := wrap64 (rd l0_0 (Int.tmod (wrap64 ((wrap64 (a0_1 + 1)) - 1)) (l0_0.length : Int)))) (b := 131) K3 rfl rfl rfl rfl (Opl.one (v := .ptr i0 0) rfl rfl rfl (Opl.p1 (v := .ptr i0 0) (n := Opl.p1 (v := .ptr i0 0) (n := Opl.ldb (v := q0) h1 rfl T22 rfl rfl rfl rfl (Opl.one (v := .lit (.int .i64 (wrap64 ((wrap64 (a0_1 + 1)) - 1)))) rfl rfl rfl (Opl.mul (k := .i64) (a := (wrap64 ((wrap64 (a0_1 + 1)) - 1))) (b := 7) K3 rfl rfl rfl rfl (Opl.add (k := .i64) (a := (wrap64 ((wrap64 ((wrap64 (a0_1 + 1)) - 1)) * 7))) (b := 3) K3 rfl rfl rfl rfl (Opl.one (v := .ptr i0 0) rfl rfl rfl (Opl.p1 (v := .ptr i0 0) (n := Opl.p1 (v := .ptr i0 0) (n := Opl.ldb (v := q0) h1 rfl T22 rfl rfl rfl rfl (Opl.len (xs := l0_0) (by exact hq0) K22 rfl rfl rfl rfl (Opl.one (v := .lit (.int .i64 (Int.tmod (wrap64 ((wrap64 ((wrap64 ((wrap64 (a0_1 + 1)) - 1)) * 7)) + 3)) (l0_0.length : Int)))) rfl rfl (by simp only [go_sem]; rw [if_neg (by first | assumption | decide | omega)]; rfl) (Opl.idx (M := (cInt .u8)) (xs := l0_0) (j := (Int.tmod (wrap64 ((wrap64 ((wrap64 ((wrap64 (a0_1 + 1)) - 1)) * 7)) + 3)) (l0_0.length : Int))) (0 : Int) (by exact hq0) rfl (by omega) (by omega) K22 Z5 rfl rfl ?_))))))))))))))))
 rintro p3 q3 h5
 obtain rfl : p3 = [.lit (.int .u8 (rd l0_0 (Int.tmod (wrap64 ((wrap64 ((wrap64 ((wrap64 (a0_1 + 1)) - 1)) * 7)) + 3)) (l0_0.length : Int))))] := h5
 refine Opl.lda (.lit (.int .u8 (rd l0_0 (Int.tmod (wrap64 ((wrap64 ((wrap64 ((wrap64 (a0_1 + 1)) - 1)) * 7)) + 3)) (l0_0.length : Int))))) rfl T5 rfl rfl rfl rfl (Opl.p1 (v := .lit (.int .i64 (wrap64 (rd l0_0 (Int.tmod (wrap64 ((wrap64 ((wrap64 ((wrap64 (a0_1 + 1)) - 1)) * 7)) + 3)) (l0_0.length : Int)))))) (n := Opl.mul (k := .i64) (a := wrap64 (rd l0_0 (Int.tmod (wrap64 ((wrap64 ((wrap64 ((wrap64 (a0_1 + 1)) - 1)) * 7)) + 3)) (l0_0.length : Int)))) (b := 1117) K3 rfl rfl rfl rfl (Opl.add (k := .i64) (a := (wrap64 ((wrap64 (rd l0_0 (Int.tmod (wrap64 ((wrap64 (a0_1 + 1)) - 1)) (l0_0.length : Int)))) * 131))) (b := (wrap64 ((wrap64 (rd l0_0 (Int.tmod (wrap64 ((wrap64 ((wrap64 ((wrap64 (a0_1 + 1)) - 1)) * 7)) + 3)) (l0_0.length : Int)))) * 1117))) K3 rfl rfl rfl rfl (Opl.one (v := .lit (.int .i64 (wrap64 ((wrap64 (a0_1 + 1)) - 1)))) rfl rfl rfl (Opl.mul (k := .i64) (a := (wrap64 ((wrap64 (a0_1 + 1)) - 1))) (b := 29) K3 rfl rfl rfl rfl (Opl.add (k := .i64) (a := (wrap64 ((wrap64 ((wrap64 (rd l0_0 (Int.tmod (wrap64 ((wrap64 (a0_1 + 1)) - 1)) (l0_0.length : Int)))) * 131)) + (wrap64 ((wrap64 (rd l0_0 (Int.tmod (wrap64 ((wrap64 ((wrap64 ((wrap64 (a0_1 + 1)) - 1)) * 7)) + 3)) (l0_0.length : Int)))) * 1117))))) (b := (wrap64 ((wrap64 ((wrap64 (a0_1 + 1)) - 1)) * 29))) K3 rfl rfl rfl rfl (Opl.one (v := .lit (.int .i64 (wrap64 ((wrap64 (a0_1 + 1)) - 1)))) rfl rfl rfl (Opl.one (v := .ptr i0 0) rfl rfl rfl (Opl.p1 (v := .ptr i0 0) (n := Opl.p1 (v := .ptr i0 0) (n := Opl.ldb (v := q0) h1 rfl T22 rfl rfl rfl rfl (Opl.len (xs := l0_0) (by exact hq0) K22 rfl rfl rfl rfl (Opl.one (v := .lit (.int .i64 (wrap64 (Int.tdiv (wrap64 ((wrap64 (a0_1 + 1)) - 1)) (l0_0.length : Int))))) rfl rfl (by simp only [go_sem]; rw [if_neg (by first | assumption | decide | omega)]; rfl) (Opl.mul (k := .i64) (a := (wrap64 (Int.tdiv (wrap64 ((wrap64 (a0_1 + 1)) - 1)) (l0_0.length : Int)))) (b := 53) K3 rfl rfl rfl rfl (Opl.add (k := .i64) (a := (wrap64 ((wrap64 ((wrap64 ((wrap64 (rd l0_0 (Int.tmod (wrap64 ((wrap64 (a0_1 + 1)) - 1)) (l0_0.length : Int)))) * 131)) + (wrap64 ((wrap64 (rd l0_0 (Int.tmod (wrap64 ((wrap64 ((wrap64 ((wrap64 (a0_1 + 1)) - 1)) * 7)) + 3)) (l0_0.length : Int)))) * 1117)))) + (wrap64 ((wrap64 ((wrap64 (a0_1 + 1)) - 1)) * 29))))) (b := (wrap64 ((wrap64 (Int.tdiv (wrap64 ((wrap64 (a0_1 + 1)) - 1)) (l0_0.length : Int))) * 53))) K3 rfl rfl rfl rfl (Opl.one (v := .lit (.int .i64 (wrap64 ((wrap64 ((wrap64 ((wrap64 ((wrap64 (rd l0_0 (Int.tmod (wrap64 ((wrap64 (a0_1 + 1)) - 1)) (l0_0.length : Int)))) * 131)) + (wrap64 ((wrap64 (rd l0_0 (Int.tmod (wrap64 ((wrap64 ((wrap64 ((wrap64 (a0_1 + 1)) - 1)) * 7)) + 3)) (l0_0.length : Int)))) * 1117)))) + (wrap64 ((wrap64 ((wrap64 (a0_1 + 1)) - 1)) * 29)))) + (wrap64 ((wrap64 (Int.tdiv (wrap64 ((wrap64 (a0_1 + 1)) - 1)) (l0_0.length : Int))) * 53)))))) rfl rfl rfl (Opl.nil (Evr.sr rfl (Opl.one (v := .lit (.int .i64 (wrap64 ((wrap64 ((wrap64 ((wrap64 ((wrap64 (rd l0_0 (Int.tmod (wrap64 ((wrap64 (a0_1 + 1)) - 1)) (l0_0.length : Int)))) * 131)) + (wrap64 ((wrap64 (rd l0_0 (Int.tmod (wrap64 ((wrap64 ((wrap64 ((wrap64 (a0_1 + 1)) - 1)) * 7)) + 3)) (l0_0.length : Int)))) * 1117)))) + (wrap64 ((wrap64 ((wrap64 (a0_1 + 1)) - 1)) * 29)))) + (wrap64 ((wrap64 (Int.tdiv (wrap64 ((wrap64 (a0_1 + 1)) - 1)) (l0_0.length : Int))) * 53)))))) rfl rfl rfl (Opl.one (v := .lit (.int .i64 (wrap64 ((wrap64 ((wrap64 ((wrap64 ((wrap64 (rd l0_0 (Int.tmod (wrap64 ((wrap64 (a0_1 + 1)) - 1)) (l0_0.length : Int)))) * 131)) + (wrap64 ((wrap64 (rd l0_0 (Int.tmod (wrap64 ((wrap64 ((wrap64 ((wrap64 (a0_1 + 1)) - 1)) * 7)) + 3)) (l0_0.length : Int)))) * 1117)))) + (wrap64 ((wrap64 ((wrap64 (a0_1 + 1)) - 1)) * 29)))) + (wrap64 ((wrap64 (Int.tdiv (wrap64 ((wrap64 (a0_1 + 1)) - 1)) (l0_0.length : Int))) * 53)))))) rfl rfl rfl (Opl.one (v := .lit (.int .i64 (wrap64 (Int.tdiv (wrap64 ((wrap64 ((wrap64 ((wrap64 ((wrap64 (rd l0_0 (Int.tmod (wrap64 ((wrap64 (a0_1 + 1)) - 1)) (l0_0.length : Int)))) * 131)) + (wrap64 ((wrap64 (rd l0_0 (Int.tmod (wrap64 ((wrap64 ((wrap64 ((wrap64 (a0_1 + 1)) - 1)) * 7)) + 3)) (l0_0.length : Int)))) * 1117)))) + (wrap64 ((wrap64 ((wrap64 (a0_1 + 1)) - 1)) * 29)))) + (wrap64 ((wrap64 (Int.tdiv (wrap64 ((wrap64 (a0_1 + 1)) - 1)) (l0_0.length : Int))) * 53)))) 64)))) rfl rfl (by simp only [go_sem]; rw [if_neg (by first | assumption | decide | omega)]; rfl) (Opl.one (v := .lit (.int .i64 (Go.bits .xor .i64 (wrap64 ((wrap64 ((wrap64 ((wrap64 ((wrap64 (rd l0_0 (Int.tmod (wrap64 ((wrap64 (a0_1 + 1)) - 1)) (l0_0.length : Int)))) * 131)) + (wrap64 ((wrap64 (rd l0_0 (Int.tmod (wrap64 ((wrap64 ((wrap64 ((wrap64 (a0_1 + 1)) - 1)) * 7)) + 3)) (l0_0.length : Int)))) * 1117)))) + (wrap64 ((wrap64 ((wrap64 (a0_1 + 1)) - 1)) * 29)))) + (wrap64 ((wrap64 (Int.tdiv (wrap64 ((wrap64 (a0_1 + 1)) - 1)) (l0_0.length : Int))) * 53)))) (wrap64 (Int.tdiv (wrap64 ((wrap64 ((wrap64 ((wrap64 ((wrap64 (rd l0_0 (Int.tmod (wrap64 ((wrap64 (a0_1 + 1)) - 1)) (l0_0.length : Int)))) * 131)) + (wrap64 ((wrap64 (rd l0_0 (Int.tmod (wrap64 ((wrap64 ((wrap64 ((wrap64 (a0_1 + 1)) - 1)) * 7)) + 3)) (l0_0.length : Int)))) * 1117)))) + (wrap64 ((wrap64 ((wrap64 (a0_1 + 1)) - 1)) * 29)))) + (wrap64 ((wrap64 (Int.tdiv (wrap64 ((wrap64 (a0_1 + 1)) - 1)) (l0_0.length : Int))) * 53)))) 64))))) rfl rfl (by simp only [go_sem]; simp only [Go.bits, w64]; rfl) (Opl.one (v := .lit (.int .i64 (Go.bits .xor .i64 (wrap64 ((wrap64 ((wrap64 ((wrap64 ((wrap64 (rd l0_0 (Int.tmod (wrap64 ((wrap64 (a0_1 + 1)) - 1)) (l0_0.length : Int)))) * 131)) + (wrap64 ((wrap64 (rd l0_0 (Int.tmod (wrap64 ((wrap64 ((wrap64 ((wrap64 (a0_1 + 1)) - 1)) * 7)) + 3)) (l0_0.length : Int)))) * 1117)))) + (wrap64 ((wrap64 ((wrap64 (a0_1 + 1)) - 1)) * 29)))) + (wrap64 ((wrap64 (Int.tdiv (wrap64 ((wrap64 (a0_1 + 1)) - 1)) (l0_0.length : Int))) * 53)))) (wrap64 (Int.tdiv (wrap64 ((wrap64 ((wrap64 ((wrap64 ((wrap64 (rd l0_0 (Int.tmod (wrap64 ((wrap64 (a0_1 + 1)) - 1)) (l0_0.length : Int)))) * 131)) + (wrap64 ((wrap64 (rd l0_0 (Int.tmod (wrap64 ((wrap64 ((wrap64 ((wrap64 (a0_1 + 1)) - 1)) * 7)) + 3)) (l0_0.length : Int)))) * 1117)))) + (wrap64 ((wrap64 ((wrap64 (a0_1 + 1)) - 1)) * 29)))) + (wrap64 ((wrap64 (Int.tdiv (wrap64 ((wrap64 (a0_1 + 1)) - 1)) (l0_0.length : Int))) * 53)))) 64))))) rfl rfl rfl (Opl.nil (Evr.sr rfl (Opl.one (v := .lit (.int .i64 (Go.bits .xor .i64 (wrap64 ((wrap64 ((wrap64 ((wrap64 ((wrap64 (rd l0_0 (Int.tmod (wrap64 ((wrap64 (a0_1 + 1)) - 1)) (l0_0.length : Int)))) * 131)) + (wrap64 ((wrap64 (rd l0_0 (Int.tmod (wrap64 ((wrap64 ((wrap64 ((wrap64 (a0_1 + 1)) - 1)) * 7)) + 3)) (l0_0.length : Int)))) * 1117)))) + (wrap64 ((wrap64 ((wrap64 (a0_1 + 1)) - 1)) * 29)))) + (wrap64 ((wrap64 (Int.tdiv (wrap64 ((wrap64 (a0_1 + 1)) - 1)) (l0_0.length : Int))) * 53)))) (wrap64 (Int.tdiv (wrap64 ((wrap64 ((wrap64 ((wrap64 ((wrap64 (rd l0_0 (Int.tmod (wrap64 ((wrap64 (a0_1 + 1)) - 1)) (l0_0.length : Int)))) * 131)) + (wrap64 ((wrap64 (rd l0_0 (Int.tmod (wrap64 ((wrap64 ((wrap64 ((wrap64 (a0_1 + 1)) - 1)) * 7)) + 3)) (l0_0.length : Int)))) * 1117)))) + (wrap64 ((wrap64 ((wrap64 (a0_1 + 1)) - 1)) * 29)))) + (wrap64 ((wrap64 (Int.tdiv (wrap64 ((wrap64 (a0_1 + 1)) - 1)) (l0_0.length : Int))) * 53)))) 64))))) rfl rfl rfl (Opl.one (v := .lit (.int .i64 a1)) rfl rfl rfl (Opl.one (v := .lit (.int .i64 (Int.tmod (Go.bits .xor .i64 (wrap64 ((wrap64 ((wrap64 ((wrap64 ((wrap64 (rd l0_0 (Int.tmod (wrap64 ((wrap64 (a0_1 + 1)) - 1)) (l0_0.length : Int)))) * 131)) + (wrap64 ((wrap64 (rd l0_0 (Int.tmod (wrap64 ((wrap64 ((wrap64 ((wrap64 (a0_1 + 1)) - 1)) * 7)) + 3)) (l0_0.length : Int)))) * 1117)))) + (wrap64 ((wrap64 ((wrap64 (a0_1 + 1)) - 1)) * 29)))) + (wrap64 ((wrap64 (Int.tdiv (wrap64 ((wrap64 (a0_1 + 1)) - 1)) (l0_0.length : Int))) * 53)))) (wrap64 (Int.tdiv (wrap64 ((wrap64 ((wrap64 ((wrap64 ((wrap64 (rd l0_0 (Int.tmod (wrap64 ((wrap64 (a0_1 + 1)) - 1)) (l0_0.length : Int)))) * 131)) + (wrap64 ((wrap64 (rd l0_0 (Int.tmod (wrap64 ((wrap64 ((wrap64 ((wrap64 (a0_1 + 1)) - 1)) * 7)) + 3)) (l0_0.length : Int)))) * 1117)))) + (wrap64 ((wrap64 ((wrap64 (a0_1 + 1)) - 1)) * 29)))) + (wrap64 ((wrap64 (Int.tdiv (wrap64 ((wrap64 (a0_1 + 1)) - 1)) (l0_0.length : Int))) * 53)))) 64))) a1))) rfl rfl (by simp only [go_sem]; rw [if_neg (by first | assumption | decide | omega)]; rfl) (Opl.one (v := .lit (.int .i64 (Int.tmod (Go.bits .xor .i64 (wrap64 ((wrap64 ((wrap64 ((wrap64 ((wrap64 (rd l0_0 (Int.tmod (wrap64 ((wrap64 (a0_1 + 1)) - 1)) (l0_0.length : Int)))) * 131)) + (wrap64 ((wrap64 (rd l0_0 (Int.tmod (wrap64 ((wrap64 ((wrap64 ((wrap64 (a0_1 + 1)) - 1)) * 7)) + 3)) (l0_0.length : Int)))) * 1117)))) + (wrap64 ((wrap64 ((wrap64 (a0_1 + 1)) - 1)) * 29)))) + (wrap64 ((wrap64 (Int.tdiv (wrap64 ((wrap64 (a0_1 + 1)) - 1)) (l0_0.length : Int))) * 53)))) (wrap64 (Int.tdiv (wrap64 ((wrap64 ((wrap64 ((wrap64 ((wrap64 (rd l0_0 (Int.tmod (wrap64 ((wrap64 (a0_1 + 1)) - 1)) (l0_0.length : Int)))) * 131)) + (wrap64 ((wrap64 (rd l0_0 (Int.tmod (wrap64 ((wrap64 ((wrap64 ((wrap64 (a0_1 + 1)) - 1)) * 7)) + 3)) (l0_0.length : Int)))) * 1117)))) + (wrap64 ((wrap64 ((wrap64 (a0_1 + 1)) - 1)) * 29)))) + (wrap64 ((wrap64 (Int.tdiv (wrap64 ((wrap64 (a0_1 + 1)) - 1)) (l0_0.length : Int))) * 53)))) 64))) a1))) rfl rfl rfl (Opl.nil ?_))))))))))))))))))))))))))))))
 obtain rfl := sinj H
 refine Evr.ret1 Try.func70 rfl ?_
 exact ⟨(by first | rfl | (simp only [go_sem]; rfl)), h1, h2⟩
theorem spec_l40Rd_num.evb {k : Nat} {S0 : Sto} {l0_0 : List Int} {a0_1 : Int} {i0 : Abs.Id} {q0 : PV} (hq0 : Sl (cInt .u8) l0_0 q0) (hb0 : Box (.ptr i0 0) [q0, .lit (.int .i64 a0_1)] S0) {l1 : List Int} {v1 : PV} (hv1 : Sl (cInt .i64) l1 v1) {r : Int × Int} (H : spec_l40Rd_num.f k l0_0 a0_1 l1 = some r) : RetS Try.prog 115 [.ptr i0 0, v1] S0 fun v S => v = .lit (.int .i64 r.2) ∧ Box (.ptr i0 0) [q0, .lit (.int .i64 r.1)] S ∧ Same S0 S [i0] := by
 have hs0 : Same S0 S0 [i0] := .refl _ _
 unfold spec_l40Rd_num.f at H
 refine RetS.intro Try.func115 rfl (Nat.le_of_ble_eq_true rfl) rfl ?_
 rw [tm2]
 refine Evr.sr rfl (Opl.p1 (n := Opl.nil (Evr.sr rfl (Opl.p1 (n := Opl.p1 (n := Opl.p1 (n := Opl.len (xs := l1) (by exact hv1) K27 rfl rfl rfl rfl ?_)))))))
 obtain ⟨r1, h_r1, H⟩ := obs H
 refine Opl.calls (spec_l40Rd_pick.evb hq0 hb0 h_r1) rfl rfl rfl rfl rfl ?_
 rintro _ S ⟨rfl, h1, u1⟩
 have h2 := u1.sameP hs0 OutT.box
 obtain ⟨c1, H⟩ := peel H
 obtain ⟨c2, H⟩ := peel H
 refine Opl.idx (M := (cInt .i64)) (xs := l1) (j := r1.2) (0 : Int) (by exact hv1) rfl (by omega) (by omega) K27 Z3 rfl rfl ?_
 rintro p1 q1 h3
 obtain rfl : p1 = [.lit (.int .i64 (rd l1 r1.2))] := h3
 refine Opl.lda (.lit (.int .i64 (rd l1 r1.2))) rfl T3 rfl rfl rfl rfl (Opl.p1 (n := Opl.nil ?_))
 obtain rfl := sinj H
 refine Evr.ret1 Try.func115 rfl ?_
 exact ⟨(by first | rfl | (simp only [go_sem]; rfl)), h1, h2⟩
theorem spec_l1Number.evb {k : Nat} {S0 : Sto} {l0_0 : List Int} {a0_1 : Int} {i0 : Abs.Id} {q0 : PV} (hq0 : Sl (cInt .u8) l0_0 q0) (hb0 : Box (.ptr i0 0) [q0, .lit (.int .i64 a0_1)] S0) {r : Int × Int} (H : spec_l1Number.f k l0_0 a0_1 = some r) : RetS Try.prog 164 [.ptr i0 0] S0 fun v S => v = .lit (.int .i64 r.2) ∧ Box (.ptr i0 0) [q0, .lit (.int .i64 r.1)] S ∧ Same S0 S [i0] := by
 have hs0 : Same S0 S0 [i0] := .refl _ _
 unfold spec_l1Number.f at H
 refine RetS.intro Try.func164 rfl (Nat.le_of_ble_eq_true rfl) rfl ?_
 rw [tm1]
 refine Evr.sr rfl (Opl.p1 (n := Opl.nil (Evr.sr rfl (Opl.p1 (n := Opl.p1 (n := ?_))))))
 obtain ⟨r1, h_r1, H⟩ := obs H
 refine Opl.calls (spec_l40Rd_pick.evb hq0 hb0 h_r1) rfl rfl rfl rfl rfl ?_
 rintro _ S ⟨rfl, h1, u1⟩
 have h2 := u1.sameP hs0 OutT.box
 refine Opl.p1 (n := ?_)
 obtain ⟨r2, h_r2, H⟩ := obs H
 refine Opl.calls (spec_l40Rd_pick.evb hq0 h1 h_r2) rfl rfl rfl rfl rfl ?_
 rintro _ S ⟨rfl, h3, u2⟩
 have h4 := u2.sameP h2 OutT.box
 refine Opl.p1 (n := ?_)
 obtain ⟨r3, h_r3, H⟩ := obs H
 refine Opl.calls (spec_l40Rd_pick.evb hq0 h3 h_r3) rfl rfl rfl rfl rfl ?_
 rintro _ S ⟨rfl, h5, u3⟩
 have h6 := u3.sameP h4 OutT.box
 refine Opl.subi (k := .i64) (a := r3.2) (b := 3) K3 rfl rfl rfl rfl (Opl.one (v := .ptr i0 0) rfl rfl rfl ?_)
 obtain ⟨r4, h_r4, H⟩ := obs H
 refine Opl.calls (spec_l40Rd_pick.evb hq0 h5 h_r4) rfl rfl rfl rfl rfl ?_
 rintro _ S ⟨rfl, h7, u4⟩
 have h8 := u4.sameP h6 OutT.box
 refine Opl.subi (k := .i64) (a := r4.2) (b := 100) K3 rfl rfl rfl rfl (Opl.lits (M := (cInt .i64)) (ys := [9999, (-9999), 5000, 100]) [.const (.int .i64 9999), .const (.int .i64 (-9999)), .const (.int .i64 5000), .const (.int .i64 100)] K27 T3 rfl rfl rfl (by exact ⟨rfl, rfl, rfl, rfl, trivial⟩) rfl (by decide) rfl rfl rfl ?_)
 rintro pv1 S h9 u5 w1
 have ap1 := w1.sameP h8
 have h10 := u5.sameP h8 ap1
 have ap2 := w1.box h7
 have h11 := u5.box h7 ap2
 refine Opl.one (v := .ptr i0 0) rfl rfl rfl ?_
 obtain ⟨r5, h_r5, H⟩ := obs H
 refine Opl.calls (spec_l40Rd_pick.evb hq0 h11 h_r5) rfl rfl rfl rfl rfl ?_
 rintro _ S ⟨rfl, h12, u6⟩
 have h13 := u6.sameP h10 OutT.box
 have h14 := u6.vec h9 (ap2.symm).pt
 obtain ⟨c1, H⟩ := peel H
 obtain ⟨c2, H⟩ := peel H
 refine Opl.idv (M := (cInt .i64)) (xs := [9999, (-9999), 5000, 100]) (j := r5.2) (v := pv1) h14 rfl rfl (by omega) (by omega) K27 Z3 rfl rfl ?_
 rintro d1 z1 q1 h15 h16
 refine Opl.ldv (M := (cInt .i64)) (xs := [9999, (-9999), 5000, 100]) (j := r5.2) (0 : Int) h15 h16 (by omega) (by omega) rfl T3 rfl rfl rfl ?_
 rintro p1 q2 h17
 obtain rfl : p1 = [.lit (.int .i64 (rd [9999, (-9999), 5000, 100] r5.2))] := h17
 refine ⟨.lit (.int .i64 (rd [9999, (-9999), 5000, 100] r5.2)), rfl, ?_⟩
 refine Opl.liti (M := (cInt .i64)) (ys := [r1.2, r2.2, (wrap64 (r3.2 - 3)), 1, 0, (wrap64 (r4.2 - 100)), (rd [9999, (-9999), 5000, 100] r5.2)]) [.tmp 5, .tmp 7, .tmp 10, .const (.int .i64 1), .const (.int .i64 0), .tmp 13, .tmp 18] K27 T3 rfl rfl rfl (by exact ⟨rfl, rfl, rfl, rfl, rfl, rfl, rfl, trivial⟩) rfl (by decide) rfl rfl ?_
 rintro pv3 h18
 obtain ⟨r6, h_r6, H⟩ := obs H
 refine Opl.calls (spec_l40Rd_num.evb hq0 h12 h18 h_r6) rfl rfl rfl rfl rfl ?_
 rintro _ S ⟨rfl, h19, u7⟩
 have h20 := u7.sameP h13 OutT.box
 have h21 := u7.vec h14 (ap2.symm).pt
 refine Opl.one (v := .lit (.int .i64 r6.2)) rfl rfl rfl (Opl.nil ?_)
 obtain rfl := sinj H
 refine Evr.ret1 Try.func164 rfl ?_
 exact ⟨(by first | rfl | (simp only [go_sem]; rfl)), h19, h20⟩
theorem spec_l1Pick.evv {k : Nat} {S0 : Sto} {l0_0 : List Int} {a0_1 : Int} {i0 : Abs.Id} {q0 : PV} (hq0 : Sl (cInt .u8) l0_0 q0) (hb0 : Box (.ptr i0 0) [q0, .lit (.int .i64 a0_1)] S0) {l1 : List Int} {v1 : PV} (hv1 : Vec (cInt .i64) l1 v1 S0) (pa1 : Ap v1 (.ptr i0 0)) {a2 : Int} {r : Int × Int} (H : spec_l1Pick.f k l0_0 a0_1 l1 a2 = some r) : RetS Try.prog 195 [.ptr i0 0, v1, .lit (.int .i64 a2)] S0 fun v S => v = .lit (.int .i64 r.2) ∧ Box (.ptr i0 0) [q0, .lit (.int .i64 r.1)] S ∧ Same S0 S [i0] := by
 have hs0 : Same S0 S0 [i0] := .refl _ _
 unfold spec_l1Pick.f at H
 refine RetS.intro Try.func195 rfl (Nat.le_of_ble_eq_true rfl) rfl ?_
 rw [tm3]
 refine Evr.sr rfl (Opl.p1 (n := Opl.nil (Evr.sr rfl (Opl.p1 (n := Opl.p1 (n := Opl.lenv (xs := l1) (by exact hv1) K27 rfl rfl rfl rfl ?_))))))
 obtain ⟨r1, h_r1, H⟩ := obs H
 refine Opl.calls (spec_l40Rd_pick.evb hq0 hb0 h_r1) rfl rfl rfl rfl rfl ?_
 rintro _ S ⟨rfl, h1, u1⟩
 have h2 := u1.sameP hs0 OutT.box
 have h3 := u1.vec hv1 (pa1).pt
 refine Opl.p1 (n := Opl.nil (Evr.seq (Evr.sr rfl (Opl.p1 (n := Opl.nil (Evr.block ?_))))))
 refine Evr.loop (Evr.rounds (n := k) (Inv := fun n tm S => n ≤ k ∧ ∃ (x8_1 : Int) (pv1 : PV), spec_l1Pick.l1 n x8_1 l0_0 l1 a2 r1 = some r ∧ Has tm [(0, .ptr i0 0), (1, pv1), (2, .lit (.int .i64 a2)), (7, .lit (.int .i64 r1.2)), (8, .lit (.int .i64 x8_1))] ∧ Box (.ptr i0 0) [q0, .lit (.int .i64 r1.1)] S ∧ Vec (cInt .i64) l1 pv1 S ∧ Same S0 S [i0] ∧ Ap (.ptr i0 0) pv1) ?_ ?_ ?_)
 · exact ⟨Nat.le_refl _, _, _, H, ⟨rfl, rfl, rfl, rfl, rfl, trivial⟩, h1, h3, h2, pa1.symm⟩
 ·
  rintro tm S ⟨_, _, _, H, -⟩
  simp [spec_l1Pick.l1] at H
 ·
  rintro n1 ih1 tm S ⟨hle, x8_1, pv1, H, hh, h4, h5, h6, ap1⟩
  simp only [spec_l1Pick.l1] at H
  rw [hh.eq]
  refine Evr.seq (Evr.sr rfl (Opl.p1 (n := Opl.p1 (n := Opl.lenv (xs := l1) (by exact h5) K27 rfl rfl rfl rfl (Opl.p1 (n := Opl.nil ?_))))))
  by_cases c1 : x8_1 < (l1.length : Int)
  case neg =>
   rw [if_neg c1] at H
   have e4 : (decide (x8_1 < (l1.length : Int))) = false := by simpa using c1
   try rw [e4]
   refine Evr.condF rfl (Evr.exit rfl (Evr.sr rfl (Opl.p1 (n := Opl.nil ?_))))
   obtain rfl := sinj H
   refine Evr.ret1 Try.func195 rfl ?_
   exact ⟨(by first | rfl | (simp only [go_sem]; rfl)), h4, h6⟩
  rw [if_pos c1] at H
  have e1 : (decide (x8_1 < (l1.length : Int))) = true := by simpa using c1
  try rw [e1]
  refine Evr.condT rfl (Evr.skip (Evr.seq (Evr.block (Evr.sr rfl (Opl.p1 (n := Opl.p1 (n := Opl.add (k := .i64) (a := r1.2) (b := x8_1) K3 rfl rfl rfl rfl (Opl.one (v := pv1) rfl rfl rfl (Opl.lenv (xs := l1) (by exact h5) K27 rfl rfl rfl rfl ?_)))))))))
  obtain ⟨c2, H⟩ := peel H
  obtain ⟨c3, H⟩ := peel H
  obtain ⟨c4, H⟩ := peel H
  refine Opl.one (v := .lit (.int .i64 (Int.tmod (wrap64 (r1.2 + x8_1)) (l1.length : Int)))) rfl rfl (by simp only [go_sem]; rw [if_neg (by first | assumption | decide | omega)]; rfl) (Opl.one (v := .lit (.int .i64 (Int.tmod (wrap64 (r1.2 + x8_1)) (l1.length : Int)))) rfl rfl rfl (Opl.nil (Evr.sr rfl (Opl.one (v := pv1) rfl rfl rfl (Opl.one (v := .lit (.int .i64 (Int.tmod (wrap64 (r1.2 + x8_1)) (l1.length : Int)))) rfl rfl rfl (Opl.idv (M := (cInt .i64)) (xs := l1) (j := (Int.tmod (wrap64 (r1.2 + x8_1)) (l1.length : Int))) (v := pv1) h5 rfl rfl (by omega) (by omega) K27 Z3 rfl rfl ?_))))))
  rintro d1 z1 q1 h7 h8
  refine Opl.ldv (M := (cInt .i64)) (xs := l1) (j := (Int.tmod (wrap64 (r1.2 + x8_1)) (l1.length : Int))) (0 : Int) h7 h8 (by omega) (by omega) rfl T3 rfl rfl rfl ?_
  rintro p1 q2 h9
  obtain rfl : p1 = [.lit (.int .i64 (rd l1 (Int.tmod (wrap64 (r1.2 + x8_1)) (l1.length : Int))))] := h9
  refine ⟨.lit (.int .i64 (rd l1 (Int.tmod (wrap64 (r1.2 + x8_1)) (l1.length : Int)))), rfl, ?_⟩
  refine Opl.one (v := .lit (.int .i64 a2)) rfl rfl rfl (Opl.eql (a := (rd l1 (Int.tmod (wrap64 (r1.2 + x8_1)) (l1.length : Int)))) (b := a2) K3 rfl rfl rfl rfl (Opl.nil ?_))
  by_cases c5 : (rd l1 (Int.tmod (wrap64 (r1.2 + x8_1)) (l1.length : Int))) = a2
  case neg =>
   rw [if_neg c5] at H
   have e3 : ((rd l1 (Int.tmod (wrap64 (r1.2 + x8_1)) (l1.length : Int))) == a2) = false := by simpa using c5
   try rw [e3]
   refine Evr.condF rfl (Evr.skip (Evr.inBlock (Evr.regionN rfl (Opl.one (v := .lit (.int .i64 x8_1)) rfl rfl rfl (Opl.add (k := .i64) (a := x8_1) (b := 1) K3 rfl rfl rfl rfl (Opl.one (v := .lit (.int .i64 (wrap64 (x8_1 + 1)))) rfl rfl rfl (Opl.nil ?_)))))))
   exact ih1 _ (by omega) _ _ ⟨by omega, _, _, H, ⟨rfl, rfl, rfl, rfl, rfl, trivial⟩, h4, h5, h6, ap1⟩
  rw [if_pos c5] at H
  have e2 : ((rd l1 (Int.tmod (wrap64 (r1.2 + x8_1)) (l1.length : Int))) == a2) = true := by simpa using c5
  try rw [e2]
  refine Evr.condT rfl (Evr.sr rfl (Opl.one (v := .lit (.int .i64 (Int.tmod (wrap64 (r1.2 + x8_1)) (l1.length : Int)))) rfl rfl rfl (Opl.one (v := .lit (.int .i64 (Int.tmod (wrap64 (r1.2 + x8_1)) (l1.length : Int)))) rfl rfl rfl (Opl.nil ?_))))
  obtain rfl := sinj H
  refine Evr.ret1 Try.func195 rfl ?_
  exact ⟨(by first | rfl | (simp only [go_sem]; rfl)), h4, h6⟩
end Go.Proofs.Ytpjmiaooogephaa.PA
