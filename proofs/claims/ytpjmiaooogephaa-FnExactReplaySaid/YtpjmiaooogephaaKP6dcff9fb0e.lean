/- Walks of Go functions: each is shown to answer as the Lean function beside it tells, under the conditions that its theorem names. -/
import Derived.Test.YtpjmiaooogephaaProg
import Derived.KernelRfl
import Derived.Below
import Derived.Deep.Draws
import Derived.Deep.AppendLies
import Derived.Maps.AppendAt
import Derived.OwnWalk
import Derived.Laws.BytesArg
import Derived.Laws.MakeOwn
import Derived.Laws.OwnMore
import Derived.Deep.OwnRows
import Derived.Tactics
import Derived.Lib.ConvBytes
import Derived.Laws.Slices
import Derived.WalkKit
import Derived.RowKit3
import Derived.Deep.LoopGhost
import Derived.Deep.QuietTactic
import Derived.BigQuiet
import Derived.WideLaws
import Derived.Deep.DeepCutAuto
import Derived.Deep.CutBlock
import Derived.Deep.RegionHeld3
import Derived.Laws.Rows
import Derived.Lib.AppendStr
import Derived.ArgAppend
import Derived.Laws.IdiomCopy
import Derived.OrdersHeld
import Derived.Laws.BitsLemmas
import Derived.RowKit
import Derived.Laws.StructEq
import Derived.Lib.SliceRun
import Derived.WalkSpells
import Derived.ChangeArms
import Derived.ChangeSlices
import Derived.Deep.Slices
import Derived.Attr
import Derived.Laws.Append
import Derived.Laws.AppendOwn
import Derived.Laws.Entries
import Derived.Calls
import Derived.Laws.Sem
import Derived.Test.YtpjmiaooogephaaKPcd9894ec38
namespace Go.Proofs.Ytpjmiaooogephaa.PA
open Go Go.Abs Go.RowKit Go.Proofs Go.Proofs.YtpjmiaooogephaaW.PrintWords Go.Proofs.YtpjmiaooogephaaW.PrintLast Go.Proofs.YtpjmiaooogephaaW.PrintMore
set_option maxRecDepth 100000
set_option maxHeartbeats 4000000
set_option linter.unusedVariables false
set_option linter.unusedSimpArgs false
theorem laws_eqIntS.ev {k : Nat} {l0 : List Int} {v0 : PV} (hv0 : Sl (cInt .i64) l0 v0) {l1 : List Int} {v1 : PV} (hv1 : Sl (cInt .i64) l1 v1) {r : Bool} (H : laws_eqIntS.f k l0 l1 = some r) : Ret Try.prog 39 [v0, v1] fun v S => v = .lit (.bool r) := by
 unfold laws_eqIntS.f at H
 refine Ret.intro Try.func39 rfl (Nat.le_of_ble_eq_true rfl) rfl ?_
 rw [tm2]
 refine Evr.sr rfl (Opl.p1 (n := Opl.nil (Evr.seq (Evr.sr rfl (Opl.p1 (n := Opl.len (xs := l0) (by exact hv0) K27 rfl rfl rfl rfl (Opl.p1 (n := Opl.len (xs := l1) (by exact hv1) K27 rfl rfl rfl rfl (Opl.p1 (n := Opl.nil ?_))))))))))
 by_cases c1 : (l0.length : Int) = (l1.length : Int)
 case neg =>
  rw [if_neg c1] at H
  have e6 : ((l0.length : Int) != (l1.length : Int)) = true := by simpa using c1
  try rw [e6]
  refine Evr.condT rfl (Evr.sr rfl (Opl.p1 (n := Opl.nil ?_)))
  obtain rfl := Option.some.inj H
  refine Evr.ret1 Try.func39 rfl ?_
  show (.lit (.bool false) : PV) = _
  first | rfl | (simp only [go_sem]; rfl)
 rw [if_pos c1] at H
 have e1 : ((l0.length : Int) != (l1.length : Int)) = false := by simpa using c1
 try rw [e1]
 refine Evr.condF rfl (Evr.skip (Evr.seq (Evr.sr rfl (Opl.p1 (n := Opl.nil (Evr.block ?_))))))
 refine Evr.loop (Evr.rounds (n := k) (Inv := fun n tm S => n ≤ k ∧ ∃ (x5_1 : Int), laws_eqIntS.l0 n l0 l1 x5_1 = some r ∧ Has tm [(0, v0), (1, v1), (5, .lit (.int .i64 x5_1))]) ?_ ?_ ?_)
 · exact ⟨Nat.le_refl _, _, H, ⟨rfl, rfl, rfl, trivial⟩⟩
 ·
  rintro tm S ⟨_, _, H, -⟩
  simp [laws_eqIntS.l0] at H
 ·
  rintro n1 ih1 tm S ⟨hle, x5_1, H, hh⟩
  simp only [laws_eqIntS.l0] at H
  rw [hh.eq]
  refine Evr.seq (Evr.sr rfl (Opl.p1 (n := Opl.p1 (n := Opl.len (xs := l0) (by exact hv0) K27 rfl rfl rfl rfl (Opl.p1 (n := Opl.nil ?_))))))
  by_cases c2 : x5_1 < (l0.length : Int)
  case neg =>
   rw [if_neg c2] at H
   have e5 : (decide (x5_1 < (l0.length : Int))) = false := by simpa using c2
   try rw [e5]
   refine Evr.condF rfl (Evr.exit rfl (Evr.sr rfl (Opl.p1 (n := Opl.nil ?_))))
   obtain rfl := Option.some.inj H
   refine Evr.ret1 Try.func39 rfl ?_
   show (.lit (.bool true) : PV) = _
   first | rfl | (simp only [go_sem]; rfl)
  rw [if_pos c2] at H
  have e2 : (decide (x5_1 < (l0.length : Int))) = true := by simpa using c2
  try rw [e2]
  refine Evr.condT rfl (Evr.skip (Evr.seq (Evr.block (Evr.seq (Evr.regionD rfl (by kernel_rfl) (Opl.p1 (n := Opl.p1 (n := ?_))))))))
  obtain ⟨c3, H⟩ := peel H
  obtain ⟨c4, H⟩ := peel H
  refine Opl.idx (M := (cInt .i64)) (xs := l0) (j := x5_1) (0 : Int) (by exact hv0) rfl (by omega) (by omega) K27 Z3 rfl rfl ?_
  rintro p1 q1 h1
  obtain rfl : p1 = [.lit (.int .i64 (rd l0 x5_1))] := h1
  refine Opl.lda (.lit (.int .i64 (rd l0 x5_1))) rfl T3 rfl rfl rfl rfl (Opl.p1 (n := Opl.p1 (n := Opl.idx (M := (cInt .i64)) (xs := l1) (j := x5_1) (0 : Int) (by exact hv1) rfl (by omega) (by omega) K27 Z3 rfl rfl ?_)))
  rintro p2 q2 h2
  obtain rfl : p2 = [.lit (.int .i64 (rd l1 x5_1))] := h2
  refine Opl.lda (.lit (.int .i64 (rd l1 x5_1))) rfl T3 rfl rfl rfl rfl (Opl.p1 (n := Opl.nil ?_))
  by_cases c5 : (rd l0 x5_1) = (rd l1 x5_1)
  case pos =>
   rw [if_pos c5] at H
   have e3 : ((rd l0 x5_1) != (rd l1 x5_1)) = false := by simpa using c5
   try rw [e3]
   refine Evr.condF rfl (Evr.skip (Evr.inBlock (Evr.regionN rfl (Opl.p1 (n := Opl.p1 (n := Opl.p1 (n := Opl.nil ?_)))))))
   exact ih1 _ (by omega) _ _ ⟨by omega, _, H, ⟨rfl, rfl, rfl, trivial⟩⟩
  rw [if_neg c5] at H
  have e4 : ((rd l0 x5_1) != (rd l1 x5_1)) = true := by simpa using c5
  try rw [e4]
  refine Evr.condT rfl (Evr.sr rfl (Opl.p1 (n := Opl.nil ?_)))
  obtain rfl := Option.some.inj H
  refine Evr.ret1 Try.func39 rfl ?_
  show (.lit (.bool false) : PV) = _
  first | rfl | (simp only [go_sem]; rfl)
theorem laws_eqTerm.ev {a0_0 : Int} {a0_1 : Int} {a0_2 : Int} {a0_3 : Int} {a1_0 : Int} {a1_1 : Int} {a1_2 : Int} {a1_3 : Int} {r : Bool} (H : laws_eqTerm.f a0_0 a0_1 a0_2 a0_3 a1_0 a1_1 a1_2 a1_3 = some r) : Ret Try.prog 202 [.agg [.lit (.int .i64 a0_0), .lit (.int .i64 a0_1), .lit (.int .i64 a0_2), .lit (.int .i64 a0_3)], .agg [.lit (.int .i64 a1_0), .lit (.int .i64 a1_1), .lit (.int .i64 a1_2), .lit (.int .i64 a1_3)]] fun v S => v = .lit (.bool r) := by
 unfold laws_eqTerm.f at H
 refine Ret.intro Try.func202 rfl (Nat.le_of_ble_eq_true rfl) rfl ?_
 rw [tm2]
 refine Evr.sr rfl (Opl.box (cs := [.lit (.int .i64 a0_0), .lit (.int .i64 a0_1), .lit (.int .i64 a0_2), .lit (.int .i64 a0_3)]) rfl rfl rfl rfl ?_)
 rintro i1 S h1 u1 w1
 refine Opl.box (cs := [.lit (.int .i64 a1_0), .lit (.int .i64 a1_1), .lit (.int .i64 a1_2), .lit (.int .i64 a1_3)]) rfl rfl rfl rfl ?_
 rintro i2 S h2 u2 w2
 have ap1 := w2.box h1
 have h3 := u2.box h1 ap1
 refine Opl.p1 (n := Opl.nil (Evr.seq (Evr.sr rfl (Opl.p1 (v := .ptr i1 0) (n := Opl.ldb (v := .lit (.int .i64 a0_0)) h3 rfl T3 rfl rfl rfl rfl (Opl.p1 (v := .ptr i2 0) (n := Opl.ldb (v := .lit (.int .i64 a1_0)) h2 rfl T3 rfl rfl rfl rfl (Opl.p1 (n := Opl.nil ?_)))))))))
 by_cases c1 : a0_0 = a1_0
 case neg =>
  rw [if_neg c1] at H
  have e8 : (a0_0 != a1_0) = true := by simpa using c1
  try rw [e8]
  refine Evr.condT rfl (Evr.sr rfl (Opl.p1 (n := Opl.nil ?_)))
  obtain rfl := Option.some.inj H
  refine Evr.ret1 Try.func202 rfl ?_
  show (.lit (.bool false) : PV) = _
  first | rfl | (simp only [go_sem]; rfl)
 rw [if_pos c1] at H
 have e1 : (a0_0 != a1_0) = false := by simpa using c1
 try rw [e1]
 refine Evr.condF rfl (Evr.skip (Evr.seq (Evr.sr rfl (Opl.p1 (v := .ptr i1 1) (n := Opl.ldb (v := .lit (.int .i64 a0_1)) h3 rfl T3 rfl rfl rfl rfl (Opl.p1 (v := .ptr i2 1) (n := Opl.ldb (v := .lit (.int .i64 a1_1)) h2 rfl T3 rfl rfl rfl rfl (Opl.p1 (n := Opl.nil ?_)))))))))
 by_cases c2 : a0_1 = a1_1
 case neg =>
  rw [if_neg c2] at H
  have e7 : (a0_1 != a1_1) = true := by simpa using c2
  try rw [e7]
  refine Evr.condT rfl (Evr.sr rfl (Opl.p1 (n := Opl.nil ?_)))
  obtain rfl := Option.some.inj H
  refine Evr.ret1 Try.func202 rfl ?_
  show (.lit (.bool false) : PV) = _
  first | rfl | (simp only [go_sem]; rfl)
 rw [if_pos c2] at H
 have e2 : (a0_1 != a1_1) = false := by simpa using c2
 try rw [e2]
 refine Evr.condF rfl (Evr.skip (Evr.seq (Evr.sr rfl (Opl.p1 (v := .ptr i1 2) (n := Opl.ldb (v := .lit (.int .i64 a0_2)) h3 rfl T3 rfl rfl rfl rfl (Opl.p1 (v := .ptr i2 2) (n := Opl.ldb (v := .lit (.int .i64 a1_2)) h2 rfl T3 rfl rfl rfl rfl (Opl.p1 (n := Opl.nil ?_)))))))))
 by_cases c3 : a0_2 = a1_2
 case neg =>
  rw [if_neg c3] at H
  have e6 : (a0_2 != a1_2) = true := by simpa using c3
  try rw [e6]
  refine Evr.condT rfl (Evr.sr rfl (Opl.p1 (n := Opl.nil ?_)))
  obtain rfl := Option.some.inj H
  refine Evr.ret1 Try.func202 rfl ?_
  show (.lit (.bool false) : PV) = _
  first | rfl | (simp only [go_sem]; rfl)
 rw [if_pos c3] at H
 have e3 : (a0_2 != a1_2) = false := by simpa using c3
 try rw [e3]
 refine Evr.condF rfl (Evr.skip (Evr.seq (Evr.sr rfl (Opl.p1 (v := .ptr i1 3) (n := Opl.ldb (v := .lit (.int .i64 a0_3)) h3 rfl T3 rfl rfl rfl rfl (Opl.p1 (v := .ptr i2 3) (n := Opl.ldb (v := .lit (.int .i64 a1_3)) h2 rfl T3 rfl rfl rfl rfl (Opl.p1 (n := Opl.nil ?_)))))))))
 by_cases c4 : a0_3 = a1_3
 case neg =>
  rw [if_neg c4] at H
  have e5 : (a0_3 != a1_3) = true := by simpa using c4
  try rw [e5]
  refine Evr.condT rfl (Evr.sr rfl (Opl.p1 (n := Opl.nil ?_)))
  obtain rfl := Option.some.inj H
  refine Evr.ret1 Try.func202 rfl ?_
  show (.lit (.bool false) : PV) = _
  first | rfl | (simp only [go_sem]; rfl)
 rw [if_pos c4] at H
 have e4 : (a0_3 != a1_3) = false := by simpa using c4
 try rw [e4]
 refine Evr.condF rfl (Evr.skip (Evr.sr rfl (Opl.p1 (n := Opl.nil ?_))))
 obtain rfl := Option.some.inj H
 refine Evr.ret1 Try.func202 rfl ?_
 show (.lit (.bool true) : PV) = _
 first | rfl | (simp only [go_sem]; rfl)
theorem laws_eqTermS.ev {k : Nat} {l0 : List ITerm} {v0 : PV} (hv0 : Sl cITerm l0 v0) {l1 : List ITerm} {v1 : PV} (hv1 : Sl cITerm l1 v1) {r : Bool} (H : laws_eqTermS.f k l0 l1 = some r) : Ret Try.prog 193 [v0, v1] fun v S => v = .lit (.bool r) := by
 unfold laws_eqTermS.f at H
 refine Ret.intro Try.func193 rfl (Nat.le_of_ble_eq_true rfl) rfl ?_
 rw [tm2]
 refine Evr.sr rfl (Opl.p1 (n := Opl.nil (Evr.seq (Evr.sr rfl (Opl.p1 (n := Opl.len (xs := l0) (by exact hv0) K66 rfl rfl rfl rfl (Opl.p1 (n := Opl.len (xs := l1) (by exact hv1) K66 rfl rfl rfl rfl (Opl.p1 (n := Opl.nil ?_))))))))))
 by_cases c1 : (l0.length : Int) = (l1.length : Int)
 case neg =>
  rw [if_neg c1] at H
  have e6 : ((l0.length : Int) != (l1.length : Int)) = true := by simpa using c1
  try rw [e6]
  refine Evr.condT rfl (Evr.sr rfl (Opl.p1 (n := Opl.nil ?_)))
  obtain rfl := Option.some.inj H
  refine Evr.ret1 Try.func193 rfl ?_
  show (.lit (.bool false) : PV) = _
  first | rfl | (simp only [go_sem]; rfl)
 rw [if_pos c1] at H
 have e1 : ((l0.length : Int) != (l1.length : Int)) = false := by simpa using c1
 try rw [e1]
 refine Evr.condF rfl (Evr.skip (Evr.seq (Evr.sr rfl (Opl.p1 (n := Opl.nil (Evr.block ?_))))))
 refine Evr.loop (Evr.rounds (n := k) (Inv := fun n tm S => n ≤ k ∧ ∃ (x5_1 : Int), laws_eqTermS.l0 n l0 l1 x5_1 = some r ∧ Has tm [(0, v0), (1, v1), (5, .lit (.int .i64 x5_1))]) ?_ ?_ ?_)
 · exact ⟨Nat.le_refl _, _, H, ⟨rfl, rfl, rfl, trivial⟩⟩
 ·
  rintro tm S ⟨_, _, H, -⟩
  simp [laws_eqTermS.l0] at H
 ·
  rintro n1 ih1 tm S ⟨hle, x5_1, H, hh⟩
  simp only [laws_eqTermS.l0] at H
  rw [hh.eq]
  refine Evr.seq (Evr.sr rfl (Opl.p1 (n := Opl.p1 (n := Opl.len (xs := l0) (by exact hv0) K66 rfl rfl rfl rfl (Opl.p1 (n := Opl.nil ?_))))))
  by_cases c2 : x5_1 < (l0.length : Int)
  case neg =>
   rw [if_neg c2] at H
   have e5 : (decide (x5_1 < (l0.length : Int))) = false := by simpa using c2
   try rw [e5]
   refine Evr.condF rfl (Evr.exit rfl (Evr.sr rfl (Opl.p1 (n := Opl.nil ?_))))
   obtain rfl := Option.some.inj H
   refine Evr.ret1 Try.func193 rfl ?_
   show (.lit (.bool true) : PV) = _
   first | rfl | (simp only [go_sem]; rfl)
  rw [if_pos c2] at H
  have e2 : (decide (x5_1 < (l0.length : Int))) = true := by simpa using c2
  try rw [e2]
  refine Evr.condT rfl (Evr.skip (Evr.seq (Evr.block (Evr.seq (Evr.regionD rfl (by kernel_rfl) (Opl.p1 (n := Opl.p1 (n := ?_))))))))
  obtain ⟨c3, H⟩ := peel H
  obtain ⟨c4, H⟩ := peel H
  refine Opl.idx (M := cITerm) (xs := l0) (j := x5_1) zITerm (by exact hv0) rfl (by omega) (by omega) K66 Z128 rfl rfl ?_
  rintro p1 q1 h1
  obtain rfl := cITerm_R (x := (rd_ITerm l0 x5_1)) h1
  refine Opl.lda (.agg [.lit (.int .i64 ((rd_ITerm l0 x5_1).f0)), .lit (.int .i64 ((rd_ITerm l0 x5_1).f1)), .lit (.int .i64 ((rd_ITerm l0 x5_1).f2)), .lit (.int .i64 ((rd_ITerm l0 x5_1).f3))]) rfl T128 rfl rfl rfl rfl (Opl.p1 (n := Opl.p1 (n := Opl.idx (M := cITerm) (xs := l1) (j := x5_1) zITerm (by exact hv1) rfl (by omega) (by omega) K66 Z128 rfl rfl ?_)))
  rintro p2 q2 h2
  obtain rfl := cITerm_R (x := (rd_ITerm l1 x5_1)) h2
  refine Opl.lda (.agg [.lit (.int .i64 ((rd_ITerm l1 x5_1).f0)), .lit (.int .i64 ((rd_ITerm l1 x5_1).f1)), .lit (.int .i64 ((rd_ITerm l1 x5_1).f2)), .lit (.int .i64 ((rd_ITerm l1 x5_1).f3))]) rfl T128 rfl rfl rfl rfl ?_
  obtain ⟨t1427, h_t1427, H⟩ := Option.bind_eq_some_iff.1 H
  refine Opl.callc (laws_eqTerm.ev h_t1427) rfl rfl rfl rfl ⟨(.aggL ⟨(.lit _), (.lit _), (.lit _), (.lit _), trivial⟩), (.aggL ⟨(.lit _), (.lit _), (.lit _), (.lit _), trivial⟩), trivial⟩ (by decide) (Opl.p1 (n := Opl.nil ?_))
  by_cases c5 : t1427 = true
  case pos =>
   rw [if_pos c5] at H
   have e3 : (!t1427) = false := by simpa using c5
   try rw [e3]
   refine Evr.condF rfl (Evr.skip (Evr.inBlock (Evr.regionN rfl (Opl.p1 (n := Opl.p1 (n := Opl.p1 (n := Opl.nil ?_)))))))
   exact ih1 _ (by omega) _ _ ⟨by omega, _, H, ⟨rfl, rfl, rfl, trivial⟩⟩
  rw [if_neg c5] at H
  have e4 : (!t1427) = true := by simpa using c5
  try rw [e4]
  refine Evr.condT rfl (Evr.sr rfl (Opl.p1 (n := Opl.nil ?_)))
  obtain rfl := Option.some.inj H
  refine Evr.ret1 Try.func193 rfl ?_
  show (.lit (.bool false) : PV) = _
  first | rfl | (simp only [go_sem]; rfl)
theorem laws_eqTermSS.ev {k : Nat} {l0 : List (List ITerm)} {v0 : PV} (hv0 : Sl (cSl cITerm) l0 v0) {l1 : List (List ITerm)} {v1 : PV} (hv1 : Sl (cSl cITerm) l1 v1) {r : Bool} (H : laws_eqTermSS.f k l0 l1 = some r) : Ret Try.prog 194 [v0, v1] fun v S => v = .lit (.bool r) := by
 unfold laws_eqTermSS.f at H
 refine Ret.intro Try.func194 rfl (Nat.le_of_ble_eq_true rfl) rfl ?_
 rw [tm2]
 refine Evr.sr rfl (Opl.p1 (n := Opl.nil (Evr.seq (Evr.sr rfl (Opl.p1 (n := Opl.len (xs := l0) (by exact hv0) K104 rfl rfl rfl rfl (Opl.p1 (n := Opl.len (xs := l1) (by exact hv1) K104 rfl rfl rfl rfl (Opl.p1 (n := Opl.nil ?_))))))))))
 by_cases c1 : (l0.length : Int) = (l1.length : Int)
 case neg =>
  rw [if_neg c1] at H
  have e6 : ((l0.length : Int) != (l1.length : Int)) = true := by simpa using c1
  try rw [e6]
  refine Evr.condT rfl (Evr.sr rfl (Opl.p1 (n := Opl.nil ?_)))
  obtain rfl := Option.some.inj H
  refine Evr.ret1 Try.func194 rfl ?_
  show (.lit (.bool false) : PV) = _
  first | rfl | (simp only [go_sem]; rfl)
 rw [if_pos c1] at H
 have e1 : ((l0.length : Int) != (l1.length : Int)) = false := by simpa using c1
 try rw [e1]
 refine Evr.condF rfl (Evr.skip (Evr.seq (Evr.sr rfl (Opl.p1 (n := Opl.nil (Evr.block ?_))))))
 refine Evr.loop (Evr.rounds (n := k) (Inv := fun n tm S => n ≤ k ∧ ∃ (x5_1 : Int), laws_eqTermSS.l0 n l0 l1 x5_1 = some r ∧ Has tm [(0, v0), (1, v1), (5, .lit (.int .i64 x5_1))]) ?_ ?_ ?_)
 · exact ⟨Nat.le_refl _, _, H, ⟨rfl, rfl, rfl, trivial⟩⟩
 ·
  rintro tm S ⟨_, _, H, -⟩
  simp [laws_eqTermSS.l0] at H
 ·
  rintro n1 ih1 tm S ⟨hle, x5_1, H, hh⟩
  simp only [laws_eqTermSS.l0] at H
  rw [hh.eq]
  refine Evr.seq (Evr.sr rfl (Opl.p1 (n := Opl.p1 (n := Opl.len (xs := l0) (by exact hv0) K104 rfl rfl rfl rfl (Opl.p1 (n := Opl.nil ?_))))))
  by_cases c2 : x5_1 < (l0.length : Int)
  case neg =>
   rw [if_neg c2] at H
   have e5 : (decide (x5_1 < (l0.length : Int))) = false := by simpa using c2
   try rw [e5]
   refine Evr.condF rfl (Evr.exit rfl (Evr.sr rfl (Opl.p1 (n := Opl.nil ?_))))
   obtain rfl := Option.some.inj H
   refine Evr.ret1 Try.func194 rfl ?_
   show (.lit (.bool true) : PV) = _
   first | rfl | (simp only [go_sem]; rfl)
  rw [if_pos c2] at H
  have e2 : (decide (x5_1 < (l0.length : Int))) = true := by simpa using c2
  try rw [e2]
  refine Evr.condT rfl (Evr.skip (Evr.seq (Evr.block (Evr.seq (Evr.regionD rfl (by kernel_rfl) (Opl.p1 (n := Opl.p1 (n := ?_))))))))
  obtain ⟨c3, H⟩ := peel H
  obtain ⟨c4, H⟩ := peel H
  refine Opl.idx (M := (cSl cITerm)) (xs := l0) (j := x5_1) ([] : List ITerm) (by exact hv0) rfl (by omega) (by omega) K104 Z66 rfl rfl ?_
  rintro p1 q1 h1
  obtain ⟨pv1, rfl, h2⟩ := h1
  refine Opl.lda (pv1) rfl T66 rfl rfl rfl rfl (Opl.p1 (n := Opl.p1 (n := Opl.idx (M := (cSl cITerm)) (xs := l1) (j := x5_1) ([] : List ITerm) (by exact hv1) rfl (by omega) (by omega) K104 Z66 rfl rfl ?_)))
  rintro p2 q2 h3
  obtain ⟨pv2, rfl, h4⟩ := h3
  refine Opl.lda (pv2) rfl T66 rfl rfl rfl rfl ?_
  obtain ⟨t1430, h_t1430, H⟩ := Option.bind_eq_some_iff.1 H
  refine Opl.callc (laws_eqTermS.ev h2 h4 h_t1430) rfl rfl rfl rfl ⟨h2.plain, h4.plain, trivial⟩ (by decide) (Opl.p1 (n := Opl.nil ?_))
  by_cases c5 : t1430 = true
  case pos =>
   rw [if_pos c5] at H
   have e3 : (!t1430) = false := by simpa using c5
   try rw [e3]
   refine Evr.condF rfl (Evr.skip (Evr.inBlock (Evr.regionN rfl (Opl.p1 (n := Opl.p1 (n := Opl.p1 (n := Opl.nil ?_)))))))
   exact ih1 _ (by omega) _ _ ⟨by omega, _, H, ⟨rfl, rfl, rfl, trivial⟩⟩
  rw [if_neg c5] at H
  have e4 : (!t1430) = true := by simpa using c5
  try rw [e4]
  refine Evr.condT rfl (Evr.sr rfl (Opl.p1 (n := Opl.nil ?_)))
  obtain rfl := Option.some.inj H
  refine Evr.ret1 Try.func194 rfl ?_
  show (.lit (.bool false) : PV) = _
  first | rfl | (simp only [go_sem]; rfl)
theorem laws_eqRule.ev {k : Nat} {l0_0 : List ITerm} {v0_0 : PV} (hv0_0 : Sl cITerm l0_0 v0_0) {l0_1 : List Int} {v0_1 : PV} (hv0_1 : Sl (cInt .i64) l0_1 v0_1) {l0_2 : List (List ITerm)} {v0_2 : PV} (hv0_2 : Sl (cSl cITerm) l0_2 v0_2) {l1_0 : List ITerm} {v1_0 : PV} (hv1_0 : Sl cITerm l1_0 v1_0) {l1_1 : List Int} {v1_1 : PV} (hv1_1 : Sl (cInt .i64) l1_1 v1_1) {l1_2 : List (List ITerm)} {v1_2 : PV} (hv1_2 : Sl (cSl cITerm) l1_2 v1_2) {r : Bool} (H : laws_eqRule.f k l0_0 l0_1 l0_2 l1_0 l1_1 l1_2 = some r) : Ret Try.prog 160 [.agg [v0_0, v0_1, v0_2], .agg [v1_0, v1_1, v1_2]] fun v S => v = .lit (.bool r) := by
 unfold laws_eqRule.f at H
 refine Ret.intro Try.func160 rfl (Nat.le_of_ble_eq_true rfl) rfl ?_
 rw [tm2]
 refine Evr.sr rfl (Opl.box (cs := [v0_0, v0_1, v0_2]) rfl rfl rfl rfl ?_)
 rintro i1 S h1 u1 w1
 refine Opl.box (cs := [v1_0, v1_1, v1_2]) rfl rfl rfl rfl ?_
 rintro i2 S h2 u2 w2
 have ap1 := w2.box h1
 have h3 := u2.box h1 ap1
 refine Opl.p1 (n := Opl.nil (Evr.seq (Evr.sr rfl (Opl.p1 (v := .ptr i1 0) (n := Opl.ldb (v := v0_0) h3 rfl T66 rfl rfl rfl rfl (Opl.p1 (v := .ptr i2 0) (n := Opl.ldb (v := v1_0) h2 rfl T66 rfl rfl rfl rfl ?_)))))))
 obtain ⟨t1433, h_t1433, H⟩ := Option.bind_eq_some_iff.1 H
 refine Opl.callc (laws_eqTermS.ev hv0_0 hv1_0 h_t1433) rfl rfl rfl rfl ⟨hv0_0.plain, hv1_0.plain, trivial⟩ (by decide) (Opl.p1 (n := Opl.nil ?_))
 by_cases c1 : t1433 = true
 case neg =>
  rw [if_neg c1] at H
  have e6 : (!t1433) = true := by simpa using c1
  try rw [e6]
  refine Evr.condT rfl (Evr.sr rfl (Opl.p1 (n := Opl.nil ?_)))
  obtain rfl := Option.some.inj H
  refine Evr.ret1 Try.func160 rfl ?_
  show (.lit (.bool false) : PV) = _
  first | rfl | (simp only [go_sem]; rfl)
 rw [if_pos c1] at H
 have e1 : (!t1433) = false := by simpa using c1
 try rw [e1]
 refine Evr.condF rfl (Evr.skip (Evr.seq (Evr.sr rfl (Opl.p1 (v := .ptr i1 1) (n := Opl.ldb (v := v0_1) h3 rfl T27 rfl rfl rfl rfl (Opl.p1 (v := .ptr i2 1) (n := Opl.ldb (v := v1_1) h2 rfl T27 rfl rfl rfl rfl ?_)))))))
 obtain ⟨t1434, h_t1434, H⟩ := Option.bind_eq_some_iff.1 H
 refine Opl.callc (laws_eqIntS.ev hv0_1 hv1_1 h_t1434) rfl rfl rfl rfl ⟨hv0_1.plain, hv1_1.plain, trivial⟩ (by decide) (Opl.p1 (n := Opl.nil ?_))
 by_cases c2 : t1434 = true
 case neg =>
  rw [if_neg c2] at H
  have e5 : (!t1434) = true := by simpa using c2
  try rw [e5]
  refine Evr.condT rfl (Evr.sr rfl (Opl.p1 (n := Opl.nil ?_)))
  obtain rfl := Option.some.inj H
  refine Evr.ret1 Try.func160 rfl ?_
  show (.lit (.bool false) : PV) = _
  first | rfl | (simp only [go_sem]; rfl)
 rw [if_pos c2] at H
 have e2 : (!t1434) = false := by simpa using c2
 try rw [e2]
 refine Evr.condF rfl (Evr.skip (Evr.seq (Evr.sr rfl (Opl.p1 (v := .ptr i1 2) (n := Opl.ldb (v := v0_2) h3 rfl T104 rfl rfl rfl rfl (Opl.p1 (v := .ptr i2 2) (n := Opl.ldb (v := v1_2) h2 rfl T104 rfl rfl rfl rfl ?_)))))))
 obtain ⟨t1435, h_t1435, H⟩ := Option.bind_eq_some_iff.1 H
 refine Opl.callc (laws_eqTermSS.ev hv0_2 hv1_2 h_t1435) rfl rfl rfl rfl ⟨hv0_2.plain, hv1_2.plain, trivial⟩ (by decide) (Opl.p1 (n := Opl.nil ?_))
 by_cases c3 : t1435 = true
 case neg =>
  rw [if_neg c3] at H
  have e4 : (!t1435) = true := by simpa using c3
  try rw [e4]
  refine Evr.condT rfl (Evr.sr rfl (Opl.p1 (n := Opl.nil ?_)))
  obtain rfl := Option.some.inj H
  refine Evr.ret1 Try.func160 rfl ?_
  show (.lit (.bool false) : PV) = _
  first | rfl | (simp only [go_sem]; rfl)
 rw [if_pos c3] at H
 have e3 : (!t1435) = false := by simpa using c3
 try rw [e3]
 refine Evr.condF rfl (Evr.skip (Evr.sr rfl (Opl.p1 (n := Opl.nil ?_))))
 obtain rfl := Option.some.inj H
 refine Evr.ret1 Try.func160 rfl ?_
 show (.lit (.bool true) : PV) = _
 first | rfl | (simp only [go_sem]; rfl)
theorem laws_eqRuleS.ev {k : Nat} {l0 : List IRule} {v0 : PV} (hv0 : Sl cIRule l0 v0) {l1 : List IRule} {v1 : PV} (hv1 : Sl cIRule l1 v1) {r : Bool} (H : laws_eqRuleS.f k l0 l1 = some r) : Ret Try.prog 109 [v0, v1] fun v S => v = .lit (.bool r) := by
 unfold laws_eqRuleS.f at H
 refine Ret.intro Try.func109 rfl (Nat.le_of_ble_eq_true rfl) rfl ?_
 rw [tm2]
 refine Evr.sr rfl (Opl.p1 (n := Opl.nil (Evr.seq (Evr.sr rfl (Opl.p1 (n := Opl.len (xs := l0) (by exact hv0) K24 rfl rfl rfl rfl (Opl.p1 (n := Opl.len (xs := l1) (by exact hv1) K24 rfl rfl rfl rfl (Opl.p1 (n := Opl.nil ?_))))))))))
 by_cases c1 : (l0.length : Int) = (l1.length : Int)
 case neg =>
  rw [if_neg c1] at H
  have e6 : ((l0.length : Int) != (l1.length : Int)) = true := by simpa using c1
  try rw [e6]
  refine Evr.condT rfl (Evr.sr rfl (Opl.p1 (n := Opl.nil ?_)))
  obtain rfl := Option.some.inj H
  refine Evr.ret1 Try.func109 rfl ?_
  show (.lit (.bool false) : PV) = _
  first | rfl | (simp only [go_sem]; rfl)
 rw [if_pos c1] at H
 have e1 : ((l0.length : Int) != (l1.length : Int)) = false := by simpa using c1
 try rw [e1]
 refine Evr.condF rfl (Evr.skip (Evr.seq (Evr.sr rfl (Opl.p1 (n := Opl.nil (Evr.block ?_))))))
 refine Evr.loop (Evr.rounds (n := k) (Inv := fun n tm S => n ≤ k ∧ ∃ (x5_1 : Int), laws_eqRuleS.l0 n l0 l1 x5_1 = some r ∧ Has tm [(0, v0), (1, v1), (5, .lit (.int .i64 x5_1))]) ?_ ?_ ?_)
 · exact ⟨Nat.le_refl _, _, H, ⟨rfl, rfl, rfl, trivial⟩⟩
 ·
  rintro tm S ⟨_, _, H, -⟩
  simp [laws_eqRuleS.l0] at H
 ·
  rintro n1 ih1 tm S ⟨hle, x5_1, H, hh⟩
  simp only [laws_eqRuleS.l0] at H
  rw [hh.eq]
  refine Evr.seq (Evr.sr rfl (Opl.p1 (n := Opl.p1 (n := Opl.len (xs := l0) (by exact hv0) K24 rfl rfl rfl rfl (Opl.p1 (n := Opl.nil ?_))))))
  by_cases c2 : x5_1 < (l0.length : Int)
  case neg =>
   rw [if_neg c2] at H
   have e5 : (decide (x5_1 < (l0.length : Int))) = false := by simpa using c2
   try rw [e5]
   refine Evr.condF rfl (Evr.exit rfl (Evr.sr rfl (Opl.p1 (n := Opl.nil ?_))))
   obtain rfl := Option.some.inj H
   refine Evr.ret1 Try.func109 rfl ?_
   show (.lit (.bool true) : PV) = _
   first | rfl | (simp only [go_sem]; rfl)
  rw [if_pos c2] at H
  have e2 : (decide (x5_1 < (l0.length : Int))) = true := by simpa using c2
  try rw [e2]
  refine Evr.condT rfl (Evr.skip (Evr.seq (Evr.block (Evr.seq (Evr.regionD rfl (by kernel_rfl) (Opl.p1 (n := Opl.p1 (n := ?_))))))))
  obtain ⟨c3, H⟩ := peel H
  obtain ⟨c4, H⟩ := peel H
  refine Opl.idx (M := cIRule) (xs := l0) (j := x5_1) zIRule (by exact hv0) rfl (by omega) (by omega) K24 Z106 rfl rfl ?_
  rintro p1 q1 h1
  obtain ⟨pv1, pv2, pv3, rfl, h2, h3, h4⟩ := cIRule_R (x := (rd_IRule l0 x5_1)) h1
  refine Opl.lda (.agg [pv1, pv2, pv3]) rfl T106 rfl rfl rfl rfl (Opl.p1 (n := Opl.p1 (n := Opl.idx (M := cIRule) (xs := l1) (j := x5_1) zIRule (by exact hv1) rfl (by omega) (by omega) K24 Z106 rfl rfl ?_)))
  rintro p2 q2 h5
  obtain ⟨pv4, pv5, pv6, rfl, h6, h7, h8⟩ := cIRule_R (x := (rd_IRule l1 x5_1)) h5
  refine Opl.lda (.agg [pv4, pv5, pv6]) rfl T106 rfl rfl rfl rfl ?_
  obtain ⟨t1438, h_t1438, H⟩ := Option.bind_eq_some_iff.1 H
  refine Opl.callc (laws_eqRule.ev h2 h3 h4 h6 h7 h8 h_t1438) rfl rfl rfl rfl ⟨(.aggL ⟨h2.plain, h3.plain, h4.plain, trivial⟩), (.aggL ⟨h6.plain, h7.plain, h8.plain, trivial⟩), trivial⟩ (by decide) (Opl.p1 (n := Opl.nil ?_))
  by_cases c5 : t1438 = true
  case pos =>
   rw [if_pos c5] at H
   have e3 : (!t1438) = false := by simpa using c5
   try rw [e3]
   refine Evr.condF rfl (Evr.skip (Evr.inBlock (Evr.regionN rfl (Opl.p1 (n := Opl.p1 (n := Opl.p1 (n := Opl.nil ?_)))))))
   exact ih1 _ (by omega) _ _ ⟨by omega, _, H, ⟨rfl, rfl, rfl, trivial⟩⟩
  rw [if_neg c5] at H
  have e4 : (!t1438) = true := by simpa using c5
  try rw [e4]
  refine Evr.condT rfl (Evr.sr rfl (Opl.p1 (n := Opl.nil ?_)))
  obtain rfl := Option.some.inj H
  refine Evr.ret1 Try.func109 rfl ?_
  show (.lit (.bool false) : PV) = _
  first | rfl | (simp only [go_sem]; rfl)
theorem laws_eqVar.ev {a0_0 : Int} {a0_1 : Int} {a0_2 : Int} {a1_0 : Int} {a1_1 : Int} {a1_2 : Int} {r : Bool} (H : laws_eqVar.f a0_0 a0_1 a0_2 a1_0 a1_1 a1_2 = some r) : Ret Try.prog 159 [.agg [.lit (.int .i64 a0_0), .lit (.int .i64 a0_1), .lit (.int .i64 a0_2)], .agg [.lit (.int .i64 a1_0), .lit (.int .i64 a1_1), .lit (.int .i64 a1_2)]] fun v S => v = .lit (.bool r) := by
 unfold laws_eqVar.f at H
 refine Ret.intro Try.func159 rfl (Nat.le_of_ble_eq_true rfl) rfl ?_
 rw [tm2]
 refine Evr.sr rfl (Opl.box (cs := [.lit (.int .i64 a0_0), .lit (.int .i64 a0_1), .lit (.int .i64 a0_2)]) rfl rfl rfl rfl ?_)
 rintro i1 S h1 u1 w1
 refine Opl.box (cs := [.lit (.int .i64 a1_0), .lit (.int .i64 a1_1), .lit (.int .i64 a1_2)]) rfl rfl rfl rfl ?_
 rintro i2 S h2 u2 w2
 have ap1 := w2.box h1
 have h3 := u2.box h1 ap1
 refine Opl.p1 (n := Opl.nil (Evr.seq (Evr.sr rfl (Opl.p1 (v := .ptr i1 0) (n := Opl.ldb (v := .lit (.int .i64 a0_0)) h3 rfl T3 rfl rfl rfl rfl (Opl.p1 (v := .ptr i2 0) (n := Opl.ldb (v := .lit (.int .i64 a1_0)) h2 rfl T3 rfl rfl rfl rfl (Opl.p1 (n := Opl.nil ?_)))))))))
 by_cases c1 : a0_0 = a1_0
 case neg =>
  rw [if_neg c1] at H
  have e6 : (a0_0 != a1_0) = true := by simpa using c1
  try rw [e6]
  refine Evr.condT rfl (Evr.sr rfl (Opl.p1 (n := Opl.nil ?_)))
  obtain rfl := Option.some.inj H
  refine Evr.ret1 Try.func159 rfl ?_
  show (.lit (.bool false) : PV) = _
  first | rfl | (simp only [go_sem]; rfl)
 rw [if_pos c1] at H
 have e1 : (a0_0 != a1_0) = false := by simpa using c1
 try rw [e1]
 refine Evr.condF rfl (Evr.skip (Evr.seq (Evr.sr rfl (Opl.p1 (v := .ptr i1 1) (n := Opl.ldb (v := .lit (.int .i64 a0_1)) h3 rfl T3 rfl rfl rfl rfl (Opl.p1 (v := .ptr i2 1) (n := Opl.ldb (v := .lit (.int .i64 a1_1)) h2 rfl T3 rfl rfl rfl rfl (Opl.p1 (n := Opl.nil ?_)))))))))
 by_cases c2 : a0_1 = a1_1
 case neg =>
  rw [if_neg c2] at H
  have e5 : (a0_1 != a1_1) = true := by simpa using c2
  try rw [e5]
  refine Evr.condT rfl (Evr.sr rfl (Opl.p1 (n := Opl.nil ?_)))
  obtain rfl := Option.some.inj H
  refine Evr.ret1 Try.func159 rfl ?_
  show (.lit (.bool false) : PV) = _
  first | rfl | (simp only [go_sem]; rfl)
 rw [if_pos c2] at H
 have e2 : (a0_1 != a1_1) = false := by simpa using c2
 try rw [e2]
 refine Evr.condF rfl (Evr.skip (Evr.seq (Evr.sr rfl (Opl.p1 (v := .ptr i1 2) (n := Opl.ldb (v := .lit (.int .i64 a0_2)) h3 rfl T3 rfl rfl rfl rfl (Opl.p1 (v := .ptr i2 2) (n := Opl.ldb (v := .lit (.int .i64 a1_2)) h2 rfl T3 rfl rfl rfl rfl (Opl.p1 (n := Opl.nil ?_)))))))))
 by_cases c3 : a0_2 = a1_2
 case neg =>
  rw [if_neg c3] at H
  have e4 : (a0_2 != a1_2) = true := by simpa using c3
  try rw [e4]
  refine Evr.condT rfl (Evr.sr rfl (Opl.p1 (n := Opl.nil ?_)))
  obtain rfl := Option.some.inj H
  refine Evr.ret1 Try.func159 rfl ?_
  show (.lit (.bool false) : PV) = _
  first | rfl | (simp only [go_sem]; rfl)
 rw [if_pos c3] at H
 have e3 : (a0_2 != a1_2) = false := by simpa using c3
 try rw [e3]
 refine Evr.condF rfl (Evr.skip (Evr.sr rfl (Opl.p1 (n := Opl.nil ?_))))
 obtain rfl := Option.some.inj H
 refine Evr.ret1 Try.func159 rfl ?_
 show (.lit (.bool true) : PV) = _
 first | rfl | (simp only [go_sem]; rfl)
theorem laws_eqVarS.ev {k : Nat} {l0 : List IVar} {v0 : PV} (hv0 : Sl cIVar l0 v0) {l1 : List IVar} {v1 : PV} (hv1 : Sl cIVar l1 v1) {r : Bool} (H : laws_eqVarS.f k l0 l1 = some r) : Ret Try.prog 108 [v0, v1] fun v S => v = .lit (.bool r) := by
 unfold laws_eqVarS.f at H
 refine Ret.intro Try.func108 rfl (Nat.le_of_ble_eq_true rfl) rfl ?_
 rw [tm2]
 refine Evr.sr rfl (Opl.p1 (n := Opl.nil (Evr.seq (Evr.sr rfl (Opl.p1 (n := Opl.len (xs := l0) (by exact hv0) K23 rfl rfl rfl rfl (Opl.p1 (n := Opl.len (xs := l1) (by exact hv1) K23 rfl rfl rfl rfl (Opl.p1 (n := Opl.nil ?_))))))))))
 by_cases c1 : (l0.length : Int) = (l1.length : Int)
 case neg =>
  rw [if_neg c1] at H
  have e6 : ((l0.length : Int) != (l1.length : Int)) = true := by simpa using c1
  try rw [e6]
  refine Evr.condT rfl (Evr.sr rfl (Opl.p1 (n := Opl.nil ?_)))
  obtain rfl := Option.some.inj H
  refine Evr.ret1 Try.func108 rfl ?_
  show (.lit (.bool false) : PV) = _
  first | rfl | (simp only [go_sem]; rfl)
 rw [if_pos c1] at H
 have e1 : ((l0.length : Int) != (l1.length : Int)) = false := by simpa using c1
 try rw [e1]
 refine Evr.condF rfl (Evr.skip (Evr.seq (Evr.sr rfl (Opl.p1 (n := Opl.nil (Evr.block ?_))))))
 refine Evr.loop (Evr.rounds (n := k) (Inv := fun n tm S => n ≤ k ∧ ∃ (x5_1 : Int), laws_eqVarS.l0 n l0 l1 x5_1 = some r ∧ Has tm [(0, v0), (1, v1), (5, .lit (.int .i64 x5_1))]) ?_ ?_ ?_)
 · exact ⟨Nat.le_refl _, _, H, ⟨rfl, rfl, rfl, trivial⟩⟩
 ·
  rintro tm S ⟨_, _, H, -⟩
  simp [laws_eqVarS.l0] at H
 ·
  rintro n1 ih1 tm S ⟨hle, x5_1, H, hh⟩
  simp only [laws_eqVarS.l0] at H
  rw [hh.eq]
  refine Evr.seq (Evr.sr rfl (Opl.p1 (n := Opl.p1 (n := Opl.len (xs := l0) (by exact hv0) K23 rfl rfl rfl rfl (Opl.p1 (n := Opl.nil ?_))))))
  by_cases c2 : x5_1 < (l0.length : Int)
  case neg =>
   rw [if_neg c2] at H
   have e5 : (decide (x5_1 < (l0.length : Int))) = false := by simpa using c2
   try rw [e5]
   refine Evr.condF rfl (Evr.exit rfl (Evr.sr rfl (Opl.p1 (n := Opl.nil ?_))))
   obtain rfl := Option.some.inj H
   refine Evr.ret1 Try.func108 rfl ?_
   show (.lit (.bool true) : PV) = _
   first | rfl | (simp only [go_sem]; rfl)
  rw [if_pos c2] at H
  have e2 : (decide (x5_1 < (l0.length : Int))) = true := by simpa using c2
  try rw [e2]
  refine Evr.condT rfl (Evr.skip (Evr.seq (Evr.block (Evr.seq (Evr.regionD rfl (by kernel_rfl) (Opl.p1 (n := Opl.p1 (n := ?_))))))))
  obtain ⟨c3, H⟩ := peel H
  obtain ⟨c4, H⟩ := peel H
  refine Opl.idx (M := cIVar) (xs := l0) (j := x5_1) zIVar (by exact hv0) rfl (by omega) (by omega) K23 Z101 rfl rfl ?_
  rintro p1 q1 h1
  obtain rfl := cIVar_R (x := (rd_IVar l0 x5_1)) h1
  refine Opl.lda (.agg [.lit (.int .i64 ((rd_IVar l0 x5_1).f0)), .lit (.int .i64 ((rd_IVar l0 x5_1).f1)), .lit (.int .i64 ((rd_IVar l0 x5_1).f2))]) rfl T101 rfl rfl rfl rfl (Opl.p1 (n := Opl.p1 (n := Opl.idx (M := cIVar) (xs := l1) (j := x5_1) zIVar (by exact hv1) rfl (by omega) (by omega) K23 Z101 rfl rfl ?_)))
  rintro p2 q2 h2
  obtain rfl := cIVar_R (x := (rd_IVar l1 x5_1)) h2
  refine Opl.lda (.agg [.lit (.int .i64 ((rd_IVar l1 x5_1).f0)), .lit (.int .i64 ((rd_IVar l1 x5_1).f1)), .lit (.int .i64 ((rd_IVar l1 x5_1).f2))]) rfl T101 rfl rfl rfl rfl ?_
  obtain ⟨t1422, h_t1422, H⟩ := Option.bind_eq_some_iff.1 H
  refine Opl.callc (laws_eqVar.ev h_t1422) rfl rfl rfl rfl ⟨(.aggL ⟨(.lit _), (.lit _), (.lit _), trivial⟩), (.aggL ⟨(.lit _), (.lit _), (.lit _), trivial⟩), trivial⟩ (by decide) (Opl.p1 (n := Opl.nil ?_))
  by_cases c5 : t1422 = true
  case pos =>
   rw [if_pos c5] at H
   have e3 : (!t1422) = false := by simpa using c5
   try rw [e3]
   refine Evr.condF rfl (Evr.skip (Evr.inBlock (Evr.regionN rfl (Opl.p1 (n := Opl.p1 (n := Opl.p1 (n := Opl.nil ?_)))))))
   exact ih1 _ (by omega) _ _ ⟨by omega, _, H, ⟨rfl, rfl, rfl, trivial⟩⟩
  rw [if_neg c5] at H
  have e4 : (!t1422) = true := by simpa using c5
  try rw [e4]
  refine Evr.condT rfl (Evr.sr rfl (Opl.p1 (n := Opl.nil ?_)))
  obtain rfl := Option.some.inj H
  refine Evr.ret1 Try.func108 rfl ?_
  show (.lit (.bool false) : PV) = _
  first | rfl | (simp only [go_sem]; rfl)
theorem laws_eqSystem.ev {k : Nat} {l0_0 : List IVar} {v0_0 : PV} (hv0_0 : Sl cIVar l0_0 v0_0) {l0_1 : List IRule} {v0_1 : PV} (hv0_1 : Sl cIRule l0_1 v0_1) {l1_0 : List IVar} {v1_0 : PV} (hv1_0 : Sl cIVar l1_0 v1_0) {l1_1 : List IRule} {v1_1 : PV} (hv1_1 : Sl cIRule l1_1 v1_1) {r : Bool} (H : laws_eqSystem.f k l0_0 l0_1 l1_0 l1_1 = some r) : Ret Try.prog 38 [.agg [v0_0, v0_1], .agg [v1_0, v1_1]] fun v S => v = .lit (.bool r) := by
 unfold laws_eqSystem.f at H
 refine Ret.intro Try.func38 rfl (Nat.le_of_ble_eq_true rfl) rfl ?_
 rw [tm2]
 refine Evr.sr rfl (Opl.box (cs := [v0_0, v0_1]) rfl rfl rfl rfl ?_)
 rintro i1 S h1 u1 w1
 refine Opl.box (cs := [v1_0, v1_1]) rfl rfl rfl rfl ?_
 rintro i2 S h2 u2 w2
 have ap1 := w2.box h1
 have h3 := u2.box h1 ap1
 refine Opl.p1 (n := Opl.nil (Evr.seq (Evr.sr rfl (Opl.p1 (v := .ptr i1 0) (n := Opl.ldb (v := v0_0) h3 rfl T23 rfl rfl rfl rfl (Opl.p1 (v := .ptr i2 0) (n := Opl.ldb (v := v1_0) h2 rfl T23 rfl rfl rfl rfl ?_)))))))
 obtain ⟨t1441, h_t1441, H⟩ := Option.bind_eq_some_iff.1 H
 refine Opl.callc (laws_eqVarS.ev hv0_0 hv1_0 h_t1441) rfl rfl rfl rfl ⟨hv0_0.plain, hv1_0.plain, trivial⟩ (by decide) (Opl.p1 (n := Opl.nil ?_))
 by_cases c1 : t1441 = true
 case neg =>
  rw [if_neg c1] at H
  have e4 : (!t1441) = true := by simpa using c1
  try rw [e4]
  refine Evr.condT rfl (Evr.sr rfl (Opl.p1 (n := Opl.nil ?_)))
  obtain rfl := Option.some.inj H
  refine Evr.ret1 Try.func38 rfl ?_
  show (.lit (.bool false) : PV) = _
  first | rfl | (simp only [go_sem]; rfl)
 rw [if_pos c1] at H
 have e1 : (!t1441) = false := by simpa using c1
 try rw [e1]
 refine Evr.condF rfl (Evr.skip (Evr.seq (Evr.sr rfl (Opl.p1 (v := .ptr i1 1) (n := Opl.ldb (v := v0_1) h3 rfl T24 rfl rfl rfl rfl (Opl.p1 (v := .ptr i2 1) (n := Opl.ldb (v := v1_1) h2 rfl T24 rfl rfl rfl rfl ?_)))))))
 obtain ⟨t1442, h_t1442, H⟩ := Option.bind_eq_some_iff.1 H
 refine Opl.callc (laws_eqRuleS.ev hv0_1 hv1_1 h_t1442) rfl rfl rfl rfl ⟨hv0_1.plain, hv1_1.plain, trivial⟩ (by decide) (Opl.p1 (n := Opl.nil ?_))
 by_cases c2 : t1442 = true
 case neg =>
  rw [if_neg c2] at H
  have e3 : (!t1442) = true := by simpa using c2
  try rw [e3]
  refine Evr.condT rfl (Evr.sr rfl (Opl.p1 (n := Opl.nil ?_)))
  obtain rfl := Option.some.inj H
  refine Evr.ret1 Try.func38 rfl ?_
  show (.lit (.bool false) : PV) = _
  first | rfl | (simp only [go_sem]; rfl)
 rw [if_pos c2] at H
 have e2 : (!t1442) = false := by simpa using c2
 try rw [e2]
 refine Evr.condF rfl (Evr.skip (Evr.sr rfl (Opl.p1 (n := Opl.nil ?_))))
 obtain rfl := Option.some.inj H
 refine Evr.ret1 Try.func38 rfl ?_
 show (.lit (.bool true) : PV) = _
 first | rfl | (simp only [go_sem]; rfl)
theorem laws_eqIntSS.ev {k : Nat} {l0 : List (List Int)} {v0 : PV} (hv0 : Sl (cSl (cInt .i64)) l0 v0) {l1 : List (List Int)} {v1 : PV} (hv1 : Sl (cSl (cInt .i64)) l1 v1) {r : Bool} (H : laws_eqIntSS.f k l0 l1 = some r) : Ret Try.prog 107 [v0, v1] fun v S => v = .lit (.bool r) := by
 unfold laws_eqIntSS.f at H
 refine Ret.intro Try.func107 rfl (Nat.le_of_ble_eq_true rfl) rfl ?_
 rw [tm2]
 refine Evr.sr rfl (Opl.p1 (n := Opl.nil (Evr.seq (Evr.sr rfl (Opl.p1 (n := Opl.len (xs := l0) (by exact hv0) K30 rfl rfl rfl rfl (Opl.p1 (n := Opl.len (xs := l1) (by exact hv1) K30 rfl rfl rfl rfl (Opl.p1 (n := Opl.nil ?_))))))))))
 by_cases c1 : (l0.length : Int) = (l1.length : Int)
 case neg =>
  rw [if_neg c1] at H
  have e6 : ((l0.length : Int) != (l1.length : Int)) = true := by simpa using c1
  try rw [e6]
  refine Evr.condT rfl (Evr.sr rfl (Opl.p1 (n := Opl.nil ?_)))
  obtain rfl := Option.some.inj H
  refine Evr.ret1 Try.func107 rfl ?_
  show (.lit (.bool false) : PV) = _
  first | rfl | (simp only [go_sem]; rfl)
 rw [if_pos c1] at H
 have e1 : ((l0.length : Int) != (l1.length : Int)) = false := by simpa using c1
 try rw [e1]
 refine Evr.condF rfl (Evr.skip (Evr.seq (Evr.sr rfl (Opl.p1 (n := Opl.nil (Evr.block ?_))))))
 refine Evr.loop (Evr.rounds (n := k) (Inv := fun n tm S => n ≤ k ∧ ∃ (x5_1 : Int), laws_eqIntSS.l0 n l0 l1 x5_1 = some r ∧ Has tm [(0, v0), (1, v1), (5, .lit (.int .i64 x5_1))]) ?_ ?_ ?_)
 · exact ⟨Nat.le_refl _, _, H, ⟨rfl, rfl, rfl, trivial⟩⟩
 ·
  rintro tm S ⟨_, _, H, -⟩
  simp [laws_eqIntSS.l0] at H
 ·
  rintro n1 ih1 tm S ⟨hle, x5_1, H, hh⟩
  simp only [laws_eqIntSS.l0] at H
  rw [hh.eq]
  refine Evr.seq (Evr.sr rfl (Opl.p1 (n := Opl.p1 (n := Opl.len (xs := l0) (by exact hv0) K30 rfl rfl rfl rfl (Opl.p1 (n := Opl.nil ?_))))))
  by_cases c2 : x5_1 < (l0.length : Int)
  case neg =>
   rw [if_neg c2] at H
   have e5 : (decide (x5_1 < (l0.length : Int))) = false := by simpa using c2
   try rw [e5]
   refine Evr.condF rfl (Evr.exit rfl (Evr.sr rfl (Opl.p1 (n := Opl.nil ?_))))
   obtain rfl := Option.some.inj H
   refine Evr.ret1 Try.func107 rfl ?_
   show (.lit (.bool true) : PV) = _
   first | rfl | (simp only [go_sem]; rfl)
  rw [if_pos c2] at H
  have e2 : (decide (x5_1 < (l0.length : Int))) = true := by simpa using c2
  try rw [e2]
  refine Evr.condT rfl (Evr.skip (Evr.seq (Evr.block (Evr.seq (Evr.regionD rfl (by kernel_rfl) (Opl.p1 (n := Opl.p1 (n := ?_))))))))
  obtain ⟨c3, H⟩ := peel H
  obtain ⟨c4, H⟩ := peel H
  refine Opl.idx (M := (cSl (cInt .i64))) (xs := l0) (j := x5_1) ([] : List Int) (by exact hv0) rfl (by omega) (by omega) K30 Z27 rfl rfl ?_
  rintro p1 q1 h1
  obtain ⟨pv1, rfl, h2⟩ := h1
  refine Opl.lda (pv1) rfl T27 rfl rfl rfl rfl (Opl.p1 (n := Opl.p1 (n := Opl.idx (M := (cSl (cInt .i64))) (xs := l1) (j := x5_1) ([] : List Int) (by exact hv1) rfl (by omega) (by omega) K30 Z27 rfl rfl ?_)))
  rintro p2 q2 h3
  obtain ⟨pv2, rfl, h4⟩ := h3
  refine Opl.lda (pv2) rfl T27 rfl rfl rfl rfl ?_
  obtain ⟨t1413, h_t1413, H⟩ := Option.bind_eq_some_iff.1 H
  refine Opl.callc (laws_eqIntS.ev h2 h4 h_t1413) rfl rfl rfl rfl ⟨h2.plain, h4.plain, trivial⟩ (by decide) (Opl.p1 (n := Opl.nil ?_))
  by_cases c5 : t1413 = true
  case pos =>
   rw [if_pos c5] at H
   have e3 : (!t1413) = false := by simpa using c5
   try rw [e3]
   refine Evr.condF rfl (Evr.skip (Evr.inBlock (Evr.regionN rfl (Opl.p1 (n := Opl.p1 (n := Opl.p1 (n := Opl.nil ?_)))))))
   exact ih1 _ (by omega) _ _ ⟨by omega, _, H, ⟨rfl, rfl, rfl, trivial⟩⟩
  rw [if_neg c5] at H
  have e4 : (!t1413) = true := by simpa using c5
  try rw [e4]
  refine Evr.condT rfl (Evr.sr rfl (Opl.p1 (n := Opl.nil ?_)))
  obtain rfl := Option.some.inj H
  refine Evr.ret1 Try.func107 rfl ?_
  show (.lit (.bool false) : PV) = _
  first | rfl | (simp only [go_sem]; rfl)
theorem laws_eqTrace.ev {k : Nat} {l0_0 : List (List Int)} {v0_0 : PV} (hv0_0 : Sl (cSl (cInt .i64)) l0_0 v0_0) {l0_1 : List Int} {v0_1 : PV} (hv0_1 : Sl (cInt .i64) l0_1 v0_1) {l1_0 : List (List Int)} {v1_0 : PV} (hv1_0 : Sl (cSl (cInt .i64)) l1_0 v1_0) {l1_1 : List Int} {v1_1 : PV} (hv1_1 : Sl (cInt .i64) l1_1 v1_1) {r : Bool} (H : laws_eqTrace.f k l0_0 l0_1 l1_0 l1_1 = some r) : Ret Try.prog 37 [.agg [v0_0, v0_1], .agg [v1_0, v1_1]] fun v S => v = .lit (.bool r) := by
 unfold laws_eqTrace.f at H
 refine Ret.intro Try.func37 rfl (Nat.le_of_ble_eq_true rfl) rfl ?_
 rw [tm2]
 refine Evr.sr rfl (Opl.box (cs := [v0_0, v0_1]) rfl rfl rfl rfl ?_)
 rintro i1 S h1 u1 w1
 refine Opl.box (cs := [v1_0, v1_1]) rfl rfl rfl rfl ?_
 rintro i2 S h2 u2 w2
 have ap1 := w2.box h1
 have h3 := u2.box h1 ap1
 refine Opl.p1 (n := Opl.nil (Evr.seq (Evr.sr rfl (Opl.p1 (v := .ptr i1 0) (n := Opl.ldb (v := v0_0) h3 rfl T30 rfl rfl rfl rfl (Opl.p1 (v := .ptr i2 0) (n := Opl.ldb (v := v1_0) h2 rfl T30 rfl rfl rfl rfl ?_)))))))
 obtain ⟨t1416, h_t1416, H⟩ := Option.bind_eq_some_iff.1 H
 refine Opl.callc (laws_eqIntSS.ev hv0_0 hv1_0 h_t1416) rfl rfl rfl rfl ⟨hv0_0.plain, hv1_0.plain, trivial⟩ (by decide) (Opl.p1 (n := Opl.nil ?_))
 by_cases c1 : t1416 = true
 case neg =>
  rw [if_neg c1] at H
  have e4 : (!t1416) = true := by simpa using c1
  try rw [e4]
  refine Evr.condT rfl (Evr.sr rfl (Opl.p1 (n := Opl.nil ?_)))
  obtain rfl := Option.some.inj H
  refine Evr.ret1 Try.func37 rfl ?_
  show (.lit (.bool false) : PV) = _
  first | rfl | (simp only [go_sem]; rfl)
 rw [if_pos c1] at H
 have e1 : (!t1416) = false := by simpa using c1
 try rw [e1]
 refine Evr.condF rfl (Evr.skip (Evr.seq (Evr.sr rfl (Opl.p1 (v := .ptr i1 1) (n := Opl.ldb (v := v0_1) h3 rfl T27 rfl rfl rfl rfl (Opl.p1 (v := .ptr i2 1) (n := Opl.ldb (v := v1_1) h2 rfl T27 rfl rfl rfl rfl ?_)))))))
 obtain ⟨t1417, h_t1417, H⟩ := Option.bind_eq_some_iff.1 H
 refine Opl.callc (laws_eqIntS.ev hv0_1 hv1_1 h_t1417) rfl rfl rfl rfl ⟨hv0_1.plain, hv1_1.plain, trivial⟩ (by decide) (Opl.p1 (n := Opl.nil ?_))
 by_cases c2 : t1417 = true
 case neg =>
  rw [if_neg c2] at H
  have e3 : (!t1417) = true := by simpa using c2
  try rw [e3]
  refine Evr.condT rfl (Evr.sr rfl (Opl.p1 (n := Opl.nil ?_)))
  obtain rfl := Option.some.inj H
  refine Evr.ret1 Try.func37 rfl ?_
  show (.lit (.bool false) : PV) = _
  first | rfl | (simp only [go_sem]; rfl)
 rw [if_pos c2] at H
 have e2 : (!t1417) = false := by simpa using c2
 try rw [e2]
 refine Evr.condF rfl (Evr.skip (Evr.sr rfl (Opl.p1 (n := Opl.nil ?_))))
 obtain rfl := Option.some.inj H
 refine Evr.ret1 Try.func37 rfl ?_
 show (.lit (.bool true) : PV) = _
 first | rfl | (simp only [go_sem]; rfl)
theorem laws_heldIntS.ev {k : Nat} {l0 : List Int} {v0 : PV} (hv0 : Sl (cInt .i64) l0 v0) {a1 : Int} {r : Int} (H : laws_heldIntS.f k l0 a1 = some r) : Ret Try.prog 114 [v0, .lit (.int .i64 a1)] fun v S => v = .lit (.int .i64 r) := by
 unfold laws_heldIntS.f at H
 refine Ret.intro Try.func114 rfl (Nat.le_of_ble_eq_true rfl) rfl ?_
 rw [tm2]
 refine Evr.sr rfl (Opl.p1 (n := Opl.nil (Evr.seq (Evr.sr rfl (Opl.p1 (n := Opl.nil (Evr.block ?_)))))))
 refine Evr.loop (Evr.rounds (n := k) (Inv := fun n tm S => n ≤ k ∧ ∃ (x1_1 : Int) (x5_1 : Int), laws_heldIntS.l0 n l0 x1_1 x5_1 = some r ∧ Has tm [(0, v0), (1, .lit (.int .i64 x1_1)), (5, .lit (.int .i64 x5_1))]) ?_ ?_ ?_)
 · exact ⟨Nat.le_refl _, _, _, H, ⟨rfl, rfl, rfl, trivial⟩⟩
 ·
  rintro tm S ⟨_, _, _, H, -⟩
  simp [laws_heldIntS.l0] at H
 ·
  rintro n1 ih1 tm S ⟨hle, x1_1, x5_1, H, hh⟩
  simp only [laws_heldIntS.l0] at H
  rw [hh.eq]
  refine Evr.seq (Evr.sr rfl (Opl.p1 (n := Opl.p1 (n := Opl.len (xs := l0) (by exact hv0) K27 rfl rfl rfl rfl (Opl.p1 (n := Opl.nil ?_))))))
  by_cases c1 : x5_1 < (l0.length : Int)
  case neg =>
   rw [if_neg c1] at H
   have e4 : (decide (x5_1 < (l0.length : Int))) = false := by simpa using c1
   try rw [e4]
   refine Evr.condF rfl (Evr.exit rfl (Evr.sr rfl (Opl.p1 (n := Opl.p1 (n := Opl.nil ?_)))))
   obtain rfl := Option.some.inj H
   refine Evr.ret1 Try.func114 rfl ?_
   show (.lit (.int .i64 x1_1) : PV) = _
   first | rfl | (simp only [go_sem]; rfl)
  rw [if_pos c1] at H
  have e1 : (decide (x5_1 < (l0.length : Int))) = true := by simpa using c1
  try rw [e1]
  refine Evr.condT rfl (Evr.skip (Evr.seq (Evr.block (Evr.seq (Evr.sr rfl (Opl.p1 (n := Opl.p1 (n := ?_))))))))
  obtain ⟨c2, H⟩ := peel H
  refine Opl.idx (M := (cInt .i64)) (xs := l0) (j := x5_1) (0 : Int) (by exact hv0) rfl (by omega) (by omega) K27 Z3 rfl rfl ?_
  rintro p1 q1 h1
  obtain rfl : p1 = [.lit (.int .i64 (rd l0 x5_1))] := h1
  refine Opl.lda (.lit (.int .i64 (rd l0 x5_1))) rfl T3 rfl rfl rfl rfl (Opl.p1 (n := Opl.p1 (n := Opl.nil ?_)))
  by_cases c3 : (rd l0 x5_1) = x1_1
  case neg =>
   rw [if_neg c3] at H
   have e3 : ((rd l0 x5_1) != x1_1) = true := by simpa using c3
   try rw [e3]
   refine Evr.condT rfl (Evr.sr rfl (Opl.p1 (n := Opl.nil ?_)))
   obtain rfl := Option.some.inj H
   refine Evr.ret1 Try.func114 rfl ?_
   show (.lit (.int .i64 (-1)) : PV) = _
   first | rfl | (simp only [go_sem]; rfl)
  rw [if_pos c3] at H
  have e2 : ((rd l0 x5_1) != x1_1) = false := by simpa using c3
  try rw [e2]
  refine Evr.condF rfl (Evr.skip (Evr.regionN rfl (Opl.p1 (n := Opl.p1 (n := Opl.p1 (n := Opl.nil (Evr.inBlock (Evr.regionN rfl (Opl.p1 (n := Opl.p1 (n := Opl.p1 (n := Opl.nil ?_))))))))))))
  exact ih1 _ (by omega) _ _ ⟨by omega, _, _, H, ⟨rfl, rfl, rfl, trivial⟩⟩
theorem laws_heldIntSS.ev {k : Nat} {l0 : List (List Int)} {v0 : PV} (hv0 : Sl (cSl (cInt .i64)) l0 v0) {a1 : Int} {r : Int} (H : laws_heldIntSS.f k l0 a1 = some r) : Ret Try.prog 113 [v0, .lit (.int .i64 a1)] fun v S => v = .lit (.int .i64 r) := by
 unfold laws_heldIntSS.f at H
 refine Ret.intro Try.func113 rfl (Nat.le_of_ble_eq_true rfl) rfl ?_
 rw [tm2]
 refine Evr.sr rfl (Opl.p1 (n := Opl.nil (Evr.seq (Evr.sr rfl (Opl.p1 (n := Opl.nil (Evr.block ?_)))))))
 refine Evr.loop (Evr.rounds (n := k) (Inv := fun n tm S => n ≤ k ∧ ∃ (x1_1 : Int) (x5_1 : Int), laws_heldIntSS.l0 n l0 x1_1 x5_1 = some r ∧ Has tm [(0, v0), (1, .lit (.int .i64 x1_1)), (5, .lit (.int .i64 x5_1))]) ?_ ?_ ?_)
 · exact ⟨Nat.le_refl _, _, _, H, ⟨rfl, rfl, rfl, trivial⟩⟩
 ·
  rintro tm S ⟨_, _, _, H, -⟩
  simp [laws_heldIntSS.l0] at H
 ·
  rintro n1 ih1 tm S ⟨hle, x1_1, x5_1, H, hh⟩
  simp only [laws_heldIntSS.l0] at H
  rw [hh.eq]
  refine Evr.seq (Evr.sr rfl (Opl.p1 (n := Opl.p1 (n := Opl.len (xs := l0) (by exact hv0) K30 rfl rfl rfl rfl (Opl.p1 (n := Opl.nil ?_))))))
  by_cases c1 : x5_1 < (l0.length : Int)
  case neg =>
   rw [if_neg c1] at H
   have e4 : (decide (x5_1 < (l0.length : Int))) = false := by simpa using c1
   try rw [e4]
   refine Evr.condF rfl (Evr.exit rfl (Evr.sr rfl (Opl.p1 (n := Opl.p1 (n := Opl.nil ?_)))))
   obtain rfl := Option.some.inj H
   refine Evr.ret1 Try.func113 rfl ?_
   show (.lit (.int .i64 x1_1) : PV) = _
   first | rfl | (simp only [go_sem]; rfl)
  rw [if_pos c1] at H
  have e1 : (decide (x5_1 < (l0.length : Int))) = true := by simpa using c1
  try rw [e1]
  refine Evr.condT rfl (Evr.skip (Evr.seq (Evr.block (Evr.sr rfl (Opl.p1 (n := Opl.p1 (n := ?_)))))))
  obtain ⟨c2, H⟩ := peel H
  refine Opl.idx (M := (cSl (cInt .i64))) (xs := l0) (j := x5_1) ([] : List Int) (by exact hv0) rfl (by omega) (by omega) K30 Z27 rfl rfl ?_
  rintro p1 q1 h1
  obtain ⟨pv1, rfl, h2⟩ := h1
  refine Opl.lda (pv1) rfl T27 rfl rfl rfl rfl (Opl.p1 (n := ?_))
  obtain ⟨t1459, h_t1459, H⟩ := Option.bind_eq_some_iff.1 H
  refine Opl.callc (laws_heldIntS.ev h2 h_t1459) rfl rfl rfl rfl ⟨h2.plain, (.lit _), trivial⟩ (by decide) (Opl.p1 (n := Opl.nil (Evr.sr rfl (Opl.p1 (n := Opl.p1 (n := Opl.nil ?_))))))
  by_cases c3 : t1459 < 0
  case neg =>
   rw [if_neg c3] at H
   have e3 : (decide (t1459 < 0)) = false := by simpa using c3
   try rw [e3]
   refine Evr.condF rfl (Evr.skip (Evr.inBlock (Evr.regionN rfl (Opl.p1 (n := Opl.p1 (n := Opl.p1 (n := Opl.nil ?_)))))))
   exact ih1 _ (by omega) _ _ ⟨by omega, _, _, H, ⟨rfl, rfl, rfl, trivial⟩⟩
  rw [if_pos c3] at H
  have e2 : (decide (t1459 < 0)) = true := by simpa using c3
  try rw [e2]
  refine Evr.condT rfl (Evr.sr rfl (Opl.p1 (n := Opl.nil ?_)))
  obtain rfl := Option.some.inj H
  refine Evr.ret1 Try.func113 rfl ?_
  show (.lit (.int .i64 (-1)) : PV) = _
  first | rfl | (simp only [go_sem]; rfl)
theorem laws_heldTrace.ev {k : Nat} {l0_0 : List (List Int)} {v0_0 : PV} (hv0_0 : Sl (cSl (cInt .i64)) l0_0 v0_0) {l0_1 : List Int} {v0_1 : PV} (hv0_1 : Sl (cInt .i64) l0_1 v0_1) {a1 : Int} {r : Int} (H : laws_heldTrace.f k l0_0 l0_1 a1 = some r) : Ret Try.prog 43 [.agg [v0_0, v0_1], .lit (.int .i64 a1)] fun v S => v = .lit (.int .i64 r) := by
 unfold laws_heldTrace.f at H
 refine Ret.intro Try.func43 rfl (Nat.le_of_ble_eq_true rfl) rfl ?_
 rw [tm2]
 refine Evr.sr rfl (Opl.box (cs := [v0_0, v0_1]) rfl rfl rfl rfl ?_)
 rintro i1 S h1 u1 w1
 refine Opl.p1 (n := Opl.nil (Evr.sr rfl (Opl.p1 (v := .ptr i1 0) (n := Opl.ldb (v := v0_0) h1 rfl T30 rfl rfl rfl rfl (Opl.p1 (n := ?_))))))
 obtain ⟨t1461, h_t1461, H⟩ := Option.bind_eq_some_iff.1 H
 refine Opl.callc (laws_heldIntSS.ev hv0_0 h_t1461) rfl rfl rfl rfl ⟨hv0_0.plain, (.lit _), trivial⟩ (by decide) (Opl.p1 (n := Opl.nil (Evr.seq (Evr.sr rfl (Opl.p1 (n := Opl.p1 (n := Opl.nil ?_)))))))
 by_cases c1 : t1461 < 0
 case pos =>
  rw [if_pos c1] at H
  have e1 : (decide (t1461 < 0)) = true := by simpa using c1
  try rw [e1]
  refine Evr.condT rfl (Evr.sr rfl (Opl.p1 (n := Opl.nil ?_)))
  obtain rfl := Option.some.inj H
  refine Evr.ret1 Try.func43 rfl ?_
  show (.lit (.int .i64 (-1)) : PV) = _
  first | rfl | (simp only [go_sem]; rfl)
 rw [if_neg c1] at H
 have e2 : (decide (t1461 < 0)) = false := by simpa using c1
 try rw [e2]
 refine Evr.condF rfl (Evr.skip (Evr.sr rfl (Opl.p1 (v := .ptr i1 1) (n := Opl.ldb (v := v0_1) h1 rfl T27 rfl rfl rfl rfl (Opl.p1 (n := ?_))))))
 obtain ⟨t1462, h_t1462, H⟩ := Option.bind_eq_some_iff.1 H
 refine Opl.callc (laws_heldIntS.ev hv0_1 h_t1462) rfl rfl rfl rfl ⟨hv0_1.plain, (.lit _), trivial⟩ (by decide) (Opl.p1 (n := Opl.nil (Evr.seq (Evr.sr rfl (Opl.p1 (n := Opl.p1 (n := Opl.nil ?_)))))))
 by_cases c2 : t1462 < 0
 case pos =>
  rw [if_pos c2] at H
  have e3 : (decide (t1462 < 0)) = true := by simpa using c2
  try rw [e3]
  refine Evr.condT rfl (Evr.sr rfl (Opl.p1 (n := Opl.nil ?_)))
  obtain rfl := Option.some.inj H
  refine Evr.ret1 Try.func43 rfl ?_
  show (.lit (.int .i64 (-1)) : PV) = _
  first | rfl | (simp only [go_sem]; rfl)
 rw [if_neg c2] at H
 have e4 : (decide (t1462 < 0)) = false := by simpa using c2
 try rw [e4]
 refine Evr.condF rfl (Evr.skip (Evr.sr rfl (Opl.p1 (n := Opl.p1 (n := Opl.nil ?_)))))
 obtain rfl := Option.some.inj H
 refine Evr.ret1 Try.func43 rfl ?_
 show (.lit (.int .i64 t1462) : PV) = _
 first | rfl | (simp only [go_sem]; rfl)
theorem laws_szIntS.ev {l0 : List Int} {v0 : PV} (hv0 : Sl (cInt .i64) l0 v0) {a1 : Int} {r : Int} (H : laws_szIntS.f l0 a1 = some r) : Ret Try.prog 189 [v0, .lit (.int .i64 a1)] fun v S => v = .lit (.int .i64 r) := by
 unfold laws_szIntS.f at H
 refine Ret.intro Try.func189 rfl (Nat.le_of_ble_eq_true rfl) rfl ?_
 rw [tm2]
 refine Evr.sr rfl (Opl.p1 (n := Opl.nil (Evr.sr rfl (Opl.p1 (n := Opl.p1 (n := Opl.len (xs := l0) (by exact hv0) K27 rfl rfl rfl rfl (Opl.p1 (n := Opl.p1 (n := Opl.nil (Evr.seq (Evr.sr rfl (Opl.p1 (n := Opl.lss (a := (wrap64 (a1 - (l0.length : Int)))) (b := 0) K3 rfl rfl rfl rfl (Opl.nil ?_))))))))))))))
 by_cases c1 : (wrap64 (a1 - (l0.length : Int))) < 0
 case pos =>
  rw [if_pos c1] at H
  have e1 : (decide ((wrap64 (a1 - (l0.length : Int))) < 0)) = true := by simpa using c1
  try rw [e1]
  refine Evr.condT rfl (Evr.sr rfl (Opl.p1 (n := Opl.nil ?_)))
  obtain rfl := Option.some.inj H
  refine Evr.ret1 Try.func189 rfl ?_
  show (.lit (.int .i64 (-1)) : PV) = _
  first | rfl | (simp only [go_sem]; rfl)
 rw [if_neg c1] at H
 have e2 : (decide ((wrap64 (a1 - (l0.length : Int))) < 0)) = false := by simpa using c1
 try rw [e2]
 refine Evr.condF rfl (Evr.skip (Evr.sr rfl (Opl.p1 (n := Opl.p1 (n := Opl.nil ?_)))))
 obtain rfl := Option.some.inj H
 refine Evr.ret1 Try.func189 rfl ?_
 show (.lit (.int .i64 (wrap64 (a1 - (l0.length : Int)))) : PV) = _
 first | rfl | (simp only [go_sem]; rfl)
theorem laws_szTermS.ev {l0 : List LTerm} {v0 : PV} (hv0 : Sl cLTerm l0 v0) {a1 : Int} {r : Int} (H : laws_szTermS.f l0 a1 = some r) : Ret Try.prog 188 [v0, .lit (.int .i64 a1)] fun v S => v = .lit (.int .i64 r) := by
 unfold laws_szTermS.f at H
 refine Ret.intro Try.func188 rfl (Nat.le_of_ble_eq_true rfl) rfl ?_
 rw [tm2]
 refine Evr.sr rfl (Opl.p1 (n := Opl.nil (Evr.sr rfl (Opl.p1 (n := Opl.p1 (n := Opl.len (xs := l0) (by exact hv0) K148 rfl rfl rfl rfl (Opl.p1 (n := Opl.p1 (n := Opl.nil (Evr.seq (Evr.sr rfl (Opl.p1 (n := Opl.lss (a := (wrap64 (a1 - (l0.length : Int)))) (b := 0) K3 rfl rfl rfl rfl (Opl.nil ?_))))))))))))))
 by_cases c1 : (wrap64 (a1 - (l0.length : Int))) < 0
 case pos =>
  rw [if_pos c1] at H
  have e1 : (decide ((wrap64 (a1 - (l0.length : Int))) < 0)) = true := by simpa using c1
  try rw [e1]
  refine Evr.condT rfl (Evr.sr rfl (Opl.p1 (n := Opl.nil ?_)))
  obtain rfl := Option.some.inj H
  refine Evr.ret1 Try.func188 rfl ?_
  show (.lit (.int .i64 (-1)) : PV) = _
  first | rfl | (simp only [go_sem]; rfl)
 rw [if_neg c1] at H
 have e2 : (decide ((wrap64 (a1 - (l0.length : Int))) < 0)) = false := by simpa using c1
 try rw [e2]
 refine Evr.condF rfl (Evr.skip (Evr.sr rfl (Opl.p1 (n := Opl.p1 (n := Opl.nil ?_)))))
 obtain rfl := Option.some.inj H
 refine Evr.ret1 Try.func188 rfl ?_
 show (.lit (.int .i64 (wrap64 (a1 - (l0.length : Int)))) : PV) = _
 first | rfl | (simp only [go_sem]; rfl)
theorem laws_szTermSS.ev {k : Nat} {l0 : List (List LTerm)} {v0 : PV} (hv0 : Sl (cSl cLTerm) l0 v0) {a1 : Int} {r : Int} (H : laws_szTermSS.f k l0 a1 = some r) : Ret Try.prog 190 [v0, .lit (.int .i64 a1)] fun v S => v = .lit (.int .i64 r) := by
 unfold laws_szTermSS.f at H
 refine Ret.intro Try.func190 rfl (Nat.le_of_ble_eq_true rfl) rfl ?_
 rw [tm2]
 refine Evr.sr rfl (Opl.p1 (n := Opl.nil (Evr.sr rfl (Opl.p1 (n := Opl.p1 (n := Opl.len (xs := l0) (by exact hv0) K149 rfl rfl rfl rfl (Opl.p1 (n := Opl.p1 (n := Opl.nil (Evr.seq (Evr.sr rfl (Opl.p1 (n := Opl.lss (a := (wrap64 (a1 - (l0.length : Int)))) (b := 0) K3 rfl rfl rfl rfl (Opl.nil ?_))))))))))))))
 by_cases c1 : (wrap64 (a1 - (l0.length : Int))) < 0
 case pos =>
  rw [if_pos c1] at H
  have e1 : (decide ((wrap64 (a1 - (l0.length : Int))) < 0)) = true := by simpa using c1
  try rw [e1]
  refine Evr.condT rfl (Evr.sr rfl (Opl.p1 (n := Opl.nil ?_)))
  obtain rfl := Option.some.inj H
  refine Evr.ret1 Try.func190 rfl ?_
  show (.lit (.int .i64 (-1)) : PV) = _
  first | rfl | (simp only [go_sem]; rfl)
 rw [if_neg c1] at H
 have e2 : (decide ((wrap64 (a1 - (l0.length : Int))) < 0)) = false := by simpa using c1
 try rw [e2]
 refine Evr.condF rfl (Evr.skip (Evr.seq (Evr.sr rfl (Opl.p1 (n := Opl.nil (Evr.block ?_))))))
 refine Evr.loop (Evr.rounds (n := k) (Inv := fun n tm S => n ≤ k ∧ ∃ (x1_1 : Int) (x5_1 : Int), laws_szTermSS.l0 n l0 x1_1 x5_1 = some r ∧ Has tm [(0, v0), (1, .lit (.int .i64 x1_1)), (5, .lit (.int .i64 x5_1))]) ?_ ?_ ?_)
 · exact ⟨Nat.le_refl _, _, _, H, ⟨rfl, rfl, rfl, trivial⟩⟩
 ·
  rintro tm S ⟨_, _, _, H, -⟩
  simp [laws_szTermSS.l0] at H
 ·
  rintro n1 ih1 tm S ⟨hle, x1_1, x5_1, H, hh⟩
  simp only [laws_szTermSS.l0] at H
  rw [hh.eq]
  refine Evr.seq (Evr.sr rfl (Opl.p1 (n := Opl.p1 (n := Opl.len (xs := l0) (by exact hv0) K149 rfl rfl rfl rfl (Opl.p1 (n := Opl.nil ?_))))))
  by_cases c2 : x5_1 < (l0.length : Int)
  case neg =>
   rw [if_neg c2] at H
   have e6 : (decide (x5_1 < (l0.length : Int))) = false := by simpa using c2
   try rw [e6]
   refine Evr.condF rfl (Evr.exit rfl (Evr.sr rfl (Opl.p1 (n := Opl.p1 (n := Opl.nil ?_)))))
   obtain rfl := Option.some.inj H
   refine Evr.ret1 Try.func190 rfl ?_
   show (.lit (.int .i64 x1_1) : PV) = _
   first | rfl | (simp only [go_sem]; rfl)
  rw [if_pos c2] at H
  have e3 : (decide (x5_1 < (l0.length : Int))) = true := by simpa using c2
  try rw [e3]
  refine Evr.condT rfl (Evr.skip (Evr.seq (Evr.block (Evr.sr rfl (Opl.p1 (n := Opl.p1 (n := ?_)))))))
  obtain ⟨c3, H⟩ := peel H
  refine Opl.idx (M := (cSl cLTerm)) (xs := l0) (j := x5_1) ([] : List LTerm) (by exact hv0) rfl (by omega) (by omega) K149 Z148 rfl rfl ?_
  rintro p1 q1 h1
  obtain ⟨pv1, rfl, h2⟩ := h1
  refine Opl.lda (pv1) rfl T148 rfl rfl rfl rfl (Opl.p1 (n := ?_))
  obtain ⟨t1304, h_t1304, H⟩ := Option.bind_eq_some_iff.1 H
  refine Opl.callc (laws_szTermS.ev h2 h_t1304) rfl rfl rfl rfl ⟨h2.plain, (.lit _), trivial⟩ (by decide) (Opl.p1 (n := Opl.nil (Evr.sr rfl (Opl.p1 (n := Opl.p1 (n := Opl.nil ?_))))))
  by_cases c4 : t1304 < 0
  case neg =>
   rw [if_neg c4] at H
   have e5 : (decide (t1304 < 0)) = false := by simpa using c4
   try rw [e5]
   refine Evr.condF rfl (Evr.skip (Evr.inBlock (Evr.regionN rfl (Opl.p1 (n := Opl.p1 (n := Opl.p1 (n := Opl.nil ?_)))))))
   exact ih1 _ (by omega) _ _ ⟨by omega, _, _, H, ⟨rfl, rfl, rfl, trivial⟩⟩
  rw [if_pos c4] at H
  have e4 : (decide (t1304 < 0)) = true := by simpa using c4
  try rw [e4]
  refine Evr.condT rfl (Evr.sr rfl (Opl.p1 (n := Opl.nil ?_)))
  obtain rfl := Option.some.inj H
  refine Evr.ret1 Try.func190 rfl ?_
  show (.lit (.int .i64 (-1)) : PV) = _
  first | rfl | (simp only [go_sem]; rfl)
theorem laws_szRule.ev {k : Nat} {l0_0 : List LTerm} {v0_0 : PV} (hv0_0 : Sl cLTerm l0_0 v0_0) {l0_1 : List Int} {v0_1 : PV} (hv0_1 : Sl (cInt .i64) l0_1 v0_1) {l0_2 : List (List LTerm)} {v0_2 : PV} (hv0_2 : Sl (cSl cLTerm) l0_2 v0_2) {a1 : Int} {r : Int} (H : laws_szRule.f k l0_0 l0_1 l0_2 a1 = some r) : Ret Try.prog 156 [.agg [v0_0, v0_1, v0_2], .lit (.int .i64 a1)] fun v S => v = .lit (.int .i64 r) := by
 unfold laws_szRule.f at H
 refine Ret.intro Try.func156 rfl (Nat.le_of_ble_eq_true rfl) rfl ?_
 rw [tm2]
 refine Evr.sr rfl (Opl.box (cs := [v0_0, v0_1, v0_2]) rfl rfl rfl rfl ?_)
 rintro i1 S h1 u1 w1
 refine Opl.p1 (n := Opl.nil (Evr.sr rfl (Opl.p1 (v := .ptr i1 0) (n := Opl.ldb (v := v0_0) h1 rfl T148 rfl rfl rfl rfl (Opl.p1 (n := ?_))))))
 obtain ⟨t1306, h_t1306, H⟩ := Option.bind_eq_some_iff.1 H
 refine Opl.callc (laws_szTermS.ev hv0_0 h_t1306) rfl rfl rfl rfl ⟨hv0_0.plain, (.lit _), trivial⟩ (by decide) (Opl.p1 (n := Opl.nil (Evr.seq (Evr.sr rfl (Opl.p1 (n := Opl.p1 (n := Opl.nil ?_)))))))
 by_cases c1 : t1306 < 0
 case pos =>
  rw [if_pos c1] at H
  have e1 : (decide (t1306 < 0)) = true := by simpa using c1
  try rw [e1]
  refine Evr.condT rfl (Evr.sr rfl (Opl.p1 (n := Opl.nil ?_)))
  obtain rfl := Option.some.inj H
  refine Evr.ret1 Try.func156 rfl ?_
  show (.lit (.int .i64 (-1)) : PV) = _
  first | rfl | (simp only [go_sem]; rfl)
 rw [if_neg c1] at H
 have e2 : (decide (t1306 < 0)) = false := by simpa using c1
 try rw [e2]
 refine Evr.condF rfl (Evr.skip (Evr.sr rfl (Opl.p1 (v := .ptr i1 1) (n := Opl.ldb (v := v0_1) h1 rfl T27 rfl rfl rfl rfl (Opl.p1 (n := ?_))))))
 obtain ⟨t1307, h_t1307, H⟩ := Option.bind_eq_some_iff.1 H
 refine Opl.callc (laws_szIntS.ev hv0_1 h_t1307) rfl rfl rfl rfl ⟨hv0_1.plain, (.lit _), trivial⟩ (by decide) (Opl.p1 (n := Opl.nil (Evr.seq (Evr.sr rfl (Opl.p1 (n := Opl.p1 (n := Opl.nil ?_)))))))
 by_cases c2 : t1307 < 0
 case pos =>
  rw [if_pos c2] at H
  have e3 : (decide (t1307 < 0)) = true := by simpa using c2
  try rw [e3]
  refine Evr.condT rfl (Evr.sr rfl (Opl.p1 (n := Opl.nil ?_)))
  obtain rfl := Option.some.inj H
  refine Evr.ret1 Try.func156 rfl ?_
  show (.lit (.int .i64 (-1)) : PV) = _
  first | rfl | (simp only [go_sem]; rfl)
 rw [if_neg c2] at H
 have e4 : (decide (t1307 < 0)) = false := by simpa using c2
 try rw [e4]
 refine Evr.condF rfl (Evr.skip (Evr.sr rfl (Opl.p1 (v := .ptr i1 2) (n := Opl.ldb (v := v0_2) h1 rfl T149 rfl rfl rfl rfl (Opl.p1 (n := ?_))))))
 obtain ⟨t1308, h_t1308, H⟩ := Option.bind_eq_some_iff.1 H
 refine Opl.callc (laws_szTermSS.ev hv0_2 h_t1308) rfl rfl rfl rfl ⟨hv0_2.plain, (.lit _), trivial⟩ (by decide) (Opl.p1 (n := Opl.nil (Evr.seq (Evr.sr rfl (Opl.p1 (n := Opl.p1 (n := Opl.nil ?_)))))))
 by_cases c3 : t1308 < 0
 case pos =>
  rw [if_pos c3] at H
  have e5 : (decide (t1308 < 0)) = true := by simpa using c3
  try rw [e5]
  refine Evr.condT rfl (Evr.sr rfl (Opl.p1 (n := Opl.nil ?_)))
  obtain rfl := Option.some.inj H
  refine Evr.ret1 Try.func156 rfl ?_
  show (.lit (.int .i64 (-1)) : PV) = _
  first | rfl | (simp only [go_sem]; rfl)
 rw [if_neg c3] at H
 have e6 : (decide (t1308 < 0)) = false := by simpa using c3
 try rw [e6]
 refine Evr.condF rfl (Evr.skip (Evr.sr rfl (Opl.p1 (n := Opl.p1 (n := Opl.nil ?_)))))
 obtain rfl := Option.some.inj H
 refine Evr.ret1 Try.func156 rfl ?_
 show (.lit (.int .i64 t1308) : PV) = _
 first | rfl | (simp only [go_sem]; rfl)
theorem laws_szRuleS.ev {k : Nat} {l0 : List LRule} {v0 : PV} (hv0 : Sl cLRule l0 v0) {a1 : Int} {r : Int} (H : laws_szRuleS.f k l0 a1 = some r) : Ret Try.prog 104 [v0, .lit (.int .i64 a1)] fun v S => v = .lit (.int .i64 r) := by
 unfold laws_szRuleS.f at H
 refine Ret.intro Try.func104 rfl (Nat.le_of_ble_eq_true rfl) rfl ?_
 rw [tm2]
 refine Evr.sr rfl (Opl.p1 (n := Opl.nil (Evr.sr rfl (Opl.p1 (n := Opl.p1 (n := Opl.len (xs := l0) (by exact hv0) K54 rfl rfl rfl rfl (Opl.p1 (n := Opl.p1 (n := Opl.nil (Evr.seq (Evr.sr rfl (Opl.p1 (n := Opl.lss (a := (wrap64 (a1 - (l0.length : Int)))) (b := 0) K3 rfl rfl rfl rfl (Opl.nil ?_))))))))))))))
 by_cases c1 : (wrap64 (a1 - (l0.length : Int))) < 0
 case pos =>
  rw [if_pos c1] at H
  have e1 : (decide ((wrap64 (a1 - (l0.length : Int))) < 0)) = true := by simpa using c1
  try rw [e1]
  refine Evr.condT rfl (Evr.sr rfl (Opl.p1 (n := Opl.nil ?_)))
  obtain rfl := Option.some.inj H
  refine Evr.ret1 Try.func104 rfl ?_
  show (.lit (.int .i64 (-1)) : PV) = _
  first | rfl | (simp only [go_sem]; rfl)
 rw [if_neg c1] at H
 have e2 : (decide ((wrap64 (a1 - (l0.length : Int))) < 0)) = false := by simpa using c1
 try rw [e2]
 refine Evr.condF rfl (Evr.skip (Evr.seq (Evr.sr rfl (Opl.p1 (n := Opl.nil (Evr.block ?_))))))
 refine Evr.loop (Evr.rounds (n := k) (Inv := fun n tm S => n ≤ k ∧ ∃ (x1_1 : Int) (x5_1 : Int), laws_szRuleS.l0 n l0 x1_1 x5_1 = some r ∧ Has tm [(0, v0), (1, .lit (.int .i64 x1_1)), (5, .lit (.int .i64 x5_1))]) ?_ ?_ ?_)
 · exact ⟨Nat.le_refl _, _, _, H, ⟨rfl, rfl, rfl, trivial⟩⟩
 ·
  rintro tm S ⟨_, _, _, H, -⟩
  simp [laws_szRuleS.l0] at H
 ·
  rintro n1 ih1 tm S ⟨hle, x1_1, x5_1, H, hh⟩
  simp only [laws_szRuleS.l0] at H
  rw [hh.eq]
  refine Evr.seq (Evr.sr rfl (Opl.p1 (n := Opl.p1 (n := Opl.len (xs := l0) (by exact hv0) K54 rfl rfl rfl rfl (Opl.p1 (n := Opl.nil ?_))))))
  by_cases c2 : x5_1 < (l0.length : Int)
  case neg =>
   rw [if_neg c2] at H
   have e6 : (decide (x5_1 < (l0.length : Int))) = false := by simpa using c2
   try rw [e6]
   refine Evr.condF rfl (Evr.exit rfl (Evr.sr rfl (Opl.p1 (n := Opl.p1 (n := Opl.nil ?_)))))
   obtain rfl := Option.some.inj H
   refine Evr.ret1 Try.func104 rfl ?_
   show (.lit (.int .i64 x1_1) : PV) = _
   first | rfl | (simp only [go_sem]; rfl)
  rw [if_pos c2] at H
  have e3 : (decide (x5_1 < (l0.length : Int))) = true := by simpa using c2
  try rw [e3]
  refine Evr.condT rfl (Evr.skip (Evr.seq (Evr.block (Evr.sr rfl (Opl.p1 (n := Opl.p1 (n := ?_)))))))
  obtain ⟨c3, H⟩ := peel H
  refine Opl.idx (M := cLRule) (xs := l0) (j := x5_1) zLRule (by exact hv0) rfl (by omega) (by omega) K54 Z151 rfl rfl ?_
  rintro p1 q1 h1
  obtain ⟨pv1, pv2, pv3, rfl, h2, h3, h4⟩ := cLRule_R (x := (rd_LRule l0 x5_1)) h1
  refine Opl.lda (.agg [pv1, pv2, pv3]) rfl T151 rfl rfl rfl rfl (Opl.p1 (n := ?_))
  obtain ⟨t1310, h_t1310, H⟩ := Option.bind_eq_some_iff.1 H
  refine Opl.callc (laws_szRule.ev h2 h3 h4 h_t1310) rfl rfl rfl rfl ⟨(.aggL ⟨h2.plain, h3.plain, h4.plain, trivial⟩), (.lit _), trivial⟩ (by decide) (Opl.p1 (n := Opl.nil (Evr.sr rfl (Opl.p1 (n := Opl.p1 (n := Opl.nil ?_))))))
  by_cases c4 : t1310 < 0
  case neg =>
   rw [if_neg c4] at H
   have e5 : (decide (t1310 < 0)) = false := by simpa using c4
   try rw [e5]
   refine Evr.condF rfl (Evr.skip (Evr.inBlock (Evr.regionN rfl (Opl.p1 (n := Opl.p1 (n := Opl.p1 (n := Opl.nil ?_)))))))
   exact ih1 _ (by omega) _ _ ⟨by omega, _, _, H, ⟨rfl, rfl, rfl, trivial⟩⟩
  rw [if_pos c4] at H
  have e4 : (decide (t1310 < 0)) = true := by simpa using c4
  try rw [e4]
  refine Evr.condT rfl (Evr.sr rfl (Opl.p1 (n := Opl.nil ?_)))
  obtain rfl := Option.some.inj H
  refine Evr.ret1 Try.func104 rfl ?_
  show (.lit (.int .i64 (-1)) : PV) = _
  first | rfl | (simp only [go_sem]; rfl)
theorem laws_szVarS.ev {l0 : List LVar} {v0 : PV} (hv0 : Sl cLVar l0 v0) {a1 : Int} {r : Int} (H : laws_szVarS.f l0 a1 = some r) : Ret Try.prog 103 [v0, .lit (.int .i64 a1)] fun v S => v = .lit (.int .i64 r) := by
 unfold laws_szVarS.f at H
 refine Ret.intro Try.func103 rfl (Nat.le_of_ble_eq_true rfl) rfl ?_
 rw [tm2]
 refine Evr.sr rfl (Opl.p1 (n := Opl.nil (Evr.sr rfl (Opl.p1 (n := Opl.p1 (n := Opl.len (xs := l0) (by exact hv0) K53 rfl rfl rfl rfl (Opl.p1 (n := Opl.p1 (n := Opl.nil (Evr.seq (Evr.sr rfl (Opl.p1 (n := Opl.lss (a := (wrap64 (a1 - (l0.length : Int)))) (b := 0) K3 rfl rfl rfl rfl (Opl.nil ?_))))))))))))))
 by_cases c1 : (wrap64 (a1 - (l0.length : Int))) < 0
 case pos =>
  rw [if_pos c1] at H
  have e1 : (decide ((wrap64 (a1 - (l0.length : Int))) < 0)) = true := by simpa using c1
  try rw [e1]
  refine Evr.condT rfl (Evr.sr rfl (Opl.p1 (n := Opl.nil ?_)))
  obtain rfl := Option.some.inj H
  refine Evr.ret1 Try.func103 rfl ?_
  show (.lit (.int .i64 (-1)) : PV) = _
  first | rfl | (simp only [go_sem]; rfl)
 rw [if_neg c1] at H
 have e2 : (decide ((wrap64 (a1 - (l0.length : Int))) < 0)) = false := by simpa using c1
 try rw [e2]
 refine Evr.condF rfl (Evr.skip (Evr.sr rfl (Opl.p1 (n := Opl.p1 (n := Opl.nil ?_)))))
 obtain rfl := Option.some.inj H
 refine Evr.ret1 Try.func103 rfl ?_
 show (.lit (.int .i64 (wrap64 (a1 - (l0.length : Int)))) : PV) = _
 first | rfl | (simp only [go_sem]; rfl)
theorem laws_szSystem.ev {k : Nat} {l0_0 : List LVar} {v0_0 : PV} (hv0_0 : Sl cLVar l0_0 v0_0) {l0_1 : List LRule} {v0_1 : PV} (hv0_1 : Sl cLRule l0_1 v0_1) {a1 : Int} {r : Int} (H : laws_szSystem.f k l0_0 l0_1 a1 = some r) : Ret Try.prog 33 [.agg [v0_0, v0_1], .lit (.int .i64 a1)] fun v S => v = .lit (.int .i64 r) := by
 unfold laws_szSystem.f at H
 refine Ret.intro Try.func33 rfl (Nat.le_of_ble_eq_true rfl) rfl ?_
 rw [tm2]
 refine Evr.sr rfl (Opl.box (cs := [v0_0, v0_1]) rfl rfl rfl rfl ?_)
 rintro i1 S h1 u1 w1
 refine Opl.p1 (n := Opl.nil (Evr.sr rfl (Opl.p1 (v := .ptr i1 0) (n := Opl.ldb (v := v0_0) h1 rfl T53 rfl rfl rfl rfl (Opl.p1 (n := ?_))))))
 obtain ⟨t1312, h_t1312, H⟩ := Option.bind_eq_some_iff.1 H
 refine Opl.callc (laws_szVarS.ev hv0_0 h_t1312) rfl rfl rfl rfl ⟨hv0_0.plain, (.lit _), trivial⟩ (by decide) (Opl.p1 (n := Opl.nil (Evr.seq (Evr.sr rfl (Opl.p1 (n := Opl.p1 (n := Opl.nil ?_)))))))
 by_cases c1 : t1312 < 0
 case pos =>
  rw [if_pos c1] at H
  have e1 : (decide (t1312 < 0)) = true := by simpa using c1
  try rw [e1]
  refine Evr.condT rfl (Evr.sr rfl (Opl.p1 (n := Opl.nil ?_)))
  obtain rfl := Option.some.inj H
  refine Evr.ret1 Try.func33 rfl ?_
  show (.lit (.int .i64 (-1)) : PV) = _
  first | rfl | (simp only [go_sem]; rfl)
 rw [if_neg c1] at H
 have e2 : (decide (t1312 < 0)) = false := by simpa using c1
 try rw [e2]
 refine Evr.condF rfl (Evr.skip (Evr.sr rfl (Opl.p1 (v := .ptr i1 1) (n := Opl.ldb (v := v0_1) h1 rfl T54 rfl rfl rfl rfl (Opl.p1 (n := ?_))))))
 obtain ⟨t1313, h_t1313, H⟩ := Option.bind_eq_some_iff.1 H
 refine Opl.callc (laws_szRuleS.ev hv0_1 h_t1313) rfl rfl rfl rfl ⟨hv0_1.plain, (.lit _), trivial⟩ (by decide) (Opl.p1 (n := Opl.nil (Evr.seq (Evr.sr rfl (Opl.p1 (n := Opl.p1 (n := Opl.nil ?_)))))))
 by_cases c2 : t1313 < 0
 case pos =>
  rw [if_pos c2] at H
  have e3 : (decide (t1313 < 0)) = true := by simpa using c2
  try rw [e3]
  refine Evr.condT rfl (Evr.sr rfl (Opl.p1 (n := Opl.nil ?_)))
  obtain rfl := Option.some.inj H
  refine Evr.ret1 Try.func33 rfl ?_
  show (.lit (.int .i64 (-1)) : PV) = _
  first | rfl | (simp only [go_sem]; rfl)
 rw [if_neg c2] at H
 have e4 : (decide (t1313 < 0)) = false := by simpa using c2
 try rw [e4]
 refine Evr.condF rfl (Evr.skip (Evr.sr rfl (Opl.p1 (n := Opl.p1 (n := Opl.nil ?_)))))
 obtain rfl := Option.some.inj H
 refine Evr.ret1 Try.func33 rfl ?_
 show (.lit (.int .i64 t1313) : PV) = _
 first | rfl | (simp only [go_sem]; rfl)
theorem laws_toIntS.ev {k : Nat} {l0 : List Int} {v0 : PV} (hv0 : Sl (cInt .i64) l0 v0) {r : (List Int)} (H : laws_toIntS.f k l0 = some r) : Ret Try.prog 36 [v0] fun v S => Vec (cInt .i64) r v S := by
 unfold laws_toIntS.f at H
 refine Ret.intro Try.func36 rfl (Nat.le_of_ble_eq_true rfl) rfl ?_
 rw [tm1]
 refine Evr.sr rfl (Opl.p1 (n := Opl.nil (Evr.sr rfl (Opl.p1 (n := Opl.len (xs := l0) (by exact hv0) K27 rfl rfl rfl rfl ?_)))))
 obtain ⟨c1, H⟩ := peel H
 obtain ⟨c2, H⟩ := peel H
 refine Opl.make (M := (cInt .i64)) (m := (l0.length : Int)) (0 : Int) (by exact rfl) rfl rfl K27 T3 rfl (by omega) (by show ((l0.length : Int)).toNat * 8 ≤ 281474976710656; omega) (by omega) rfl rfl rfl ?_
 rintro pv1 S h1 u1 w1
 refine Opl.p1 (n := Opl.nil (Evr.seq (Evr.sr rfl (Opl.p1 (n := Opl.nil (Evr.block ?_))))))
 refine Evr.loop (Evr.rounds (n := k) (Inv := fun n tm S => n ≤ k ∧ ∃ (x3_1 : List Int) (x4_1 : Int) (pv2 : PV), laws_toIntS.l0 n l0 x3_1 x4_1 = some r ∧ Has tm [(0, v0), (3, pv2), (4, .lit (.int .i64 x4_1))] ∧ Vec (cInt .i64) x3_1 pv2 S) ?_ ?_ ?_)
 · exact ⟨Nat.le_refl _, _, _, _, H, ⟨rfl, rfl, rfl, trivial⟩, h1⟩
 ·
  rintro tm S ⟨_, _, _, _, H, -⟩
  simp [laws_toIntS.l0] at H
 ·
  rintro n1 ih1 tm S ⟨hle, x3_1, x4_1, pv2, H, hh, h2⟩
  simp only [laws_toIntS.l0] at H
  rw [hh.eq]
  refine Evr.seq (Evr.sr rfl (Opl.p1 (n := Opl.p1 (n := Opl.len (xs := l0) (by exact hv0) K27 rfl rfl rfl rfl (Opl.p1 (n := Opl.nil ?_))))))
  by_cases c3 : x4_1 < (l0.length : Int)
  case neg =>
   rw [if_neg c3] at H
   have e2 : (decide (x4_1 < (l0.length : Int))) = false := by simpa using c3
   try rw [e2]
   refine Evr.condF rfl (Evr.exit rfl (Evr.sr rfl (Opl.p1 (n := Opl.p1 (n := Opl.nil ?_)))))
   obtain rfl := Option.some.inj H
   refine Evr.ret1 Try.func36 rfl ?_
   show Vec _ _ pv2 _
   exact h2
  rw [if_pos c3] at H
  have e1 : (decide (x4_1 < (l0.length : Int))) = true := by simpa using c3
  try rw [e1]
  refine Evr.condT rfl (Evr.skip (Evr.seq (Evr.block (Evr.regionN rfl (Opl.p1 (n := Opl.p1 (n := Opl.p1 (n := Opl.p1 (n := ?_)))))))))
  obtain ⟨c4, H⟩ := peel H
  obtain ⟨c5, H⟩ := peel H
  refine Opl.idx (M := (cInt .i64)) (xs := l0) (j := x4_1) (0 : Int) (by exact hv0) rfl (by omega) (by omega) K27 Z3 rfl rfl ?_
  rintro p1 q1 h3
  obtain rfl : p1 = [.lit (.int .i64 (rd l0 x4_1))] := h3
  refine Opl.lda (.lit (.int .i64 (rd l0 x4_1))) rfl T3 rfl rfl rfl rfl (Opl.idv (M := (cInt .i64)) (xs := x3_1) (j := x4_1) (v := pv2) h2 rfl rfl (by omega) (by omega) K27 Z3 rfl rfl ?_)
  rintro d1 z1 q2 h4 h5
  refine Opl.stv (M := (cInt .i64)) (xs := x3_1) (j := x4_1) (y := (rd l0 x4_1)) (vs := [.lit (.int .i64 (rd l0 x4_1))]) h4 h5 (by omega) (by omega) rfl rfl (by exact rfl) Z3 rfl rfl rfl rfl ?_
  rw [← q2]
  rintro S h6 u2
  refine Opl.nil (Evr.inBlock (Evr.regionN rfl (Opl.p1 (n := Opl.p1 (n := Opl.p1 (n := Opl.nil ?_))))))
  exact ih1 _ (by omega) _ _ ⟨by omega, _, _, _, H, ⟨rfl, rfl, rfl, trivial⟩, h6⟩
theorem laws_toTerm.ev {a0_0 : Int} {a0_1 : Int} {a0_2 : Int} {a0_3 : Int} {r : (Int × Int × Int × Int)} (H : laws_toTerm.f a0_0 a0_1 a0_2 a0_3 = some r) : Ret Try.prog 201 [.agg [.lit (.int .i64 a0_0), .lit (.int .i64 a0_1), .lit (.int .i64 a0_2), .lit (.int .i64 a0_3)]] fun v S => Out (fun q => ∃ q1 q2 q3 q4, q = .agg [q1, q2, q3, q4] ∧ q1 = .lit (.int .i64 r.1) ∧ q2 = .lit (.int .i64 r.2.1) ∧ q3 = .lit (.int .i64 r.2.2.1) ∧ q4 = .lit (.int .i64 r.2.2.2)) v S := by
 unfold laws_toTerm.f at H
 refine Ret.intro Try.func201 rfl (Nat.le_of_ble_eq_true rfl) rfl ?_
 rw [tm1]
 refine Evr.sr rfl (Opl.box (cs := [.lit (.int .i64 a0_0), .lit (.int .i64 a0_1), .lit (.int .i64 a0_2), .lit (.int .i64 a0_3)]) rfl rfl rfl rfl ?_)
 rintro i1 S h1 u1 w1
 refine Opl.alloc T128 rfl rfl rfl ?_
 rintro i2 S h2 u2 w2
 have ap1 := w2.box h1
 have h3 := u2.box h1 ap1
 refine Opl.nil (Evr.sr rfl (Opl.alloc T128 rfl rfl rfl ?_))
 rintro i3 S h4 u3 w3
 have ap2 := w3.box h3
 have h5 := u3.box h3 ap2
 have ap3 := w3.box h2
 have h6 := u3.box h2 ap3
 refine Opl.nil (Evr.sr rfl (Opl.p1 (v := .ptr i1 0) (n := Opl.ldb (v := .lit (.int .i64 a0_0)) h5 rfl T3 rfl rfl rfl rfl (Opl.p1 (v := .ptr i3 0) (n := Opl.stb (vs := [.lit (.int .i64 a0_0)]) h4 rfl rfl Z3 rfl (Nat.le_of_ble_eq_true rfl) rfl rfl rfl rfl ?_)))))
 rintro S (h7 : Box (.ptr i3 0) [.lit (.int .i64 a0_0), .lit (.int .i64 0), .lit (.int .i64 0), .lit (.int .i64 0)] _) u4
 have h8 := u4.box h5 ap2
 have h9 := u4.box h6 ap3
 refine Opl.nil (Evr.sr rfl (Opl.p1 (v := .ptr i1 1) (n := Opl.ldb (v := .lit (.int .i64 a0_1)) h8 rfl T3 rfl rfl rfl rfl (Opl.p1 (v := .ptr i3 1) (n := Opl.stb (vs := [.lit (.int .i64 a0_1)]) h7 rfl rfl Z3 rfl (Nat.le_of_ble_eq_true rfl) rfl rfl rfl rfl ?_)))))
 rintro S (h10 : Box (.ptr i3 0) [.lit (.int .i64 a0_0), .lit (.int .i64 a0_1), .lit (.int .i64 0), .lit (.int .i64 0)] _) u5
 have h11 := u5.box h8 ap2
 have h12 := u5.box h9 ap3
 refine Opl.nil (Evr.sr rfl (Opl.p1 (v := .ptr i1 2) (n := Opl.ldb (v := .lit (.int .i64 a0_2)) h11 rfl T3 rfl rfl rfl rfl (Opl.p1 (v := .ptr i3 2) (n := Opl.stb (vs := [.lit (.int .i64 a0_2)]) h10 rfl rfl Z3 rfl (Nat.le_of_ble_eq_true rfl) rfl rfl rfl rfl ?_)))))
 rintro S (h13 : Box (.ptr i3 0) [.lit (.int .i64 a0_0), .lit (.int .i64 a0_1), .lit (.int .i64 a0_2), .lit (.int .i64 0)] _) u6
 have h14 := u6.box h11 ap2
 have h15 := u6.box h12 ap3
 refine Opl.nil (Evr.sr rfl (Opl.p1 (v := .ptr i1 3) (n := Opl.ldb (v := .lit (.int .i64 a0_3)) h14 rfl T3 rfl rfl rfl rfl (Opl.p1 (v := .ptr i3 3) (n := Opl.stb (vs := [.lit (.int .i64 a0_3)]) h13 rfl rfl Z3 rfl (Nat.le_of_ble_eq_true rfl) rfl rfl rfl rfl ?_)))))
 rintro S (h16 : Box (.ptr i3 0) [.lit (.int .i64 a0_0), .lit (.int .i64 a0_1), .lit (.int .i64 a0_2), .lit (.int .i64 a0_3)] _) u7
 have h17 := u7.box h14 ap2
 have h18 := u7.box h15 ap3
 refine Opl.nil (Evr.sr rfl (Opl.ldb (v := .agg [.lit (.int .i64 a0_0), .lit (.int .i64 a0_1), .lit (.int .i64 a0_2), .lit (.int .i64 a0_3)]) h16 rfl T128 rfl rfl rfl rfl (Opl.stb (vs := [.lit (.int .i64 a0_0), .lit (.int .i64 a0_1), .lit (.int .i64 a0_2), .lit (.int .i64 a0_3)]) h18 rfl rfl Z128 rfl (Nat.le_of_ble_eq_true rfl) rfl rfl rfl rfl ?_)))
 rintro S (h19 : Box (.ptr i2 0) [.lit (.int .i64 a0_0), .lit (.int .i64 a0_1), .lit (.int .i64 a0_2), .lit (.int .i64 a0_3)] _) u8
 have h20 := u8.box h17 ap1
 have h21 := u8.box h16 ap3.symm
 refine Opl.nil ?_
 obtain rfl := Option.some.inj H
 refine Evr.retb (v := .agg [.lit (.int .i64 a0_0), .lit (.int .i64 a0_1), .lit (.int .i64 a0_2), .lit (.int .i64 a0_3)]) Try.func201 rfl h19 rfl T128 rfl ?_
 show Out _ (.agg [.lit (.int .i64 a0_0), .lit (.int .i64 a0_1), .lit (.int .i64 a0_2), .lit (.int .i64 a0_3)]) _
 exact (.agg4 .lit .lit .lit .lit)
theorem laws_toTermS.ev {k : Nat} {l0 : List LTerm} {v0 : PV} (hv0 : Sl cLTerm l0 v0) {r : (List ITerm)} (H : laws_toTermS.f k l0 = some r) : Ret Try.prog 191 [v0] fun v S => Vec cITerm r v S := by
 unfold laws_toTermS.f at H
 refine Ret.intro Try.func191 rfl (Nat.le_of_ble_eq_true rfl) rfl ?_
 rw [tm1]
 refine Evr.sr rfl (Opl.p1 (n := Opl.nil (Evr.sr rfl (Opl.p1 (n := Opl.len (xs := l0) (by exact hv0) K148 rfl rfl rfl rfl ?_)))))
 obtain ⟨c1, H⟩ := peel H
 obtain ⟨c2, H⟩ := peel H
 refine Opl.make (M := cITerm) (m := (l0.length : Int)) zITerm (by exact cITerm_z) rfl rfl K66 T128 rfl (by omega) (by show ((l0.length : Int)).toNat * 32 ≤ 281474976710656; omega) (by omega) rfl rfl rfl ?_
 rintro pv1 S h1 u1 w1
 refine Opl.p1 (n := Opl.nil (Evr.seq (Evr.sr rfl (Opl.p1 (n := Opl.nil (Evr.block ?_))))))
 refine Evr.loop (Evr.rounds (n := k) (Inv := fun n tm S => n ≤ k ∧ ∃ (x3_1 : List (ITerm)) (x4_1 : Int) (pv2 : PV), laws_toTermS.l0 n l0 x3_1 x4_1 = some r ∧ Has tm [(0, v0), (3, pv2), (4, .lit (.int .i64 x4_1))] ∧ Vec cITerm x3_1 pv2 S) ?_ ?_ ?_)
 · exact ⟨Nat.le_refl _, _, _, _, H, ⟨rfl, rfl, rfl, trivial⟩, h1⟩
 ·
  rintro tm S ⟨_, _, _, _, H, -⟩
  simp [laws_toTermS.l0] at H
 ·
  rintro n1 ih1 tm S ⟨hle, x3_1, x4_1, pv2, H, hh, h2⟩
  simp only [laws_toTermS.l0] at H
  rw [hh.eq]
  refine Evr.seq (Evr.sr rfl (Opl.p1 (n := Opl.p1 (n := Opl.len (xs := l0) (by exact hv0) K148 rfl rfl rfl rfl (Opl.p1 (n := Opl.nil ?_))))))
  by_cases c3 : x4_1 < (l0.length : Int)
  case neg =>
   rw [if_neg c3] at H
   have e2 : (decide (x4_1 < (l0.length : Int))) = false := by simpa using c3
   try rw [e2]
   refine Evr.condF rfl (Evr.exit rfl (Evr.sr rfl (Opl.p1 (n := Opl.p1 (n := Opl.nil ?_)))))
   obtain rfl := Option.some.inj H
   refine Evr.ret1 Try.func191 rfl ?_
   show Vec _ _ pv2 _
   exact h2
  rw [if_pos c3] at H
  have e1 : (decide (x4_1 < (l0.length : Int))) = true := by simpa using c3
  try rw [e1]
  refine Evr.condT rfl (Evr.skip (Evr.seq (Evr.block (Evr.regionN rfl (Opl.p1 (n := Opl.p1 (n := Opl.p1 (n := Opl.p1 (n := ?_)))))))))
  obtain ⟨c4, H⟩ := peel H
  refine Opl.idx (M := cLTerm) (xs := l0) (j := x4_1) zLTerm (by exact hv0) rfl (by omega) (by omega) K148 Z180 rfl rfl ?_
  rintro p1 q1 h3
  obtain rfl := cLTerm_R (x := (rd_LTerm l0 x4_1)) h3
  refine Opl.lda (.agg [.lit (.int .i64 ((rd_LTerm l0 x4_1).f0)), .lit (.int .i64 ((rd_LTerm l0 x4_1).f1)), .lit (.int .i64 ((rd_LTerm l0 x4_1).f2)), .lit (.int .i64 ((rd_LTerm l0 x4_1).f3))]) rfl T180 rfl rfl rfl rfl ?_
  obtain ⟨bt1361, h_bt1361, H⟩ := Option.bind_eq_some_iff.1 H
  refine Opl.call (laws_toTerm.ev h_bt1361) rfl rfl rfl rfl ⟨(.aggL ⟨(.lit _), (.lit _), (.lit _), (.lit _), trivial⟩), trivial⟩ (by decide) ?_
  rintro _ ⟨_, _, _, _, rfl, rfl, rfl, rfl, rfl⟩
  obtain ⟨c5, H⟩ := peel H
  refine Opl.idv (M := cITerm) (xs := x3_1) (j := x4_1) (v := pv2) h2 rfl rfl (by omega) (by omega) K66 Z128 rfl rfl ?_
  rintro d1 z1 q2 h5 h6
  refine Opl.stv (M := cITerm) (xs := x3_1) (j := x4_1) (y := (⟨bt1361.1, bt1361.2.1, bt1361.2.2.1, bt1361.2.2.2⟩ : ITerm)) (vs := [.lit (.int .i64 bt1361.1), .lit (.int .i64 bt1361.2.1), .lit (.int .i64 bt1361.2.2.1), .lit (.int .i64 bt1361.2.2.2)]) h5 h6 (by omega) (by omega) rfl rfl (by exact cITerm_mk) Z128 rfl rfl rfl rfl ?_
  rw [← q2]
  rintro S h7 u2
  refine Opl.nil (Evr.inBlock (Evr.regionN rfl (Opl.p1 (n := Opl.p1 (n := Opl.p1 (n := Opl.nil ?_))))))
  exact ih1 _ (by omega) _ _ ⟨by omega, _, _, _, H, ⟨rfl, rfl, rfl, trivial⟩, h7⟩
theorem laws_toTermSS.ev {k : Nat} {l0 : List (List LTerm)} {v0 : PV} (hv0 : Sl (cSl cLTerm) l0 v0) {r : (List (List ITerm))} (H : laws_toTermSS.f k l0 = some r) : Ret Try.prog 192 [v0] fun v S => Vec (cSl cITerm) r v S := by
 unfold laws_toTermSS.f at H
 refine Ret.intro Try.func192 rfl (Nat.le_of_ble_eq_true rfl) rfl ?_
 rw [tm1]
 refine Evr.sr rfl (Opl.p1 (n := Opl.nil (Evr.sr rfl (Opl.p1 (n := Opl.len (xs := l0) (by exact hv0) K149 rfl rfl rfl rfl ?_)))))
 obtain ⟨c1, H⟩ := peel H
 obtain ⟨c2, H⟩ := peel H
 refine Opl.make (M := (cSl cITerm)) (m := (l0.length : Int)) ([] : List ITerm) (by exact ⟨_, rfl, .nil⟩) rfl rfl K104 T66 rfl (by omega) (by show ((l0.length : Int)).toNat * 24 ≤ 281474976710656; omega) (by omega) rfl rfl rfl ?_
 rintro pv1 S h1 u1 w1
 refine Opl.p1 (n := Opl.nil (Evr.seq (Evr.sr rfl (Opl.p1 (n := Opl.nil (Evr.block ?_))))))
 refine Evr.loop (Evr.rounds (n := k) (Inv := fun n tm S => n ≤ k ∧ ∃ (x3_1 : List (List (ITerm))) (x4_1 : Int) (pv2 : PV), laws_toTermSS.l0 n l0 x3_1 x4_1 = some r ∧ Has tm [(0, v0), (3, pv2), (4, .lit (.int .i64 x4_1))] ∧ Vec (cSl cITerm) x3_1 pv2 S) ?_ ?_ ?_)
 · exact ⟨Nat.le_refl _, _, _, _, H, ⟨rfl, rfl, rfl, trivial⟩, h1⟩
 ·
  rintro tm S ⟨_, _, _, _, H, -⟩
  simp [laws_toTermSS.l0] at H
 ·
  rintro n1 ih1 tm S ⟨hle, x3_1, x4_1, pv2, H, hh, h2⟩
  simp only [laws_toTermSS.l0] at H
  rw [hh.eq]
  refine Evr.seq (Evr.sr rfl (Opl.p1 (n := Opl.p1 (n := Opl.len (xs := l0) (by exact hv0) K149 rfl rfl rfl rfl (Opl.p1 (n := Opl.nil ?_))))))
  by_cases c3 : x4_1 < (l0.length : Int)
  case neg =>
   rw [if_neg c3] at H
   have e2 : (decide (x4_1 < (l0.length : Int))) = false := by simpa using c3
   try rw [e2]
   refine Evr.condF rfl (Evr.exit rfl (Evr.sr rfl (Opl.p1 (n := Opl.p1 (n := Opl.nil ?_)))))
   obtain rfl := Option.some.inj H
   refine Evr.ret1 Try.func192 rfl ?_
   show Vec _ _ pv2 _
   exact h2
  rw [if_pos c3] at H
  have e1 : (decide (x4_1 < (l0.length : Int))) = true := by simpa using c3
  try rw [e1]
  refine Evr.condT rfl (Evr.skip (Evr.seq (Evr.block (Evr.regionN rfl (Opl.p1 (n := Opl.p1 (n := Opl.p1 (n := Opl.p1 (n := ?_)))))))))
  obtain ⟨c4, H⟩ := peel H
  refine Opl.idx (M := (cSl cLTerm)) (xs := l0) (j := x4_1) ([] : List LTerm) (by exact hv0) rfl (by omega) (by omega) K149 Z148 rfl rfl ?_
  rintro p1 q1 h3
  obtain ⟨pv3, rfl, h4⟩ := h3
  refine Opl.lda (pv3) rfl T148 rfl rfl rfl rfl ?_
  obtain ⟨t1370, h_t1370, H⟩ := Option.bind_eq_some_iff.1 H
  refine Opl.call ((laws_toTermS.ev h4 h_t1370).mono fun _ _ h => Out.vec h) rfl rfl rfl rfl ⟨h4.plain, trivial⟩ (by decide) ?_
  rintro pv4 h5
  obtain ⟨c5, H⟩ := peel H
  refine Opl.idv (M := (cSl cITerm)) (xs := x3_1) (j := x4_1) (v := pv2) h2 rfl rfl (by omega) (by omega) K104 Z66 rfl rfl ?_
  rintro d1 z1 q2 h6 h7
  refine Opl.stv (M := (cSl cITerm)) (xs := x3_1) (j := x4_1) (y := t1370) (vs := [pv4]) h6 h7 (by omega) (by omega) rfl (by exact h5.cells) (by exact ⟨_, by first | rfl | exact h5.cells, h5⟩) Z66 (by simp only [List.all_cons, List.all_nil, h5.one, Bool.and_true, Bool.true_and] <;> rfl) rfl rfl rfl ?_
  rw [← q2]
  rintro S h8 u2
  refine Opl.nil (Evr.inBlock (Evr.regionN rfl (Opl.p1 (n := Opl.p1 (n := Opl.p1 (n := Opl.nil ?_))))))
  exact ih1 _ (by omega) _ _ ⟨by omega, _, _, _, H, ⟨rfl, rfl, rfl, trivial⟩, h8⟩
theorem laws_toRule.ev {k : Nat} {l0_0 : List LTerm} {v0_0 : PV} (hv0_0 : Sl cLTerm l0_0 v0_0) {l0_1 : List Int} {v0_1 : PV} (hv0_1 : Sl (cInt .i64) l0_1 v0_1) {l0_2 : List (List LTerm)} {v0_2 : PV} (hv0_2 : Sl (cSl cLTerm) l0_2 v0_2) {r : (List ITerm × List Int × List (List ITerm))} (H : laws_toRule.f k l0_0 l0_1 l0_2 = some r) : Ret Try.prog 158 [.agg [v0_0, v0_1, v0_2]] fun v S => Out (fun q => ∃ q1 q2 q3, q = .agg [q1, q2, q3] ∧ Sl cITerm r.1 q1 ∧ Sl (cInt .i64) r.2.1 q2 ∧ Sl (cSl cITerm) r.2.2 q3) v S := by
 unfold laws_toRule.f at H
 refine Ret.intro Try.func158 rfl (Nat.le_of_ble_eq_true rfl) rfl ?_
 rw [tm1]
 refine Evr.sr rfl (Opl.box (cs := [v0_0, v0_1, v0_2]) rfl rfl rfl rfl ?_)
 rintro i1 S h1 u1 w1
 refine Opl.alloc T106 rfl rfl rfl ?_
 rintro i2 S h2 u2 w2
 have ap1 := w2.box h1
 have h3 := u2.box h1 ap1
 refine Opl.nil (Evr.sr rfl (Opl.alloc T106 rfl rfl rfl ?_))
 rintro i3 S h4 u3 w3
 have ap2 := w3.box h3
 have h5 := u3.box h3 ap2
 have ap3 := w3.box h2
 have h6 := u3.box h2 ap3
 refine Opl.nil (Evr.sr rfl (Opl.p1 (v := .ptr i1 0) (n := Opl.ldb (v := v0_0) h5 rfl T148 rfl rfl rfl rfl ?_)))
 obtain ⟨t1377, h_t1377, H⟩ := Option.bind_eq_some_iff.1 H
 refine Opl.call ((laws_toTermS.ev hv0_0 h_t1377).mono fun _ _ h => Out.vec h) rfl rfl rfl rfl ⟨hv0_0.plain, trivial⟩ (by decide) ?_
 rintro pv1 h7
 refine Opl.p1 (v := .ptr i3 0) (n := Opl.stb (vs := [pv1]) h4 rfl (by exact h7.cells) Z66 rfl (Nat.le_of_ble_eq_true rfl) (by simp only [List.all_cons, List.all_nil, h7.one, Bool.and_true, Bool.true_and] <;> rfl) rfl rfl rfl ?_)
 rintro S (h8 : Box (.ptr i3 0) [pv1, .lit (.slice none 0 0), .lit (.slice none 0 0)] _) u4
 have h9 := u4.box h5 ap2
 have h10 := u4.box h6 ap3
 refine Opl.nil (Evr.sr rfl (Opl.p1 (v := .ptr i1 1) (n := Opl.ldb (v := v0_1) h9 rfl T27 rfl rfl rfl rfl ?_)))
 obtain ⟨t1380, h_t1380, H⟩ := Option.bind_eq_some_iff.1 H
 refine Opl.call ((laws_toIntS.ev hv0_1 h_t1380).mono fun _ _ h => Out.vec h) rfl rfl rfl rfl ⟨hv0_1.plain, trivial⟩ (by decide) ?_
 rintro pv2 h11
 refine Opl.p1 (v := .ptr i3 1) (n := Opl.stb (vs := [pv2]) h8 rfl (by exact h11.cells) Z27 rfl (Nat.le_of_ble_eq_true rfl) (by simp only [List.all_cons, List.all_nil, h11.one, Bool.and_true, Bool.true_and] <;> rfl) rfl rfl rfl ?_)
 rintro S (h12 : Box (.ptr i3 0) [pv1, pv2, .lit (.slice none 0 0)] _) u5
 have h13 := u5.box h9 ap2
 have h14 := u5.box h10 ap3
 refine Opl.nil (Evr.sr rfl (Opl.p1 (v := .ptr i1 2) (n := Opl.ldb (v := v0_2) h13 rfl T149 rfl rfl rfl rfl ?_)))
 obtain ⟨t1383, h_t1383, H⟩ := Option.bind_eq_some_iff.1 H
 refine Opl.call ((laws_toTermSS.ev hv0_2 h_t1383).mono fun _ _ h => Out.vec h) rfl rfl rfl rfl ⟨hv0_2.plain, trivial⟩ (by decide) ?_
 rintro pv3 h15
 refine Opl.p1 (v := .ptr i3 2) (n := Opl.stb (vs := [pv3]) h12 rfl (by exact h15.cells) Z104 rfl (Nat.le_of_ble_eq_true rfl) (by simp only [List.all_cons, List.all_nil, h15.one, Bool.and_true, Bool.true_and] <;> rfl) rfl rfl rfl ?_)
 rintro S (h16 : Box (.ptr i3 0) [pv1, pv2, pv3] _) u6
 have h17 := u6.box h13 ap2
 have h18 := u6.box h14 ap3
 refine Opl.nil (Evr.sr rfl (Opl.ldb (v := .agg [pv1, pv2, pv3]) h16 rfl T106 rfl rfl rfl rfl (Opl.stb (vs := [pv1, pv2, pv3]) h18 rfl rfl Z106 rfl (Nat.le_of_ble_eq_true rfl) (by simp only [List.all_cons, List.all_nil, h7.one, h11.one, h15.one, Bool.and_true, Bool.true_and] <;> rfl) rfl rfl rfl ?_)))
 rintro S (h19 : Box (.ptr i2 0) [pv1, pv2, pv3] _) u7
 have h20 := u7.box h17 ap1
 have h21 := u7.box h16 ap3.symm
 refine Opl.nil ?_
 obtain rfl := Option.some.inj H
 refine Evr.retb (v := .agg [pv1, pv2, pv3]) Try.func158 rfl h19 rfl T106 rfl ?_
 show Out _ (.agg [pv1, pv2, pv3]) _
 exact (.agg3 (.sl h7) (.sl h11) (.sl h15))
theorem laws_toRuleS.ev {k : Nat} {l0 : List LRule} {v0 : PV} (hv0 : Sl cLRule l0 v0) {r : (List IRule)} (H : laws_toRuleS.f k l0 = some r) : Ret Try.prog 106 [v0] fun v S => Vec cIRule r v S := by
 unfold laws_toRuleS.f at H
 refine Ret.intro Try.func106 rfl (Nat.le_of_ble_eq_true rfl) rfl ?_
 rw [tm1]
 refine Evr.sr rfl (Opl.p1 (n := Opl.nil (Evr.sr rfl (Opl.p1 (n := Opl.len (xs := l0) (by exact hv0) K54 rfl rfl rfl rfl ?_)))))
 obtain ⟨c1, H⟩ := peel H
 obtain ⟨c2, H⟩ := peel H
 refine Opl.make (M := cIRule) (m := (l0.length : Int)) zIRule (by exact cIRule_z) rfl rfl K24 T106 rfl (by omega) (by show ((l0.length : Int)).toNat * 72 ≤ 281474976710656; omega) (by omega) rfl rfl rfl ?_
 rintro pv1 S h1 u1 w1
 refine Opl.p1 (n := Opl.nil (Evr.seq (Evr.sr rfl (Opl.p1 (n := Opl.nil (Evr.block ?_))))))
 refine Evr.loop (Evr.rounds (n := k) (Inv := fun n tm S => n ≤ k ∧ ∃ (x3_1 : List (IRule)) (x4_1 : Int) (pv2 : PV), laws_toRuleS.l0 n l0 x3_1 x4_1 = some r ∧ Has tm [(0, v0), (3, pv2), (4, .lit (.int .i64 x4_1))] ∧ Vec cIRule x3_1 pv2 S) ?_ ?_ ?_)
 · exact ⟨Nat.le_refl _, _, _, _, H, ⟨rfl, rfl, rfl, trivial⟩, h1⟩
 ·
  rintro tm S ⟨_, _, _, _, H, -⟩
  simp [laws_toRuleS.l0] at H
 ·
  rintro n1 ih1 tm S ⟨hle, x3_1, x4_1, pv2, H, hh, h2⟩
  simp only [laws_toRuleS.l0] at H
  rw [hh.eq]
  refine Evr.seq (Evr.sr rfl (Opl.p1 (n := Opl.p1 (n := Opl.len (xs := l0) (by exact hv0) K54 rfl rfl rfl rfl (Opl.p1 (n := Opl.nil ?_))))))
  by_cases c3 : x4_1 < (l0.length : Int)
  case neg =>
   rw [if_neg c3] at H
   have e2 : (decide (x4_1 < (l0.length : Int))) = false := by simpa using c3
   try rw [e2]
   refine Evr.condF rfl (Evr.exit rfl (Evr.sr rfl (Opl.p1 (n := Opl.p1 (n := Opl.nil ?_)))))
   obtain rfl := Option.some.inj H
   refine Evr.ret1 Try.func106 rfl ?_
   show Vec _ _ pv2 _
   exact h2
  rw [if_pos c3] at H
  have e1 : (decide (x4_1 < (l0.length : Int))) = true := by simpa using c3
  try rw [e1]
  refine Evr.condT rfl (Evr.skip (Evr.seq (Evr.block (Evr.regionN rfl (Opl.p1 (n := Opl.p1 (n := Opl.p1 (n := Opl.p1 (n := ?_)))))))))
  obtain ⟨c4, H⟩ := peel H
  refine Opl.idx (M := cLRule) (xs := l0) (j := x4_1) zLRule (by exact hv0) rfl (by omega) (by omega) K54 Z151 rfl rfl ?_
  rintro p1 q1 h3
  obtain ⟨pv3, pv4, pv5, rfl, h4, h5, h6⟩ := cLRule_R (x := (rd_LRule l0 x4_1)) h3
  refine Opl.lda (.agg [pv3, pv4, pv5]) rfl T151 rfl rfl rfl rfl ?_
  obtain ⟨bt1390, h_bt1390, H⟩ := Option.bind_eq_some_iff.1 H
  refine Opl.call (laws_toRule.ev h4 h5 h6 h_bt1390) rfl rfl rfl rfl ⟨(.aggL ⟨h4.plain, h5.plain, h6.plain, trivial⟩), trivial⟩ (by decide) ?_
  rintro _ ⟨pv7, pv8, pv9, rfl, h8, h9, h10⟩
  obtain ⟨c5, H⟩ := peel H
  refine Opl.idv (M := cIRule) (xs := x3_1) (j := x4_1) (v := pv2) h2 rfl rfl (by omega) (by omega) K24 Z106 rfl rfl ?_
  rintro d1 z1 q2 h11 h12
  refine Opl.stv (M := cIRule) (xs := x3_1) (j := x4_1) (y := (⟨bt1390.1, bt1390.2.1, bt1390.2.2⟩ : IRule)) (vs := [pv7, pv8, pv9]) h11 h12 (by omega) (by omega) rfl rfl (by exact (cIRule_mk h8 h9 h10)) Z106 (by simp only [List.all_cons, List.all_nil, h8.one, h9.one, h10.one, Bool.and_true, Bool.true_and] <;> rfl) rfl rfl rfl ?_
  rw [← q2]
  rintro S h13 u2
  refine Opl.nil (Evr.inBlock (Evr.regionN rfl (Opl.p1 (n := Opl.p1 (n := Opl.p1 (n := Opl.nil ?_))))))
  exact ih1 _ (by omega) _ _ ⟨by omega, _, _, _, H, ⟨rfl, rfl, rfl, trivial⟩, h13⟩
theorem laws_toVar.ev {a0_0 : Int} {a0_1 : Int} {a0_2 : Int} {r : (Int × Int × Int)} (H : laws_toVar.f a0_0 a0_1 a0_2 = some r) : Ret Try.prog 157 [.agg [.lit (.int .i64 a0_0), .lit (.int .i64 a0_1), .lit (.int .i64 a0_2)]] fun v S => Out (fun q => ∃ q1 q2 q3, q = .agg [q1, q2, q3] ∧ q1 = .lit (.int .i64 r.1) ∧ q2 = .lit (.int .i64 r.2.1) ∧ q3 = .lit (.int .i64 r.2.2)) v S := by
 unfold laws_toVar.f at H
 refine Ret.intro Try.func157 rfl (Nat.le_of_ble_eq_true rfl) rfl ?_
 rw [tm1]
 refine Evr.sr rfl (Opl.box (cs := [.lit (.int .i64 a0_0), .lit (.int .i64 a0_1), .lit (.int .i64 a0_2)]) rfl rfl rfl rfl ?_)
 rintro i1 S h1 u1 w1
 refine Opl.alloc T101 rfl rfl rfl ?_
 rintro i2 S h2 u2 w2
 have ap1 := w2.box h1
 have h3 := u2.box h1 ap1
 refine Opl.nil (Evr.sr rfl (Opl.alloc T101 rfl rfl rfl ?_))
 rintro i3 S h4 u3 w3
 have ap2 := w3.box h3
 have h5 := u3.box h3 ap2
 have ap3 := w3.box h2
 have h6 := u3.box h2 ap3
 refine Opl.nil (Evr.sr rfl (Opl.p1 (v := .ptr i1 0) (n := Opl.ldb (v := .lit (.int .i64 a0_0)) h5 rfl T3 rfl rfl rfl rfl (Opl.p1 (v := .ptr i3 0) (n := Opl.stb (vs := [.lit (.int .i64 a0_0)]) h4 rfl rfl Z3 rfl (Nat.le_of_ble_eq_true rfl) rfl rfl rfl rfl ?_)))))
 rintro S (h7 : Box (.ptr i3 0) [.lit (.int .i64 a0_0), .lit (.int .i64 0), .lit (.int .i64 0)] _) u4
 have h8 := u4.box h5 ap2
 have h9 := u4.box h6 ap3
 refine Opl.nil (Evr.sr rfl (Opl.p1 (v := .ptr i1 1) (n := Opl.ldb (v := .lit (.int .i64 a0_1)) h8 rfl T3 rfl rfl rfl rfl (Opl.p1 (v := .ptr i3 1) (n := Opl.stb (vs := [.lit (.int .i64 a0_1)]) h7 rfl rfl Z3 rfl (Nat.le_of_ble_eq_true rfl) rfl rfl rfl rfl ?_)))))
 rintro S (h10 : Box (.ptr i3 0) [.lit (.int .i64 a0_0), .lit (.int .i64 a0_1), .lit (.int .i64 0)] _) u5
 have h11 := u5.box h8 ap2
 have h12 := u5.box h9 ap3
 refine Opl.nil (Evr.sr rfl (Opl.p1 (v := .ptr i1 2) (n := Opl.ldb (v := .lit (.int .i64 a0_2)) h11 rfl T3 rfl rfl rfl rfl (Opl.p1 (v := .ptr i3 2) (n := Opl.stb (vs := [.lit (.int .i64 a0_2)]) h10 rfl rfl Z3 rfl (Nat.le_of_ble_eq_true rfl) rfl rfl rfl rfl ?_)))))
 rintro S (h13 : Box (.ptr i3 0) [.lit (.int .i64 a0_0), .lit (.int .i64 a0_1), .lit (.int .i64 a0_2)] _) u6
 have h14 := u6.box h11 ap2
 have h15 := u6.box h12 ap3
 refine Opl.nil (Evr.sr rfl (Opl.ldb (v := .agg [.lit (.int .i64 a0_0), .lit (.int .i64 a0_1), .lit (.int .i64 a0_2)]) h13 rfl T101 rfl rfl rfl rfl (Opl.stb (vs := [.lit (.int .i64 a0_0), .lit (.int .i64 a0_1), .lit (.int .i64 a0_2)]) h15 rfl rfl Z101 rfl (Nat.le_of_ble_eq_true rfl) rfl rfl rfl rfl ?_)))
 rintro S (h16 : Box (.ptr i2 0) [.lit (.int .i64 a0_0), .lit (.int .i64 a0_1), .lit (.int .i64 a0_2)] _) u7
 have h17 := u7.box h14 ap1
 have h18 := u7.box h13 ap3.symm
 refine Opl.nil ?_
 obtain rfl := Option.some.inj H
 refine Evr.retb (v := .agg [.lit (.int .i64 a0_0), .lit (.int .i64 a0_1), .lit (.int .i64 a0_2)]) Try.func157 rfl h16 rfl T101 rfl ?_
 show Out _ (.agg [.lit (.int .i64 a0_0), .lit (.int .i64 a0_1), .lit (.int .i64 a0_2)]) _
 exact (.agg3 .lit .lit .lit)
theorem laws_toVarS.ev {k : Nat} {l0 : List LVar} {v0 : PV} (hv0 : Sl cLVar l0 v0) {r : (List IVar)} (H : laws_toVarS.f k l0 = some r) : Ret Try.prog 105 [v0] fun v S => Vec cIVar r v S := by
 unfold laws_toVarS.f at H
 refine Ret.intro Try.func105 rfl (Nat.le_of_ble_eq_true rfl) rfl ?_
 rw [tm1]
 refine Evr.sr rfl (Opl.p1 (n := Opl.nil (Evr.sr rfl (Opl.p1 (n := Opl.len (xs := l0) (by exact hv0) K53 rfl rfl rfl rfl ?_)))))
 obtain ⟨c1, H⟩ := peel H
 obtain ⟨c2, H⟩ := peel H
 refine Opl.make (M := cIVar) (m := (l0.length : Int)) zIVar (by exact cIVar_z) rfl rfl K23 T101 rfl (by omega) (by show ((l0.length : Int)).toNat * 24 ≤ 281474976710656; omega) (by omega) rfl rfl rfl ?_
 rintro pv1 S h1 u1 w1
 refine Opl.p1 (n := Opl.nil (Evr.seq (Evr.sr rfl (Opl.p1 (n := Opl.nil (Evr.block ?_))))))
 refine Evr.loop (Evr.rounds (n := k) (Inv := fun n tm S => n ≤ k ∧ ∃ (x3_1 : List (IVar)) (x4_1 : Int) (pv2 : PV), laws_toVarS.l0 n l0 x3_1 x4_1 = some r ∧ Has tm [(0, v0), (3, pv2), (4, .lit (.int .i64 x4_1))] ∧ Vec cIVar x3_1 pv2 S) ?_ ?_ ?_)
 · exact ⟨Nat.le_refl _, _, _, _, H, ⟨rfl, rfl, rfl, trivial⟩, h1⟩
 ·
  rintro tm S ⟨_, _, _, _, H, -⟩
  simp [laws_toVarS.l0] at H
 ·
  rintro n1 ih1 tm S ⟨hle, x3_1, x4_1, pv2, H, hh, h2⟩
  simp only [laws_toVarS.l0] at H
  rw [hh.eq]
  refine Evr.seq (Evr.sr rfl (Opl.p1 (n := Opl.p1 (n := Opl.len (xs := l0) (by exact hv0) K53 rfl rfl rfl rfl (Opl.p1 (n := Opl.nil ?_))))))
  by_cases c3 : x4_1 < (l0.length : Int)
  case neg =>
   rw [if_neg c3] at H
   have e2 : (decide (x4_1 < (l0.length : Int))) = false := by simpa using c3
   try rw [e2]
   refine Evr.condF rfl (Evr.exit rfl (Evr.sr rfl (Opl.p1 (n := Opl.p1 (n := Opl.nil ?_)))))
   obtain rfl := Option.some.inj H
   refine Evr.ret1 Try.func105 rfl ?_
   show Vec _ _ pv2 _
   exact h2
  rw [if_pos c3] at H
  have e1 : (decide (x4_1 < (l0.length : Int))) = true := by simpa using c3
  try rw [e1]
  refine Evr.condT rfl (Evr.skip (Evr.seq (Evr.block (Evr.regionN rfl (Opl.p1 (n := Opl.p1 (n := Opl.p1 (n := Opl.p1 (n := ?_)))))))))
  obtain ⟨c4, H⟩ := peel H
  refine Opl.idx (M := cLVar) (xs := l0) (j := x4_1) zLVar (by exact hv0) rfl (by omega) (by omega) K53 Z153 rfl rfl ?_
  rintro p1 q1 h3
  obtain rfl := cLVar_R (x := (rd_LVar l0 x4_1)) h3
  refine Opl.lda (.agg [.lit (.int .i64 ((rd_LVar l0 x4_1).f0)), .lit (.int .i64 ((rd_LVar l0 x4_1).f1)), .lit (.int .i64 ((rd_LVar l0 x4_1).f2))]) rfl T153 rfl rfl rfl rfl ?_
  obtain ⟨bt1345, h_bt1345, H⟩ := Option.bind_eq_some_iff.1 H
  refine Opl.call (laws_toVar.ev h_bt1345) rfl rfl rfl rfl ⟨(.aggL ⟨(.lit _), (.lit _), (.lit _), trivial⟩), trivial⟩ (by decide) ?_
  rintro _ ⟨_, _, _, rfl, rfl, rfl, rfl⟩
  obtain ⟨c5, H⟩ := peel H
  refine Opl.idv (M := cIVar) (xs := x3_1) (j := x4_1) (v := pv2) h2 rfl rfl (by omega) (by omega) K23 Z101 rfl rfl ?_
  rintro d1 z1 q2 h5 h6
  refine Opl.stv (M := cIVar) (xs := x3_1) (j := x4_1) (y := (⟨bt1345.1, bt1345.2.1, bt1345.2.2⟩ : IVar)) (vs := [.lit (.int .i64 bt1345.1), .lit (.int .i64 bt1345.2.1), .lit (.int .i64 bt1345.2.2)]) h5 h6 (by omega) (by omega) rfl rfl (by exact cIVar_mk) Z101 rfl rfl rfl rfl ?_
  rw [← q2]
  rintro S h7 u2
  refine Opl.nil (Evr.inBlock (Evr.regionN rfl (Opl.p1 (n := Opl.p1 (n := Opl.p1 (n := Opl.nil ?_))))))
  exact ih1 _ (by omega) _ _ ⟨by omega, _, _, _, H, ⟨rfl, rfl, rfl, trivial⟩, h7⟩
theorem laws_toSystem.ev {k : Nat} {l0_0 : List LVar} {v0_0 : PV} (hv0_0 : Sl cLVar l0_0 v0_0) {l0_1 : List LRule} {v0_1 : PV} (hv0_1 : Sl cLRule l0_1 v0_1) {r : (List IVar × List IRule)} (H : laws_toSystem.f k l0_0 l0_1 = some r) : Ret Try.prog 35 [.agg [v0_0, v0_1]] fun v S => Out (fun q => ∃ q1 q2, q = .agg [q1, q2] ∧ Sl cIVar r.1 q1 ∧ Sl cIRule r.2 q2) v S := by
 unfold laws_toSystem.f at H
 refine Ret.intro Try.func35 rfl (Nat.le_of_ble_eq_true rfl) rfl ?_
 rw [tm1]
 refine Evr.sr rfl (Opl.box (cs := [v0_0, v0_1]) rfl rfl rfl rfl ?_)
 rintro i1 S h1 u1 w1
 refine Opl.alloc T26 rfl rfl rfl ?_
 rintro i2 S h2 u2 w2
 have ap1 := w2.box h1
 have h3 := u2.box h1 ap1
 refine Opl.nil (Evr.sr rfl (Opl.alloc T26 rfl rfl rfl ?_))
 rintro i3 S h4 u3 w3
 have ap2 := w3.box h3
 have h5 := u3.box h3 ap2
 have ap3 := w3.box h2
 have h6 := u3.box h2 ap3
 refine Opl.nil (Evr.sr rfl (Opl.p1 (v := .ptr i1 0) (n := Opl.ldb (v := v0_0) h5 rfl T53 rfl rfl rfl rfl ?_)))
 obtain ⟨t1403, h_t1403, H⟩ := Option.bind_eq_some_iff.1 H
 refine Opl.call ((laws_toVarS.ev hv0_0 h_t1403).mono fun _ _ h => Out.vec h) rfl rfl rfl rfl ⟨hv0_0.plain, trivial⟩ (by decide) ?_
 rintro pv1 h7
 refine Opl.p1 (v := .ptr i3 0) (n := Opl.stb (vs := [pv1]) h4 rfl (by exact h7.cells) Z23 rfl (Nat.le_of_ble_eq_true rfl) (by simp only [List.all_cons, List.all_nil, h7.one, Bool.and_true, Bool.true_and] <;> rfl) rfl rfl rfl ?_)
 rintro S (h8 : Box (.ptr i3 0) [pv1, .lit (.slice none 0 0)] _) u4
 have h9 := u4.box h5 ap2
 have h10 := u4.box h6 ap3
 refine Opl.nil (Evr.sr rfl (Opl.p1 (v := .ptr i1 1) (n := Opl.ldb (v := v0_1) h9 rfl T54 rfl rfl rfl rfl ?_)))
 obtain ⟨t1406, h_t1406, H⟩ := Option.bind_eq_some_iff.1 H
 refine Opl.call ((laws_toRuleS.ev hv0_1 h_t1406).mono fun _ _ h => Out.vec h) rfl rfl rfl rfl ⟨hv0_1.plain, trivial⟩ (by decide) ?_
 rintro pv2 h11
 refine Opl.p1 (v := .ptr i3 1) (n := Opl.stb (vs := [pv2]) h8 rfl (by exact h11.cells) Z24 rfl (Nat.le_of_ble_eq_true rfl) (by simp only [List.all_cons, List.all_nil, h11.one, Bool.and_true, Bool.true_and] <;> rfl) rfl rfl rfl ?_)
 rintro S (h12 : Box (.ptr i3 0) [pv1, pv2] _) u5
 have h13 := u5.box h9 ap2
 have h14 := u5.box h10 ap3
 refine Opl.nil (Evr.sr rfl (Opl.ldb (v := .agg [pv1, pv2]) h12 rfl T26 rfl rfl rfl rfl (Opl.stb (vs := [pv1, pv2]) h14 rfl rfl Z26 rfl (Nat.le_of_ble_eq_true rfl) (by simp only [List.all_cons, List.all_nil, h7.one, h11.one, Bool.and_true, Bool.true_and] <;> rfl) rfl rfl rfl ?_)))
 rintro S (h15 : Box (.ptr i2 0) [pv1, pv2] _) u6
 have h16 := u6.box h13 ap1
 have h17 := u6.box h12 ap3.symm
 refine Opl.nil ?_
 obtain rfl := Option.some.inj H
 refine Evr.retb (v := .agg [pv1, pv2]) Try.func35 rfl h15 rfl T26 rfl ?_
 show Out _ (.agg [pv1, pv2]) _
 exact (.agg2 (.sl h7) (.sl h11))
theorem laws_toTermSS.mk {k : Nat} {l0 : List (List LTerm)} {v0 : PV} (hv0 : Sl (cSl cLTerm) l0 v0) {r : (List (List ITerm))} (H : laws_toTermSS.f k l0 = some r) : Makes Try.prog 192 [v0] (oRow (oRow (oPl cITerm oITerm))) r first := by
 unfold laws_toTermSS.f at H
 refine Makes.intro Try.func192 rfl (Nat.le_of_ble_eq_true rfl) rfl fun S0 => ?_
 rw [tm1]
 refine Evr.sr rfl (Opl.p1 (n := Opl.nil (Evr.sr rfl (Opl.p1 (n := Opl.len (xs := l0) (by exact hv0) K149 rfl rfl rfl rfl ?_)))))
 obtain ⟨c1, H⟩ := peel H
 obtain ⟨c2, H⟩ := peel H
 refine Opl.maket (N := (oRow (oPl cITerm oITerm))) (m := (l0.length : Int)) ([] : List ITerm) (by intro S; exact .inl ⟨rfl, rfl, rfl⟩) rfl rfl K104 T66 rfl (by omega) (by show ((l0.length : Int)).toNat * 24 ≤ 281474976710656; omega) (by omega) rfl rfl rfl ?_
 rintro pv1 S ids1 h1 f1 g1
 refine Opl.p1 (n := Opl.nil (Evr.seq (Evr.sr rfl (Opl.p1 (n := Opl.nil (Evr.block ?_))))))
 refine Evr.loop (Evr.rounds (n := k) (Inv := fun n tm S => n ≤ k ∧ ∃ (x3_1 : List (List (ITerm))) (x4_1 : Int) (pv2 : PV) (ids2 : List Abs.Id), laws_toTermSS.l0 n l0 x3_1 x4_1 = some r ∧ Has tm [(0, v0), (3, pv2), (4, .lit (.int .i64 x4_1))] ∧ (oRow (oRow (oPl cITerm oITerm))).R S ids2 x3_1 [pv2] ∧ Fresh S0 ids2 ∧ Grow S0 S) ?_ ?_ ?_)
 · exact ⟨Nat.le_refl _, _, _, _, _, H, ⟨rfl, rfl, rfl, trivial⟩, h1, f1, g1⟩
 ·
  rintro tm S ⟨_, _, _, _, _, H, -⟩
  simp [laws_toTermSS.l0] at H
 ·
  rintro n1 ih1 tm S ⟨hle, x3_1, x4_1, pv2, ids2, H, hh, h2, f2, g2⟩
  simp only [laws_toTermSS.l0] at H
  rw [hh.eq]
  refine Evr.seq (Evr.sr rfl (Opl.p1 (n := Opl.p1 (n := Opl.len (xs := l0) (by exact hv0) K149 rfl rfl rfl rfl (Opl.p1 (n := Opl.nil ?_))))))
  by_cases c3 : x4_1 < (l0.length : Int)
  case neg =>
   rw [if_neg c3] at H
   have e2 : (decide (x4_1 < (l0.length : Int))) = false := by simpa using c3
   try rw [e2]
   refine Evr.condF rfl (Evr.exit rfl (Evr.sr rfl (Opl.p1 (n := Opl.p1 (n := Opl.nil ?_)))))
   obtain rfl := Option.some.inj H
   refine Evr.ret1 Try.func192 rfl ?_
   exact ⟨[pv2], ids2, rfl, h2, f2, g2⟩
  rw [if_pos c3] at H
  have e1 : (decide (x4_1 < (l0.length : Int))) = true := by simpa using c3
  try rw [e1]
  refine Evr.condT rfl (Evr.skip (Evr.seq (Evr.block (Evr.regionN rfl (Opl.p1 (n := Opl.p1 (n := Opl.p1 (n := Opl.p1 (n := ?_)))))))))
  obtain ⟨c4, H⟩ := peel H
  refine Opl.idx (M := (cSl cLTerm)) (xs := l0) (j := x4_1) ([] : List LTerm) (by exact hv0) rfl (by omega) (by omega) K149 Z148 rfl rfl ?_
  rintro p1 q1 h3
  obtain ⟨pv3, rfl, h4⟩ := h3
  refine Opl.lda (pv3) rfl T148 rfl rfl rfl rfl ?_
  obtain ⟨t1370, h_t1370, H⟩ := Option.bind_eq_some_iff.1 H
  refine Opl.calla (laws_toTermS.ev h4 h_t1370) rfl rfl rfl rfl ⟨h4.plain, trivial⟩ rfl ?_
  rintro pe S hV uV wV
  have h5 := hV.tree oITerm
  have f3 := wV.fresh
  have g3 := Grow.of uV wV
  have ap := f3.tree h2
  have h2' := g3.tree h2
  obtain ⟨c5, H⟩ := peel H
  refine Opl.idt (N := (oRow (oPl cITerm oITerm))) (xs := x3_1) (j := x4_1) (v := pv2) h2' rfl rfl (by omega) (by omega) K104 Z66 rfl rfl ?_
  rintro d1 q2
  refine Opl.stt (N := (oRow (oPl cITerm oITerm))) (xs := x3_1) (j := x4_1) (ids := ids2) (y := t1370) (vs := [pe]) (by rw [← q2]; exact h2') (by omega) (by omega) rfl (by exact oRow_cells h5) (by exact h5) ap Z66 rfl rfl rfl ?_
  rw [← q2]
  rintro S ids4 h8 m4 u2
  have g4 := (g2.trans g3).up u2 (oRow_new h2' f2)
  have f4 := Fresh.or m4 f2 (f3.mono g2)
  refine Opl.nil (Evr.inBlock (Evr.regionN rfl (Opl.p1 (n := Opl.p1 (n := Opl.p1 (n := Opl.nil ?_))))))
  exact ih1 _ (by omega) _ _ ⟨by omega, _, _, _, _, H, ⟨rfl, rfl, rfl, trivial⟩, h8, f4, g4⟩
theorem laws_toRule.mk {k : Nat} {l0_0 : List LTerm} {v0_0 : PV} (hv0_0 : Sl cLTerm l0_0 v0_0) {l0_1 : List Int} {v0_1 : PV} (hv0_1 : Sl (cInt .i64) l0_1 v0_1) {l0_2 : List (List LTerm)} {v0_2 : PV} (hv0_2 : Sl (cSl cLTerm) l0_2 v0_2) {r : (List ITerm × List Int × List (List ITerm))} (H : laws_toRule.f k l0_0 l0_1 l0_2 = some r) : Makes Try.prog 158 [.agg [v0_0, v0_1, v0_2]] (oPr (oRow (oPl cITerm oITerm)) (oPr (oRow (oPl (cInt .i64) (oInt .i64))) (oRow (oRow (oPl cITerm oITerm))))) r .agg := by
 unfold laws_toRule.f at H
 refine Makes.intro Try.func158 rfl (Nat.le_of_ble_eq_true rfl) rfl fun S0 => ?_
 rw [tm1]
 refine Evr.sr rfl (Opl.box (cs := [v0_0, v0_1, v0_2]) rfl rfl rfl rfl ?_)
 rintro i1 S h1 u1 w1
 have gg1 := Grow.of u1 w1
 have bbi1 := w1
 refine Opl.alloc T106 rfl rfl rfl ?_
 rintro i2 S h2 u2 w2
 have gg2 := gg1.trans (Grow.of u2 w2)
 have bbi2 := w2.mono gg1
 have ap1 := w2.box h1
 have h3 := u2.box h1 ap1
 refine Opl.nil (Evr.sr rfl (Opl.alloc T106 rfl rfl rfl ?_))
 rintro i3 S h4 u3 w3
 have gg3 := gg2.trans (Grow.of u3 w3)
 have bbi3 := w3.mono gg2
 have ap2 := w3.box h3
 have h5 := u3.box h3 ap2
 have ap3 := w3.box h2
 have h6 := u3.box h2 ap3
 refine Opl.nil (Evr.sr rfl (Opl.p1 (v := .ptr i1 0) (n := Opl.ldb (v := v0_0) h5 rfl T148 rfl rfl rfl rfl ?_)))
 obtain ⟨t1377, h_t1377, H⟩ := Option.bind_eq_some_iff.1 H
 refine Opl.calla (laws_toTermS.ev hv0_0 h_t1377) rfl rfl rfl rfl ⟨hv0_0.plain, trivial⟩ rfl ?_
 rintro pv1 S hV uV wV
 obtain ⟨ids0, h7, ff0⟩ : ∃ ids, (oRow (oPl cITerm oITerm)).R S ids _ [pv1] ∧ Fresh _ ids := ⟨_, hV.tree oITerm, wV.fresh⟩
 have gj := Grow.of uV wV
 have ati10 := ff0.box h5
 have h5 := gj.box h5
 have ati20 := ff0.box h6
 have h6 := gj.box h6
 have ati30 := ff0.box h4
 have h4 := gj.box h4
 have fz0 := ff0.mono gg3
 have gg4 := gg3.trans gj
 refine Opl.p1 (v := .ptr i3 0) (n := Opl.stb (vs := [pv1]) h4 rfl (by exact oRow_cells h7) Z66 rfl (Nat.le_of_ble_eq_true rfl) (by simp only [List.all_cons, List.all_nil, oRow_p1 h7, Bool.and_true, Bool.true_and] <;> rfl) rfl rfl rfl ?_)
 rintro S (h8 : Box (.ptr i3 0) [pv1, .lit (.slice none 0 0), .lit (.slice none 0 0)] _) u4
 have h7 := u4.tree h7 ati30
 have gg5 := gg4.up u4 bbi3
 have h9 := u4.box h5 ap2
 have h10 := u4.box h6 ap3
 refine Opl.nil (Evr.sr rfl (Opl.p1 (v := .ptr i1 1) (n := Opl.ldb (v := v0_1) h9 rfl T27 rfl rfl rfl rfl ?_)))
 obtain ⟨t1380, h_t1380, H⟩ := Option.bind_eq_some_iff.1 H
 refine Opl.calla (laws_toIntS.ev hv0_1 h_t1380) rfl rfl rfl rfl ⟨hv0_1.plain, trivial⟩ rfl ?_
 rintro pv2 S hV uV wV
 obtain ⟨ids1, h11, ff1⟩ : ∃ ids, (oRow (oPl (cInt .i64) (oInt .i64))).R S ids _ [pv2] ∧ Fresh _ ids := ⟨_, hV.tree (oInt .i64), wV.fresh⟩
 have gj := Grow.of uV wV
 have ati11 := ff1.box h9
 have h9 := gj.box h9
 have ati21 := ff1.box h10
 have h10 := gj.box h10
 have ati31 := ff1.box h8
 have h8 := gj.box h8
 have apt01 := ff1.tree h7
 have h7 := gj.tree h7
 have fz1 := ff1.mono gg5
 have gg6 := gg5.trans gj
 refine Opl.p1 (v := .ptr i3 1) (n := Opl.stb (vs := [pv2]) h8 rfl (by exact oRow_cells h11) Z27 rfl (Nat.le_of_ble_eq_true rfl) (by simp only [List.all_cons, List.all_nil, oRow_p1 h11, Bool.and_true, Bool.true_and] <;> rfl) rfl rfl rfl ?_)
 rintro S (h12 : Box (.ptr i3 0) [pv1, pv2, .lit (.slice none 0 0)] _) u5
 have h7 := u5.tree h7 ati30
 have h11 := u5.tree h11 ati31
 have gg7 := gg6.up u5 bbi3
 have h13 := u5.box h9 ap2
 have h14 := u5.box h10 ap3
 refine Opl.nil (Evr.sr rfl (Opl.p1 (v := .ptr i1 2) (n := Opl.ldb (v := v0_2) h13 rfl T149 rfl rfl rfl rfl ?_)))
 obtain ⟨t1383, h_t1383, H⟩ := Option.bind_eq_some_iff.1 H
 refine Opl.callr (laws_toTermSS.mk hv0_2 h_t1383) rfl rfl rfl rfl rfl ?_
 rintro pv3 S ids2 h15 ff2 gj
 have ati12 := ff2.box h13
 have h13 := gj.box h13
 have ati22 := ff2.box h14
 have h14 := gj.box h14
 have ati32 := ff2.box h12
 have h12 := gj.box h12
 have apt02 := ff2.tree h7
 have h7 := gj.tree h7
 have apt12 := ff2.tree h11
 have h11 := gj.tree h11
 have fz2 := ff2.mono gg7
 have gg8 := gg7.trans gj
 refine Opl.p1 (v := .ptr i3 2) (n := Opl.stb (vs := [pv3]) h12 rfl (by exact oRow_cells h15) Z104 rfl (Nat.le_of_ble_eq_true rfl) (by simp only [List.all_cons, List.all_nil, oRow_p1 h15, Bool.and_true, Bool.true_and] <;> rfl) rfl rfl rfl ?_)
 rintro S (h16 : Box (.ptr i3 0) [pv1, pv2, pv3] _) u6
 have h7 := u6.tree h7 ati30
 have h11 := u6.tree h11 ati31
 have h15 := u6.tree h15 ati32
 have gg9 := gg8.up u6 bbi3
 have h17 := u6.box h13 ap2
 have h18 := u6.box h14 ap3
 refine Opl.nil (Evr.sr rfl (Opl.ldb (v := .agg [pv1, pv2, pv3]) h16 rfl T106 rfl rfl rfl rfl (Opl.stb (vs := [pv1, pv2, pv3]) h18 rfl rfl Z106 rfl (Nat.le_of_ble_eq_true rfl) (by simp only [List.all_cons, List.all_nil, oRow_p1 h7, oRow_p1 h11, oRow_p1 h15, Bool.and_true, Bool.true_and] <;> rfl) rfl rfl rfl ?_)))
 rintro S (h19 : Box (.ptr i2 0) [pv1, pv2, pv3] _) u7
 have h7 := u7.tree h7 ati20
 have h11 := u7.tree h11 ati21
 have h15 := u7.tree h15 ati22
 have gg10 := gg9.up u7 bbi2
 have h20 := u7.box h17 ap1
 have h21 := u7.box h16 ap3.symm
 refine Opl.nil ?_
 obtain rfl := Option.some.inj H
 refine Evr.retb (v := .agg [pv1, pv2, pv3]) Try.func158 rfl h19 rfl T106 rfl ?_
 exact ⟨[pv1, pv2, pv3], _, rfl, ⟨[pv1], [pv2, pv3], _, _, rfl, rfl, (fun i hi hm => (List.mem_append.1 hm).elim (apt01 i hi) (apt02 i hi)), h7, ⟨[pv2], [pv3], _, _, rfl, rfl, apt12, h11, h15⟩⟩, (fz0.append (fz1.append fz2)), gg10⟩
theorem laws_toRuleS.mk {k : Nat} {l0 : List LRule} {v0 : PV} (hv0 : Sl cLRule l0 v0) {r : (List IRule)} (H : laws_toRuleS.f k l0 = some r) : Makes Try.prog 106 [v0] (oRow owIRule) r first := by
 unfold laws_toRuleS.f at H
 refine Makes.intro Try.func106 rfl (Nat.le_of_ble_eq_true rfl) rfl fun S0 => ?_
 rw [tm1]
 refine Evr.sr rfl (Opl.p1 (n := Opl.nil (Evr.sr rfl (Opl.p1 (n := Opl.len (xs := l0) (by exact hv0) K54 rfl rfl rfl rfl ?_)))))
 obtain ⟨c1, H⟩ := peel H
 obtain ⟨c2, H⟩ := peel H
 refine Opl.maket (N := owIRule) (m := (l0.length : Int)) zIRule (by intro S; exact owIRule_z S) rfl rfl K24 T106 rfl (by omega) (by show ((l0.length : Int)).toNat * 72 ≤ 281474976710656; omega) (by omega) rfl rfl rfl ?_
 rintro pv1 S ids1 h1 f1 g1
 refine Opl.p1 (n := Opl.nil (Evr.seq (Evr.sr rfl (Opl.p1 (n := Opl.nil (Evr.block ?_))))))
 refine Evr.loop (Evr.rounds (n := k) (Inv := fun n tm S => n ≤ k ∧ ∃ (x3_1 : List (IRule)) (x4_1 : Int) (pv2 : PV) (ids2 : List Abs.Id), laws_toRuleS.l0 n l0 x3_1 x4_1 = some r ∧ Has tm [(0, v0), (3, pv2), (4, .lit (.int .i64 x4_1))] ∧ (oRow owIRule).R S ids2 x3_1 [pv2] ∧ Fresh S0 ids2 ∧ Grow S0 S) ?_ ?_ ?_)
 · exact ⟨Nat.le_refl _, _, _, _, _, H, ⟨rfl, rfl, rfl, trivial⟩, h1, f1, g1⟩
 ·
  rintro tm S ⟨_, _, _, _, _, H, -⟩
  simp [laws_toRuleS.l0] at H
 ·
  rintro n1 ih1 tm S ⟨hle, x3_1, x4_1, pv2, ids2, H, hh, h2, f2, g2⟩
  simp only [laws_toRuleS.l0] at H
  rw [hh.eq]
  refine Evr.seq (Evr.sr rfl (Opl.p1 (n := Opl.p1 (n := Opl.len (xs := l0) (by exact hv0) K54 rfl rfl rfl rfl (Opl.p1 (n := Opl.nil ?_))))))
  by_cases c3 : x4_1 < (l0.length : Int)
  case neg =>
   rw [if_neg c3] at H
   have e2 : (decide (x4_1 < (l0.length : Int))) = false := by simpa using c3
   try rw [e2]
   refine Evr.condF rfl (Evr.exit rfl (Evr.sr rfl (Opl.p1 (n := Opl.p1 (n := Opl.nil ?_)))))
   obtain rfl := Option.some.inj H
   refine Evr.ret1 Try.func106 rfl ?_
   exact ⟨[pv2], ids2, rfl, h2, f2, g2⟩
  rw [if_pos c3] at H
  have e1 : (decide (x4_1 < (l0.length : Int))) = true := by simpa using c3
  try rw [e1]
  refine Evr.condT rfl (Evr.skip (Evr.seq (Evr.block (Evr.regionN rfl (Opl.p1 (n := Opl.p1 (n := Opl.p1 (n := Opl.p1 (n := ?_)))))))))
  obtain ⟨c4, H⟩ := peel H
  refine Opl.idx (M := cLRule) (xs := l0) (j := x4_1) zLRule (by exact hv0) rfl (by omega) (by omega) K54 Z151 rfl rfl ?_
  rintro p1 q1 h3
  obtain ⟨pv3, pv4, pv5, rfl, h4, h5, h6⟩ := cLRule_R (x := (rd_LRule l0 x4_1)) h3
  refine Opl.lda (.agg [pv3, pv4, pv5]) rfl T151 rfl rfl rfl rfl ?_
  obtain ⟨bt1390, h_bt1390, H⟩ := Option.bind_eq_some_iff.1 H
  refine Opl.callm (laws_toRule.mk h4 h5 h6 h_bt1390) rfl rfl rfl rfl rfl ?_
  rintro ce S ids3 h5 f3 g3
  have ap := f3.tree h2
  have h2' := g3.tree h2
  obtain ⟨c5, H⟩ := peel H
  refine Opl.idt (N := owIRule) (xs := x3_1) (j := x4_1) (v := pv2) h2' rfl rfl (by omega) (by omega) K24 Z106 rfl rfl ?_
  rintro d1 q2
  refine Opl.stt (N := owIRule) (xs := x3_1) (j := x4_1) (ids := ids2) (ij := ids3) (y := (⟨bt1390.1, bt1390.2.1, bt1390.2.2⟩ : IRule)) (vs := ce) (by rw [← q2]; exact h2') (by omega) (by omega) rfl rfl (by exact h5) ap Z106 rfl rfl rfl ?_
  rw [← q2]
  rintro S ids4 h8 m4 u2
  have g4 := (g2.trans g3).up u2 (oRow_new h2' f2)
  have f4 := Fresh.or m4 f2 (f3.mono g2)
  refine Opl.nil (Evr.inBlock (Evr.regionN rfl (Opl.p1 (n := Opl.p1 (n := Opl.p1 (n := Opl.nil ?_))))))
  exact ih1 _ (by omega) _ _ ⟨by omega, _, _, _, _, H, ⟨rfl, rfl, rfl, trivial⟩, h8, f4, g4⟩
theorem laws_toSystem.mk {k : Nat} {l0_0 : List LVar} {v0_0 : PV} (hv0_0 : Sl cLVar l0_0 v0_0) {l0_1 : List LRule} {v0_1 : PV} (hv0_1 : Sl cLRule l0_1 v0_1) {r : (List IVar × List IRule)} (H : laws_toSystem.f k l0_0 l0_1 = some r) : Makes Try.prog 35 [.agg [v0_0, v0_1]] (oPr (oRow (oPl cIVar oIVar)) (oRow owIRule)) r .agg := by
 unfold laws_toSystem.f at H
 refine Makes.intro Try.func35 rfl (Nat.le_of_ble_eq_true rfl) rfl fun S0 => ?_
 rw [tm1]
 refine Evr.sr rfl (Opl.box (cs := [v0_0, v0_1]) rfl rfl rfl rfl ?_)
 rintro i1 S h1 u1 w1
 have gg1 := Grow.of u1 w1
 have bbi1 := w1
 refine Opl.alloc T26 rfl rfl rfl ?_
 rintro i2 S h2 u2 w2
 have gg2 := gg1.trans (Grow.of u2 w2)
 have bbi2 := w2.mono gg1
 have ap1 := w2.box h1
 have h3 := u2.box h1 ap1
 refine Opl.nil (Evr.sr rfl (Opl.alloc T26 rfl rfl rfl ?_))
 rintro i3 S h4 u3 w3
 have gg3 := gg2.trans (Grow.of u3 w3)
 have bbi3 := w3.mono gg2
 have ap2 := w3.box h3
 have h5 := u3.box h3 ap2
 have ap3 := w3.box h2
 have h6 := u3.box h2 ap3
 refine Opl.nil (Evr.sr rfl (Opl.p1 (v := .ptr i1 0) (n := Opl.ldb (v := v0_0) h5 rfl T53 rfl rfl rfl rfl ?_)))
 obtain ⟨t1403, h_t1403, H⟩ := Option.bind_eq_some_iff.1 H
 refine Opl.calla (laws_toVarS.ev hv0_0 h_t1403) rfl rfl rfl rfl ⟨hv0_0.plain, trivial⟩ rfl ?_
 rintro pv1 S hV uV wV
 obtain ⟨ids0, h7, ff0⟩ : ∃ ids, (oRow (oPl cIVar oIVar)).R S ids _ [pv1] ∧ Fresh _ ids := ⟨_, hV.tree oIVar, wV.fresh⟩
 have gj := Grow.of uV wV
 have ati10 := ff0.box h5
 have h5 := gj.box h5
 have ati20 := ff0.box h6
 have h6 := gj.box h6
 have ati30 := ff0.box h4
 have h4 := gj.box h4
 have fz0 := ff0.mono gg3
 have gg4 := gg3.trans gj
 refine Opl.p1 (v := .ptr i3 0) (n := Opl.stb (vs := [pv1]) h4 rfl (by exact oRow_cells h7) Z23 rfl (Nat.le_of_ble_eq_true rfl) (by simp only [List.all_cons, List.all_nil, oRow_p1 h7, Bool.and_true, Bool.true_and] <;> rfl) rfl rfl rfl ?_)
 rintro S (h8 : Box (.ptr i3 0) [pv1, .lit (.slice none 0 0)] _) u4
 have h7 := u4.tree h7 ati30
 have gg5 := gg4.up u4 bbi3
 have h9 := u4.box h5 ap2
 have h10 := u4.box h6 ap3
 refine Opl.nil (Evr.sr rfl (Opl.p1 (v := .ptr i1 1) (n := Opl.ldb (v := v0_1) h9 rfl T54 rfl rfl rfl rfl ?_)))
 obtain ⟨t1406, h_t1406, H⟩ := Option.bind_eq_some_iff.1 H
 refine Opl.callr (laws_toRuleS.mk hv0_1 h_t1406) rfl rfl rfl rfl rfl ?_
 rintro pv2 S ids1 h11 ff1 gj
 have ati11 := ff1.box h9
 have h9 := gj.box h9
 have ati21 := ff1.box h10
 have h10 := gj.box h10
 have ati31 := ff1.box h8
 have h8 := gj.box h8
 have apt01 := ff1.tree h7
 have h7 := gj.tree h7
 have fz1 := ff1.mono gg5
 have gg6 := gg5.trans gj
 refine Opl.p1 (v := .ptr i3 1) (n := Opl.stb (vs := [pv2]) h8 rfl (by exact oRow_cells h11) Z24 rfl (Nat.le_of_ble_eq_true rfl) (by simp only [List.all_cons, List.all_nil, oRow_p1 h11, Bool.and_true, Bool.true_and] <;> rfl) rfl rfl rfl ?_)
 rintro S (h12 : Box (.ptr i3 0) [pv1, pv2] _) u5
 have h7 := u5.tree h7 ati30
 have h11 := u5.tree h11 ati31
 have gg7 := gg6.up u5 bbi3
 have h13 := u5.box h9 ap2
 have h14 := u5.box h10 ap3
 refine Opl.nil (Evr.sr rfl (Opl.ldb (v := .agg [pv1, pv2]) h12 rfl T26 rfl rfl rfl rfl (Opl.stb (vs := [pv1, pv2]) h14 rfl rfl Z26 rfl (Nat.le_of_ble_eq_true rfl) (by simp only [List.all_cons, List.all_nil, oRow_p1 h7, oRow_p1 h11, Bool.and_true, Bool.true_and] <;> rfl) rfl rfl rfl ?_)))
 rintro S (h15 : Box (.ptr i2 0) [pv1, pv2] _) u6
 have h7 := u6.tree h7 ati20
 have h11 := u6.tree h11 ati21
 have gg8 := gg7.up u6 bbi2
 have h16 := u6.box h13 ap1
 have h17 := u6.box h12 ap3.symm
 refine Opl.nil ?_
 obtain rfl := Option.some.inj H
 refine Evr.retb (v := .agg [pv1, pv2]) Try.func35 rfl h15 rfl T26 rfl ?_
 exact ⟨[pv1, pv2], _, rfl, ⟨[pv1], [pv2], _, _, rfl, rfl, apt01, h7, h11⟩, (fz0.append fz1), gg8⟩
theorem laws_markIntS.mks : Mks Try.prog 41 (oRow (oPl (cInt .i64) (oInt .i64))) (leaves fun _ => 1) okAny first := by
 intro S0 ids l c k h hok h0 hb
 obtain ⟨p, rfl⟩ := oRow_one h
 show RetS _ _ [p, _] _ _
 refine RetS.intro Try.func41 rfl (Nat.le_of_ble_eq_true rfl) rfl ?_
 rw [tm2]
 obtain ⟨hv, rfl⟩ := tree_vec h
 rw [leaves_const] at hb ⊢
 have hlen := hv.len
 refine Evr.seq (Evr.regionN rfl (Opl.one rfl rfl (by simp only [go_sem]; rfl) (Opl.nil (Evr.seq (Evr.seq (Evr.regionN rfl (Opl.one rfl rfl (by simp only [go_sem]; rfl) (Opl.nil (Evr.block ?_)))))))))
 refine Evr.loop (Evr.rounds (n := l.length + 1) (Inv := fun n tm S => ∃ (k1 i : Int), Has tm [(0, p), (1, .lit (.int .i64 k1)), (5, .lit (.int .i64 i))] ∧ 0 ≤ i ∧ i ≤ l.length ∧ i + n = l.length + 1 ∧ k1 = k + i * 1 ∧ Flat S0 S p l.length 1) ?_ ?_ ?_)
 · exact ⟨k, 0, ⟨rfl, rfl, rfl, trivial⟩, by omega, by omega, by omega, by omega, Flat.of ints_int hv⟩
 · rintro tm S ⟨k1, i, -, h1, h2, h3, -⟩
   omega
 rintro n ih tm S ⟨k1, i, hh, h1, h2, h3, rfl, hf⟩
 rw [hh.eq]
 refine Evr.seq (Evr.seq (Evr.regionN rfl (Opl.one rfl rfl (by simp only [go_sem]; rfl) (Opl.one rfl rfl (by simp only [go_sem]; rfl) (Opl.leno (by exact hlen) K27 rfl rfl rfl rfl (Opl.one rfl rfl (by simp only [go_sem]; rfl) (Opl.nil ?_)))))))
 by_cases c : i < (l.length : Int)
 · have e : (decide (i < (l.length : Int))) = true := by simpa using c
   try rw [e]
   obtain ⟨_, ⟨hz, _⟩ | ⟨d, cs, hp, hl, hc, ha, hs⟩⟩ := hf
   · omega
   refine Evr.condT rfl (Evr.skip (Evr.seq (Evr.block (Evr.seq (Evr.regionN rfl (Opl.one rfl rfl (by simp only [go_sem]; rfl) (Opl.one rfl rfl (by simp only [go_sem]; rfl) (Opl.one rfl rfl (by simp only [go_sem]; rfl) (Opl.ido (d := d) (m := l.length) (j := i) (es := 1) (by exact hp) rfl (by omega) (by omega) K27 Z3 rfl rfl ?_)))))))))
   refine Opl.stoi (off := i.toNat * 1) hl ha rfl rfl Z3 (by omega) rfl rfl rfl ?_
   rintro cs S hl hc1 ha hs1
   have hs := hs.trans hs1 (fun _ h => h)
   have hc := hc1.trans hc
   refine Opl.nil (Evr.regionN rfl (Opl.one rfl rfl (by simp only [go_sem]; rfl) (Opl.one rfl rfl (by simp only [go_sem]; rfl) (Opl.one rfl rfl (by simp only [go_sem]; rfl) (Opl.nil ?_)))))
   rw [wrap_of (x := (k + i * 1) + 1) (by omega) (by omega)]
   refine Evr.inBlock (Evr.regionN rfl (Opl.one rfl rfl (by simp only [go_sem]; rfl) (Opl.one rfl rfl (by simp only [go_sem]; rfl) (Opl.one rfl rfl (by simp only [go_sem]; rfl) (Opl.nil ?_)))))
   rw [wrap_of (x := i + 1) (by omega) (by omega)]
   exact ih n (Nat.le_refl _) _ _ ⟨((k + i * 1) + 1), i + 1, ⟨rfl, rfl, rfl, trivial⟩, by omega, by omega, by omega, by omega, hlen, .inr ⟨d, _, hp, hl, hc, ha, hs⟩⟩
 · have e : (decide (i < (l.length : Int))) = false := by simpa using c
   try rw [e]
   refine Evr.condF rfl (Evr.exit rfl (Evr.seq (Evr.regionN rfl (Opl.one rfl rfl (by simp only [go_sem]; rfl) (Opl.one rfl rfl (by simp only [go_sem]; rfl) (Opl.nil ?_))))))
   refine Evr.ret1 Try.func41 rfl ?_
   obtain rfl : i = l.length := by omega
   obtain ⟨ids', a', g1, g2, g3, g4⟩ := Flat.done ints_int (oInt .i64) hv hf
   exact ⟨by rw [show ((l.length * 1 : Nat) : Int) = l.length * 1 by omega]; rfl, ids', a', g1, g2, by rw [leaves_const, g3], trivial, g4⟩
theorem laws_markIntS.evm {k : Nat} {l0 : List Int} {p : PV} {a1 : Int} {S0 : Sto} (hv : Vec (cInt .i64) l0 p S0) {r : Int × List Int} (H : laws_markIntS.f k l0 a1 = some r) : RetS Try.prog 41 [p, .lit (.int .i64 a1)] S0 fun v S => v = .lit (.int .i64 r.1) ∧ Vec (cInt .i64) r.2 p S ∧ Same S0 S p.id?.toList := by
 unfold laws_markIntS.f at H
 refine RetS.intro Try.func41 rfl (Nat.le_of_ble_eq_true rfl) rfl ?_
 rw [tm2]
 refine Evr.seq (Evr.regionN rfl (Opl.one rfl rfl (by simp only [go_sem]; rfl) (Opl.nil (Evr.seq (Evr.seq (Evr.regionN rfl (Opl.one rfl rfl (by simp only [go_sem]; rfl) (Opl.nil (Evr.block ?_)))))))))
 refine Evr.loop (Evr.rounds (n := k) (Inv := fun n tm S => ∃ (x0 : List Int) (x1 x5 : Int), laws_markIntS.l0 n x0 x1 x5 = some r ∧ Has tm [(0, p), (1, .lit (.int .i64 x1)), (5, .lit (.int .i64 x5))] ∧ Vec (cInt .i64) x0 p S ∧ Same S0 S p.id?.toList) ?_ ?_ ?_)
 · exact ⟨_, _, _, H, ⟨rfl, rfl, rfl, trivial⟩, hv, .refl _ _⟩
 · rintro tm S ⟨_, _, _, H, -⟩
   simp [laws_markIntS.l0] at H
 rintro n ih tm S ⟨x0, x1, x5, H, hh, hf, hs⟩
 simp only [laws_markIntS.l0] at H
 rw [hh.eq]
 refine Evr.seq (Evr.seq (Evr.regionN rfl (Opl.one rfl rfl (by simp only [go_sem]; rfl) (Opl.one rfl rfl (by simp only [go_sem]; rfl) (Opl.lenv (by exact hf) K27 rfl rfl rfl rfl (Opl.one rfl rfl (by simp only [go_sem]; rfl) (Opl.nil ?_)))))))
 by_cases c : x5 < (x0.length : Int)
 · rw [if_pos c] at H
   have e : (decide (x5 < (x0.length : Int))) = true := by simpa using c
   try rw [e]
   obtain ⟨c2, H⟩ := peel H
   refine Evr.condT rfl (Evr.skip (Evr.seq (Evr.block (Evr.seq (Evr.regionN rfl (Opl.one rfl rfl (by simp only [go_sem]; rfl) (Opl.one rfl rfl (by simp only [go_sem]; rfl) (Opl.one rfl rfl (by simp only [go_sem]; rfl) (Opl.idv (M := cInt .i64) (xs := x0) (j := x5) (v := p) hf rfl rfl (by omega) (by omega) K27 Z3 rfl rfl ?_)))))))))
   rintro d cs hp hl hr
   refine Opl.stv (M := cInt .i64) (xs := x0) (j := x5) (y := x1) (vs := [.lit (.int .i64 x1)]) hl hr (by omega) (by omega) rfl rfl (by exact rfl) Z3 rfl rfl rfl rfl ?_
   rw [← hp]
   rintro S hf' u
   have hs' := hs.trans u.same (fun _ h => h)
   refine Opl.nil (Evr.regionN rfl (Opl.one rfl rfl (by simp only [go_sem]; rfl) (Opl.one rfl rfl (by simp only [go_sem]; rfl) (Opl.one rfl rfl (by simp only [go_sem]; rfl) (Opl.nil (Evr.inBlock (Evr.regionN rfl (Opl.one rfl rfl (by simp only [go_sem]; rfl) (Opl.one rfl rfl (by simp only [go_sem]; rfl) (Opl.one rfl rfl (by simp only [go_sem]; rfl) (Opl.nil ?_)))))))))))
   exact ih n (Nat.le_refl _) _ _ ⟨_, _, _, H, ⟨rfl, rfl, rfl, trivial⟩, hf', hs'⟩
 · rw [if_neg c] at H
   have e : (decide (x5 < (x0.length : Int))) = false := by simpa using c
   try rw [e]
   refine Evr.condF rfl (Evr.exit rfl (Evr.seq (Evr.regionN rfl (Opl.one rfl rfl (by simp only [go_sem]; rfl) (Opl.one rfl rfl (by simp only [go_sem]; rfl) (Opl.nil ?_))))))
   obtain rfl := Option.some.inj H
   refine Evr.ret1 Try.func41 rfl ?_
   exact ⟨rfl, hf, hs⟩
theorem laws_markVarS.mks : Mks Try.prog 110 (oRow (oPl cIVar oIVar)) (leaves fun _ => 3) okAny first := by
 intro S0 ids l c k h hok h0 hb
 obtain ⟨p, rfl⟩ := oRow_one h
 show RetS _ _ [p, _] _ _
 refine RetS.intro Try.func110 rfl (Nat.le_of_ble_eq_true rfl) rfl ?_
 rw [tm2]
 obtain ⟨hv, rfl⟩ := tree_vec h
 rw [leaves_const] at hb ⊢
 have hlen := hv.len
 refine Evr.seq (Evr.regionN rfl (Opl.one rfl rfl (by simp only [go_sem]; rfl) (Opl.nil (Evr.seq (Evr.seq (Evr.regionN rfl (Opl.one rfl rfl (by simp only [go_sem]; rfl) (Opl.nil (Evr.block ?_)))))))))
 refine Evr.loop (Evr.rounds (n := l.length + 1) (Inv := fun n tm S => ∃ (k1 i : Int), Has tm [(0, p), (1, .lit (.int .i64 k1)), (5, .lit (.int .i64 i))] ∧ 0 ≤ i ∧ i ≤ l.length ∧ i + n = l.length + 1 ∧ k1 = k + i * 3 ∧ Flat S0 S p l.length 3) ?_ ?_ ?_)
 · exact ⟨k, 0, ⟨rfl, rfl, rfl, trivial⟩, by omega, by omega, by omega, by omega, Flat.of (ints_iso (ints_pair ints_int (ints_pair ints_int ints_int)) (fun x => ⟨x.1, x.2.1, x.2.2⟩) (fun _ => rfl)) hv⟩
 · rintro tm S ⟨k1, i, -, h1, h2, h3, -⟩
   omega
 rintro n ih tm S ⟨k1, i, hh, h1, h2, h3, rfl, hf⟩
 rw [hh.eq]
 refine Evr.seq (Evr.seq (Evr.regionN rfl (Opl.one rfl rfl (by simp only [go_sem]; rfl) (Opl.one rfl rfl (by simp only [go_sem]; rfl) (Opl.leno (by exact hlen) K23 rfl rfl rfl rfl (Opl.one rfl rfl (by simp only [go_sem]; rfl) (Opl.nil ?_)))))))
 by_cases c : i < (l.length : Int)
 · have e : (decide (i < (l.length : Int))) = true := by simpa using c
   try rw [e]
   obtain ⟨_, ⟨hz, _⟩ | ⟨d, cs, hp, hl, hc, ha, hs⟩⟩ := hf
   · omega
   refine Evr.condT rfl (Evr.skip (Evr.seq (Evr.block (Evr.seq (Evr.regionN rfl (Opl.one rfl rfl (by simp only [go_sem]; rfl) (Opl.one rfl rfl (by simp only [go_sem]; rfl) (Opl.one rfl rfl (by simp only [go_sem]; rfl) (Opl.ido (d := d) (m := l.length) (j := i) (es := 3) (by exact hp) rfl (by omega) (by omega) K23 Z101 rfl rfl ?_)))))))))
   refine Opl.one (v := .ptr d (i.toNat * 3 + 0)) rfl rfl (by simp only [go_sem]; rfl) ?_
   refine Opl.stoi (off := i.toNat * 3 + 0) hl ha rfl rfl Z3 (by omega) rfl rfl rfl ?_
   rintro cs S hl hc1 ha hs1
   have hs := hs.trans hs1 (fun _ h => h)
   have hc := hc1.trans hc
   refine Opl.nil (Evr.seq (Evr.regionN rfl (Opl.one rfl rfl (by simp only [go_sem]; rfl) (Opl.one rfl rfl (by simp only [go_sem]; rfl) (Opl.one rfl rfl (by simp only [go_sem]; rfl) (Opl.nil ?_))))))
   rw [wrap_of (x := (k + i * 3) + 1) (by omega) (by omega)]
   refine Evr.seq (Evr.regionN rfl (Opl.one rfl rfl (by simp only [go_sem]; rfl) (Opl.one rfl rfl (by simp only [go_sem]; rfl) (Opl.one rfl rfl (by simp only [go_sem]; rfl) (Opl.ido (d := d) (m := l.length) (j := i) (es := 3) (by exact hp) rfl (by omega) (by omega) K23 Z101 rfl rfl ?_)))))
   refine Opl.one (v := .ptr d (i.toNat * 3 + 1)) rfl rfl (by simp only [go_sem]; rfl) ?_
   refine Opl.stoi (off := i.toNat * 3 + 1) hl ha rfl rfl Z3 (by omega) rfl rfl rfl ?_
   rintro cs S hl hc1 ha hs1
   have hs := hs.trans hs1 (fun _ h => h)
   have hc := hc1.trans hc
   refine Opl.nil (Evr.seq (Evr.regionN rfl (Opl.one rfl rfl (by simp only [go_sem]; rfl) (Opl.one rfl rfl (by simp only [go_sem]; rfl) (Opl.one rfl rfl (by simp only [go_sem]; rfl) (Opl.nil ?_))))))
   rw [wrap_of (x := ((k + i * 3) + 1) + 1) (by omega) (by omega)]
   refine Evr.seq (Evr.regionN rfl (Opl.one rfl rfl (by simp only [go_sem]; rfl) (Opl.one rfl rfl (by simp only [go_sem]; rfl) (Opl.one rfl rfl (by simp only [go_sem]; rfl) (Opl.ido (d := d) (m := l.length) (j := i) (es := 3) (by exact hp) rfl (by omega) (by omega) K23 Z101 rfl rfl ?_)))))
   refine Opl.one (v := .ptr d (i.toNat * 3 + 2)) rfl rfl (by simp only [go_sem]; rfl) ?_
   refine Opl.stoi (off := i.toNat * 3 + 2) hl ha rfl rfl Z3 (by omega) rfl rfl rfl ?_
   rintro cs S hl hc1 ha hs1
   have hs := hs.trans hs1 (fun _ h => h)
   have hc := hc1.trans hc
   refine Opl.nil (Evr.regionN rfl (Opl.one rfl rfl (by simp only [go_sem]; rfl) (Opl.one rfl rfl (by simp only [go_sem]; rfl) (Opl.one rfl rfl (by simp only [go_sem]; rfl) (Opl.nil ?_)))))
   rw [wrap_of (x := (((k + i * 3) + 1) + 1) + 1) (by omega) (by omega)]
   refine Evr.inBlock (Evr.regionN rfl (Opl.one rfl rfl (by simp only [go_sem]; rfl) (Opl.one rfl rfl (by simp only [go_sem]; rfl) (Opl.one rfl rfl (by simp only [go_sem]; rfl) (Opl.nil ?_)))))
   rw [wrap_of (x := i + 1) (by omega) (by omega)]
   exact ih n (Nat.le_refl _) _ _ ⟨((((k + i * 3) + 1) + 1) + 1), i + 1, ⟨rfl, rfl, rfl, trivial⟩, by omega, by omega, by omega, by omega, hlen, .inr ⟨d, _, hp, hl, hc, ha, hs⟩⟩
 · have e : (decide (i < (l.length : Int))) = false := by simpa using c
   try rw [e]
   refine Evr.condF rfl (Evr.exit rfl (Evr.seq (Evr.regionN rfl (Opl.one rfl rfl (by simp only [go_sem]; rfl) (Opl.one rfl rfl (by simp only [go_sem]; rfl) (Opl.nil ?_))))))
   refine Evr.ret1 Try.func110 rfl ?_
   obtain rfl : i = l.length := by omega
   obtain ⟨ids', a', g1, g2, g3, g4⟩ := Flat.done (ints_iso (ints_pair ints_int (ints_pair ints_int ints_int)) (fun x => ⟨x.1, x.2.1, x.2.2⟩) (fun _ => rfl)) oIVar hv hf
   exact ⟨by rw [show ((l.length * 3 : Nat) : Int) = l.length * 3 by omega]; rfl, ids', a', g1, g2, by rw [leaves_const, g3], trivial, g4⟩
theorem laws_markTermS.mks : Mks Try.prog 161 (oRow (oPl cITerm oITerm)) (leaves fun _ => 4) okAny first := by
 intro S0 ids l c k h hok h0 hb
 obtain ⟨p, rfl⟩ := oRow_one h
 show RetS _ _ [p, _] _ _
 refine RetS.intro Try.func161 rfl (Nat.le_of_ble_eq_true rfl) rfl ?_
 rw [tm2]
 obtain ⟨hv, rfl⟩ := tree_vec h
 rw [leaves_const] at hb ⊢
 have hlen := hv.len
 refine Evr.seq (Evr.regionN rfl (Opl.one rfl rfl (by simp only [go_sem]; rfl) (Opl.nil (Evr.seq (Evr.seq (Evr.regionN rfl (Opl.one rfl rfl (by simp only [go_sem]; rfl) (Opl.nil (Evr.block ?_)))))))))
 refine Evr.loop (Evr.rounds (n := l.length + 1) (Inv := fun n tm S => ∃ (k1 i : Int), Has tm [(0, p), (1, .lit (.int .i64 k1)), (5, .lit (.int .i64 i))] ∧ 0 ≤ i ∧ i ≤ l.length ∧ i + n = l.length + 1 ∧ k1 = k + i * 4 ∧ Flat S0 S p l.length 4) ?_ ?_ ?_)
 · exact ⟨k, 0, ⟨rfl, rfl, rfl, trivial⟩, by omega, by omega, by omega, by omega, Flat.of (ints_iso (ints_pair ints_int (ints_pair ints_int (ints_pair ints_int ints_int))) (fun x => ⟨x.1, x.2.1, x.2.2.1, x.2.2.2⟩) (fun _ => rfl)) hv⟩
 · rintro tm S ⟨k1, i, -, h1, h2, h3, -⟩
   omega
 rintro n ih tm S ⟨k1, i, hh, h1, h2, h3, rfl, hf⟩
 rw [hh.eq]
 refine Evr.seq (Evr.seq (Evr.regionN rfl (Opl.one rfl rfl (by simp only [go_sem]; rfl) (Opl.one rfl rfl (by simp only [go_sem]; rfl) (Opl.leno (by exact hlen) K66 rfl rfl rfl rfl (Opl.one rfl rfl (by simp only [go_sem]; rfl) (Opl.nil ?_)))))))
 by_cases c : i < (l.length : Int)
 · have e : (decide (i < (l.length : Int))) = true := by simpa using c
   try rw [e]
   obtain ⟨_, ⟨hz, _⟩ | ⟨d, cs, hp, hl, hc, ha, hs⟩⟩ := hf
   · omega
   refine Evr.condT rfl (Evr.skip (Evr.seq (Evr.block (Evr.seq (Evr.regionN rfl (Opl.one rfl rfl (by simp only [go_sem]; rfl) (Opl.one rfl rfl (by simp only [go_sem]; rfl) (Opl.one rfl rfl (by simp only [go_sem]; rfl) (Opl.ido (d := d) (m := l.length) (j := i) (es := 4) (by exact hp) rfl (by omega) (by omega) K66 Z128 rfl rfl ?_)))))))))
   refine Opl.one (v := .ptr d (i.toNat * 4 + 0)) rfl rfl (by simp only [go_sem]; rfl) ?_
   refine Opl.stoi (off := i.toNat * 4 + 0) hl ha rfl rfl Z3 (by omega) rfl rfl rfl ?_
   rintro cs S hl hc1 ha hs1
   have hs := hs.trans hs1 (fun _ h => h)
   have hc := hc1.trans hc
   refine Opl.nil (Evr.seq (Evr.regionN rfl (Opl.one rfl rfl (by simp only [go_sem]; rfl) (Opl.one rfl rfl (by simp only [go_sem]; rfl) (Opl.one rfl rfl (by simp only [go_sem]; rfl) (Opl.nil ?_))))))
   rw [wrap_of (x := (k + i * 4) + 1) (by omega) (by omega)]
   refine Evr.seq (Evr.regionN rfl (Opl.one rfl rfl (by simp only [go_sem]; rfl) (Opl.one rfl rfl (by simp only [go_sem]; rfl) (Opl.one rfl rfl (by simp only [go_sem]; rfl) (Opl.ido (d := d) (m := l.length) (j := i) (es := 4) (by exact hp) rfl (by omega) (by omega) K66 Z128 rfl rfl ?_)))))
   refine Opl.one (v := .ptr d (i.toNat * 4 + 1)) rfl rfl (by simp only [go_sem]; rfl) ?_
   refine Opl.stoi (off := i.toNat * 4 + 1) hl ha rfl rfl Z3 (by omega) rfl rfl rfl ?_
   rintro cs S hl hc1 ha hs1
   have hs := hs.trans hs1 (fun _ h => h)
   have hc := hc1.trans hc
   refine Opl.nil (Evr.seq (Evr.regionN rfl (Opl.one rfl rfl (by simp only [go_sem]; rfl) (Opl.one rfl rfl (by simp only [go_sem]; rfl) (Opl.one rfl rfl (by simp only [go_sem]; rfl) (Opl.nil ?_))))))
   rw [wrap_of (x := ((k + i * 4) + 1) + 1) (by omega) (by omega)]
   refine Evr.seq (Evr.regionN rfl (Opl.one rfl rfl (by simp only [go_sem]; rfl) (Opl.one rfl rfl (by simp only [go_sem]; rfl) (Opl.one rfl rfl (by simp only [go_sem]; rfl) (Opl.ido (d := d) (m := l.length) (j := i) (es := 4) (by exact hp) rfl (by omega) (by omega) K66 Z128 rfl rfl ?_)))))
   refine Opl.one (v := .ptr d (i.toNat * 4 + 2)) rfl rfl (by simp only [go_sem]; rfl) ?_
   refine Opl.stoi (off := i.toNat * 4 + 2) hl ha rfl rfl Z3 (by omega) rfl rfl rfl ?_
   rintro cs S hl hc1 ha hs1
   have hs := hs.trans hs1 (fun _ h => h)
   have hc := hc1.trans hc
   refine Opl.nil (Evr.seq (Evr.regionN rfl (Opl.one rfl rfl (by simp only [go_sem]; rfl) (Opl.one rfl rfl (by simp only [go_sem]; rfl) (Opl.one rfl rfl (by simp only [go_sem]; rfl) (Opl.nil ?_))))))
   rw [wrap_of (x := (((k + i * 4) + 1) + 1) + 1) (by omega) (by omega)]
   refine Evr.seq (Evr.regionN rfl (Opl.one rfl rfl (by simp only [go_sem]; rfl) (Opl.one rfl rfl (by simp only [go_sem]; rfl) (Opl.one rfl rfl (by simp only [go_sem]; rfl) (Opl.ido (d := d) (m := l.length) (j := i) (es := 4) (by exact hp) rfl (by omega) (by omega) K66 Z128 rfl rfl ?_)))))
   refine Opl.one (v := .ptr d (i.toNat * 4 + 3)) rfl rfl (by simp only [go_sem]; rfl) ?_
   refine Opl.stoi (off := i.toNat * 4 + 3) hl ha rfl rfl Z3 (by omega) rfl rfl rfl ?_
   rintro cs S hl hc1 ha hs1
   have hs := hs.trans hs1 (fun _ h => h)
   have hc := hc1.trans hc
   refine Opl.nil (Evr.regionN rfl (Opl.one rfl rfl (by simp only [go_sem]; rfl) (Opl.one rfl rfl (by simp only [go_sem]; rfl) (Opl.one rfl rfl (by simp only [go_sem]; rfl) (Opl.nil ?_)))))
   rw [wrap_of (x := ((((k + i * 4) + 1) + 1) + 1) + 1) (by omega) (by omega)]
   refine Evr.inBlock (Evr.regionN rfl (Opl.one rfl rfl (by simp only [go_sem]; rfl) (Opl.one rfl rfl (by simp only [go_sem]; rfl) (Opl.one rfl rfl (by simp only [go_sem]; rfl) (Opl.nil ?_)))))
   rw [wrap_of (x := i + 1) (by omega) (by omega)]
   exact ih n (Nat.le_refl _) _ _ ⟨(((((k + i * 4) + 1) + 1) + 1) + 1), i + 1, ⟨rfl, rfl, rfl, trivial⟩, by omega, by omega, by omega, by omega, hlen, .inr ⟨d, _, hp, hl, hc, ha, hs⟩⟩
 · have e : (decide (i < (l.length : Int))) = false := by simpa using c
   try rw [e]
   refine Evr.condF rfl (Evr.exit rfl (Evr.seq (Evr.regionN rfl (Opl.one rfl rfl (by simp only [go_sem]; rfl) (Opl.one rfl rfl (by simp only [go_sem]; rfl) (Opl.nil ?_))))))
   refine Evr.ret1 Try.func161 rfl ?_
   obtain rfl : i = l.length := by omega
   obtain ⟨ids', a', g1, g2, g3, g4⟩ := Flat.done (ints_iso (ints_pair ints_int (ints_pair ints_int (ints_pair ints_int ints_int))) (fun x => ⟨x.1, x.2.1, x.2.2.1, x.2.2.2⟩) (fun _ => rfl)) oITerm hv hf
   exact ⟨by rw [show ((l.length * 4 : Nat) : Int) = l.length * 4 by omega]; rfl, ids', a', g1, g2, by rw [leaves_const, g3], trivial, g4⟩
theorem laws_markTermSS.mks : Mks Try.prog 162 (oRow (oRow (oPl cITerm oITerm))) (leaves (leaves fun _ : ITerm => 4)) (okRow okAny) first := by
 intro S0 ids l c k h hok h0 hb
 obtain ⟨p, rfl⟩ := oRow_one h
 show RetS _ _ [p, _] _ _
 refine RetS.intro Try.func162 rfl (Nat.le_of_ble_eq_true rfl) rfl ?_
 rw [tm2]
 have hlen := oRow_len h
 have hsm := hok.1
 refine Evr.seq (Evr.regionN rfl (Opl.one rfl rfl (by simp only [go_sem]; rfl) (Opl.nil (Evr.seq (Evr.seq (Evr.regionN rfl (Opl.one rfl rfl (by simp only [go_sem]; rfl) (Opl.nil (Evr.block ?_)))))))))
 refine Evr.loop (Evr.rounds (n := l.length + 1) (Inv := fun n tm S => ∃ (k1 i : Int), Has tm [(0, p), (1, .lit (.int .i64 k1)), (5, .lit (.int .i64 i))] ∧ 0 ≤ i ∧ i ≤ l.length ∧ i + n = l.length + 1 ∧ k1 = k + (((l.map (leaves fun _ : ITerm => 4)).take i.toNat).sum : Nat) ∧ Deep (oRow (oPl cITerm oITerm)) (leaves fun _ : ITerm => 4) okAny S0 S ids l p) ?_ ?_ ?_)
 · exact ⟨k, 0, ⟨rfl, rfl, rfl, trivial⟩, by omega, by omega, by omega, by simp, .of h hok.2⟩
 · rintro tm S ⟨k1, i, -, h1, h2, h3, -⟩
   omega
 rintro n ih tm S ⟨k1, i, hh, h1, h2, h3, rfl, hf⟩
 rw [hh.eq]
 refine Evr.seq (Evr.seq (Evr.regionN rfl (Opl.one rfl rfl (by simp only [go_sem]; rfl) (Opl.one rfl rfl (by simp only [go_sem]; rfl) (Opl.leno (by exact hlen) K104 rfl rfl rfl rfl (Opl.one rfl rfl (by simp only [go_sem]; rfl) (Opl.nil ?_)))))))
 by_cases c : i < (l.length : Int)
 · have e : (decide (i < (l.length : Int))) = true := by simpa using c
   try rw [e]
   obtain ⟨d, cs, ij, ce, r, a, hp, hl, hdr, hel, oel, b0, b1, b2, keep, back⟩ := hf.at h1 c h0 hb
   obtain ⟨q0, rfl⟩ := oRow_one hel
   have t0 := hel
   refine Evr.condT rfl (Evr.skip (Evr.seq (Evr.block (Evr.regionN rfl (Opl.one rfl rfl (by simp only [go_sem]; rfl) (Opl.one rfl rfl (by simp only [go_sem]; rfl) (Opl.ido (d := d) (m := l.length) (j := i) (es := 1) (by exact hp) rfl (by omega) (by omega) K104 Z66 rfl rfl (Opl.ldo (cs := cs) (v := q0) hl rfl T66 ((congrArg _ hdr).trans rfl) rfl rfl rfl (Opl.one rfl rfl (by simp only [go_sem]; rfl) (Opl.calls (laws_markTermS.mks _ _ _ _ _ t0 oel (by omega) (by omega)) rfl rfl rfl rfl rfl ?_))))))))))
   rintro _ S ⟨rfl, j0, a0, n0, m0, l0, o0, s0⟩
   refine Opl.one rfl rfl (by simp only [go_sem]; rfl) (Opl.nil (Evr.inBlock (Evr.regionN rfl (Opl.one rfl rfl (by simp only [go_sem]; rfl) (Opl.one rfl rfl (by simp only [go_sem]; rfl) (Opl.one rfl rfl (by simp only [go_sem]; rfl) (Opl.nil ?_)))))))
   rw [wrap_of (x := i + 1) (by omega) (by omega)]
   exact ih n (Nat.le_refl _) _ _ ⟨_, i + 1, ⟨rfl, rfl, rfl, trivial⟩, by omega, by omega, by omega, by omega, back _ _ a0 (s0.sub (fun z hz => hz)) n0 m0 (by exact l0) o0⟩
 · have e : (decide (i < (l.length : Int))) = false := by simpa using c
   try rw [e]
   refine Evr.condF rfl (Evr.exit rfl (Evr.seq (Evr.regionN rfl (Opl.one rfl rfl (by simp only [go_sem]; rfl) (Opl.one rfl rfl (by simp only [go_sem]; rfl) (Opl.nil ?_))))))
   refine Evr.ret1 Try.func162 rfl ?_
   obtain rfl : i = l.length := by omega
   exact ⟨by rw [Int.toNat_natCast, sum_all]; rfl, let ⟨x1, x2, x3, x4, x5, x6, x7⟩ := hf.done; ⟨x1, x2, x3, x4, x5, x6 hsm, x7⟩⟩
theorem laws_markRuleS.mks : Mks Try.prog 111 (oRow owIRule) (leaves (fun x : IRule => (leaves fun _ : ITerm => 4) x.f0 + (leaves fun _ : Int => 1) x.f1 + (leaves (leaves fun _ : ITerm => 4)) x.f2)) (okRow (fun x : IRule => okAny x.f0 ∧ okAny x.f1 ∧ (okRow okAny) x.f2)) first := by
 intro S0 ids l c k h hok h0 hb
 obtain ⟨p, rfl⟩ := oRow_one h
 show RetS _ _ [p, _] _ _
 refine RetS.intro Try.func111 rfl (Nat.le_of_ble_eq_true rfl) rfl ?_
 rw [tm2]
 have hlen := oRow_len h
 have hsm := hok.1
 refine Evr.seq (Evr.regionN rfl (Opl.one rfl rfl (by simp only [go_sem]; rfl) (Opl.nil (Evr.seq (Evr.seq (Evr.regionN rfl (Opl.one rfl rfl (by simp only [go_sem]; rfl) (Opl.nil (Evr.block ?_)))))))))
 refine Evr.loop (Evr.rounds (n := l.length + 1) (Inv := fun n tm S => ∃ (k1 i : Int), Has tm [(0, p), (1, .lit (.int .i64 k1)), (5, .lit (.int .i64 i))] ∧ 0 ≤ i ∧ i ≤ l.length ∧ i + n = l.length + 1 ∧ k1 = k + (((l.map (fun x : IRule => (leaves fun _ : ITerm => 4) x.f0 + (leaves fun _ : Int => 1) x.f1 + (leaves (leaves fun _ : ITerm => 4)) x.f2)).take i.toNat).sum : Nat) ∧ Deep owIRule (fun x : IRule => (leaves fun _ : ITerm => 4) x.f0 + (leaves fun _ : Int => 1) x.f1 + (leaves (leaves fun _ : ITerm => 4)) x.f2) (fun x : IRule => okAny x.f0 ∧ okAny x.f1 ∧ (okRow okAny) x.f2) S0 S ids l p) ?_ ?_ ?_)
 · exact ⟨k, 0, ⟨rfl, rfl, rfl, trivial⟩, by omega, by omega, by omega, by simp, .of h hok.2⟩
 · rintro tm S ⟨k1, i, -, h1, h2, h3, -⟩
   omega
 rintro n ih tm S ⟨k1, i, hh, h1, h2, h3, rfl, hf⟩
 rw [hh.eq]
 refine Evr.seq (Evr.seq (Evr.regionN rfl (Opl.one rfl rfl (by simp only [go_sem]; rfl) (Opl.one rfl rfl (by simp only [go_sem]; rfl) (Opl.leno (by exact hlen) K24 rfl rfl rfl rfl (Opl.one rfl rfl (by simp only [go_sem]; rfl) (Opl.nil ?_)))))))
 by_cases c : i < (l.length : Int)
 · have e : (decide (i < (l.length : Int))) = true := by simpa using c
   try rw [e]
   obtain ⟨d, cs, ij, ce, r, a, hp, hl, hdr, hel, oel, b0, b1, b2, keep, back⟩ := hf.at h1 c h0 hb
   obtain ⟨_, _, i0, _, rfl, rfl, ap0, t0, _, _, i1, i2, rfl, rfl, ap1, t1, t2⟩ := hel
   obtain ⟨q0, rfl⟩ := oRow_one t0
   have t0 : (oRow (oPl cITerm oITerm)).R S i0 a.f0 [q0] := t0
   obtain ⟨q1, rfl⟩ := oRow_one t1
   have t1 : (oRow (oPl (cInt .i64) (oInt .i64))).R S i1 a.f1 [q1] := t1
   obtain ⟨q2, rfl⟩ := oRow_one t2
   have t2 : (oRow (oRow (oPl cITerm oITerm))).R S i2 a.f2 [q2] := t2
   have b1 : k + (((l.map (fun x : IRule => (leaves fun _ : ITerm => 4) x.f0 + (leaves fun _ : Int => 1) x.f1 + (leaves (leaves fun _ : ITerm => 4)) x.f2)).take i.toNat).sum : Nat) + (((leaves fun _ : ITerm => 4) a.f0 + (leaves fun _ : Int => 1) a.f1 + (leaves (leaves fun _ : ITerm => 4)) a.f2 : Nat) : Int) ≤ 9223372036854775807 := b1
   have b2 : k + (((l.map (fun x : IRule => (leaves fun _ : ITerm => 4) x.f0 + (leaves fun _ : Int => 1) x.f1 + (leaves (leaves fun _ : ITerm => 4)) x.f2)).take (i + 1).toNat).sum : Nat) = k + (((l.map (fun x : IRule => (leaves fun _ : ITerm => 4) x.f0 + (leaves fun _ : Int => 1) x.f1 + (leaves (leaves fun _ : ITerm => 4)) x.f2)).take i.toNat).sum : Nat) + (((leaves fun _ : ITerm => 4) a.f0 + (leaves fun _ : Int => 1) a.f1 + (leaves (leaves fun _ : ITerm => 4)) a.f2 : Nat) : Int) := b2
   refine Evr.condT rfl (Evr.skip (Evr.seq (Evr.block (Evr.seq (Evr.regionN rfl (Opl.one rfl rfl (by simp only [go_sem]; rfl) (Opl.one rfl rfl (by simp only [go_sem]; rfl) (Opl.ido (d := d) (m := l.length) (j := i) (es := 3) (by exact hp) rfl (by omega) (by omega) K24 Z106 rfl rfl (Opl.one (v := .ptr d (i.toNat * 3 + 0)) rfl rfl (by simp only [go_sem]; rfl) (Opl.ldo (cs := cs) (v := q0) hl rfl T66 (by rw [← List.drop_drop, show cs.drop (i.toNat * 3) = _ from hdr]; rfl) rfl rfl rfl (Opl.one rfl rfl (by simp only [go_sem]; rfl) (Opl.calls (laws_markTermS.mks _ _ _ _ _ t0 oel.1 (by omega) (by omega)) rfl rfl rfl rfl rfl ?_))))))))))))
   rintro _ S ⟨rfl, j0, a0, n0, m0, l0, o0, s0⟩
   have t1 := s0.tree t1 (Apt.symm (fun z hz hm => ap0 z hz (List.mem_append_left _ hm)))
   have t2 := s0.tree t2 (Apt.symm (fun z hz hm => ap0 z hz (List.mem_append_right _ hm)))
   refine Opl.one rfl rfl (by simp only [go_sem]; rfl) (Opl.nil (Evr.seq (Evr.regionN rfl (Opl.one rfl rfl (by simp only [go_sem]; rfl) (Opl.one rfl rfl (by simp only [go_sem]; rfl) (Opl.ido (d := d) (m := l.length) (j := i) (es := 3) (by exact hp) rfl (by omega) (by omega) K24 Z106 rfl rfl (Opl.one (v := .ptr d (i.toNat * 3 + 1)) rfl rfl (by simp only [go_sem]; rfl) (Opl.ldo (cs := cs) (v := q1) (keep _ (s0.sub (fun z hz => (List.mem_append_left _ hz)))) rfl T27 (by rw [← List.drop_drop, show cs.drop (i.toNat * 3) = _ from hdr]; rfl) rfl rfl rfl (Opl.one rfl rfl (by simp only [go_sem]; rfl) (Opl.calls (laws_markIntS.mks _ _ _ _ _ t1 oel.2.1 (by omega) (by omega)) rfl rfl rfl rfl rfl ?_))))))))))
   rintro _ S ⟨rfl, j1, a1, n1, m1, l1, o1, s1⟩
   have n0 := s1.tree n0 (fun z hz hm => (fun z hz hm => ap0 z hz (List.mem_append_left _ hm)) z (m0 z hz) hm)
   have t2 := s1.tree t2 (Apt.symm (fun z hz hm => ap1 z hz hm))
   refine Opl.one rfl rfl (by simp only [go_sem]; rfl) (Opl.nil (Evr.regionN rfl (Opl.one rfl rfl (by simp only [go_sem]; rfl) (Opl.one rfl rfl (by simp only [go_sem]; rfl) (Opl.ido (d := d) (m := l.length) (j := i) (es := 3) (by exact hp) rfl (by omega) (by omega) K24 Z106 rfl rfl (Opl.one (v := .ptr d (i.toNat * 3 + 2)) rfl rfl (by simp only [go_sem]; rfl) (Opl.ldo (cs := cs) (v := q2) (keep _ ((s0.sub (fun z hz => (List.mem_append_left _ hz))).trans s1 (fun z hz => (List.mem_append_right _ (List.mem_append_left _ hz))))) rfl T104 (by rw [← List.drop_drop, show cs.drop (i.toNat * 3) = _ from hdr]; rfl) rfl rfl rfl (Opl.one rfl rfl (by simp only [go_sem]; rfl) (Opl.calls (laws_markTermSS.mks _ _ _ _ _ t2 oel.2.2 (by omega) (by omega)) rfl rfl rfl rfl rfl ?_)))))))))
   rintro _ S ⟨rfl, j2, a2, n2, m2, l2, o2, s2⟩
   have n0 := s2.tree n0 (fun z hz hm => (fun z hz hm => ap0 z hz (List.mem_append_right _ hm)) z (m0 z hz) hm)
   have n1 := s2.tree n1 (fun z hz hm => (fun z hz hm => ap1 z hz hm) z (m1 z hz) hm)
   refine Opl.one rfl rfl (by simp only [go_sem]; rfl) (Opl.nil (Evr.inBlock (Evr.regionN rfl (Opl.one rfl rfl (by simp only [go_sem]; rfl) (Opl.one rfl rfl (by simp only [go_sem]; rfl) (Opl.one rfl rfl (by simp only [go_sem]; rfl) (Opl.nil ?_)))))))
   rw [wrap_of (x := i + 1) (by omega) (by omega)]
   exact ih n (Nat.le_refl _) _ _ ⟨_, i + 1, ⟨rfl, rfl, rfl, trivial⟩, by omega, by omega, by omega, by omega, back _ _ ⟨a0, a1, a2⟩ (((s0.sub (fun z hz => (List.mem_append_left _ hz))).trans s1 (fun z hz => (List.mem_append_right _ (List.mem_append_left _ hz)))).trans s2 (fun z hz => (List.mem_append_right _ (List.mem_append_right _ hz)))) ⟨[q0], [q1, q2], j0, _, rfl, rfl, (fun z hz hm => (List.mem_append.1 hm).elim (fun hm => (fun z hz hm => ap0 z hz (List.mem_append_left _ hm)) z (m0 z hz) (m1 z hm)) (fun hm => (fun z hz hm => ap0 z hz (List.mem_append_right _ hm)) z (m0 z hz) (m2 z hm))), n0, ⟨[q1], [q2], j1, _, rfl, rfl, (fun z hz hm => (fun z hz hm => ap1 z hz hm) z (m1 z hz) (m2 z hm)), n1, n2⟩⟩ (fun z hz => (List.mem_append.1 hz).elim (fun hz => (fun z hz => (List.mem_append_left _ hz)) z (m0 z hz)) (fun hz => (List.mem_append.1 hz).elim (fun hz => (fun z hz => (List.mem_append_right _ (List.mem_append_left _ hz))) z (m1 z hz)) (fun hz => (fun z hz => (List.mem_append_right _ (List.mem_append_right _ hz))) z (m2 z hz)))) (by show (leaves fun _ : ITerm => 4) a0 + (leaves fun _ : Int => 1) a1 + (leaves (leaves fun _ : ITerm => 4)) a2 = (leaves fun _ : ITerm => 4) a.f0 + (leaves fun _ : Int => 1) a.f1 + (leaves (leaves fun _ : ITerm => 4)) a.f2; omega) ⟨o0, o1, o2⟩⟩
 · have e : (decide (i < (l.length : Int))) = false := by simpa using c
   try rw [e]
   refine Evr.condF rfl (Evr.exit rfl (Evr.seq (Evr.regionN rfl (Opl.one rfl rfl (by simp only [go_sem]; rfl) (Opl.one rfl rfl (by simp only [go_sem]; rfl) (Opl.nil ?_))))))
   refine Evr.ret1 Try.func111 rfl ?_
   obtain rfl : i = l.length := by omega
   exact ⟨by rw [Int.toNat_natCast, sum_all]; rfl, let ⟨x1, x2, x3, x4, x5, x6, x7⟩ := hf.done; ⟨x1, x2, x3, x4, x5, x6 hsm, x7⟩⟩
theorem laws_markSystem.mks : Mks Try.prog 40 (oPr (oRow (oPl cIVar oIVar)) (oRow owIRule)) (fun x : (List IVar) × (List IRule) => (leaves fun _ : IVar => 3) x.1 + (leaves (fun x : IRule => (leaves fun _ : ITerm => 4) x.f0 + (leaves fun _ : Int => 1) x.f1 + (leaves (leaves fun _ : ITerm => 4)) x.f2)) x.2) (fun x : (List IVar) × (List IRule) => okAny x.1 ∧ (okRow (fun x : IRule => okAny x.f0 ∧ okAny x.f1 ∧ (okRow okAny) x.f2)) x.2) .agg := by
 intro S0 ids a c k h oel h0 hb
 obtain ⟨_, _, i0, i1, rfl, rfl, ap0, t0, t1⟩ := h
 obtain ⟨q0, rfl⟩ := oRow_one t0
 have t0 : (oRow (oPl cIVar oIVar)).R S0 i0 a.1 [q0] := t0
 obtain ⟨q1, rfl⟩ := oRow_one t1
 have t1 : (oRow owIRule).R S0 i1 a.2 [q1] := t1
 have hb : k + (((leaves fun _ : IVar => 3) a.1 + (leaves (fun x : IRule => (leaves fun _ : ITerm => 4) x.f0 + (leaves fun _ : Int => 1) x.f1 + (leaves (leaves fun _ : ITerm => 4)) x.f2)) a.2 : Nat) : Int) ≤ 9223372036854775807 := hb
 show RetS _ _ [.agg [q0, q1], _] _ _
 refine RetS.intro Try.func40 rfl (Nat.le_of_ble_eq_true rfl) rfl ?_
 rw [tm2]
 refine Evr.seq (Evr.regionN rfl (Opl.box (cs := [q0, q1]) rfl rfl rfl rfl ?_))
 rintro d S hd ud wd
 have gd := Grow.of ud wd
 have x0 := wd.tree t0
 have t0 := ud.tree t0 x0
 have x1 := wd.tree t1
 have t1 := ud.tree t1 x1
 refine Opl.one rfl rfl (by simp only [go_sem]; rfl) (Opl.nil (Evr.seq (Evr.regionN rfl (Opl.one (v := .ptr d 0) rfl rfl (by simp only [go_sem]; rfl) (Opl.ldb (v := q0) hd rfl T23 rfl rfl rfl rfl (Opl.one rfl rfl (by simp only [go_sem]; rfl) (Opl.calls (laws_markVarS.mks _ _ _ _ _ t0 oel.1 (by omega) (by omega)) rfl rfl rfl rfl rfl ?_)))))))
 rintro _ S ⟨rfl, j0, a0, n0, m0, l0, o0, s0⟩
 have hd := s0.box hd x0
 have t1 := s0.tree t1 (Apt.symm (fun z hz hm => ap0 z hz hm))
 refine Opl.one rfl rfl (by simp only [go_sem]; rfl) (Opl.nil (Evr.seq (Evr.regionN rfl (Opl.one (v := .ptr d 1) rfl rfl (by simp only [go_sem]; rfl) (Opl.ldb (v := q1) hd rfl T24 rfl rfl rfl rfl (Opl.one rfl rfl (by simp only [go_sem]; rfl) (Opl.calls (laws_markRuleS.mks _ _ _ _ _ t1 oel.2 (by omega) (by omega)) rfl rfl rfl rfl rfl ?_)))))))
 rintro _ S ⟨rfl, j1, a1, n1, m1, l1, o1, s1⟩
 have hd := s1.box hd x1
 have n0 := s1.tree n0 (fun z hz hm => (fun z hz hm => ap0 z hz hm) z (m0 z hz) hm)
 refine Opl.one rfl rfl (by simp only [go_sem]; rfl) (Opl.nil (Evr.seq (Evr.regionN rfl (Opl.one rfl rfl (by simp only [go_sem]; rfl) (Opl.one rfl rfl (by simp only [go_sem]; rfl) (Opl.nil ?_))))))
 refine Evr.ret1 Try.func40 rfl ?_
 refine ⟨?_, _, (a0, a1), ⟨[q0], [q1], j0, _, rfl, rfl, (fun z hz hm => (fun z hz hm => ap0 z hz hm) z (m0 z hz) (m1 z hm)), n0, n1⟩, (fun z hz => (List.mem_append.1 hz).elim (fun hz => (fun z hz => (List.mem_append_left _ hz)) z (m0 z hz)) (fun hz => (fun z hz => (List.mem_append_right _ hz)) z (m1 z hz))), ?_, ⟨o0, o1⟩, (Same.trans (Same.trans gd.same s0 (fun z hz => (List.mem_append_left _ hz))) s1 (fun z hz => (List.mem_append_right _ hz)))⟩
 · show PV.lit (.int .i64 (k + (((leaves fun _ : IVar => 3) a.1 : Nat) : Int) + (((leaves (fun x : IRule => (leaves fun _ : ITerm => 4) x.f0 + (leaves fun _ : Int => 1) x.f1 + (leaves (leaves fun _ : ITerm => 4)) x.f2)) a.2 : Nat) : Int))) = .lit (.int .i64 (k + (((leaves fun _ : IVar => 3) a.1 + (leaves (fun x : IRule => (leaves fun _ : ITerm => 4) x.f0 + (leaves fun _ : Int => 1) x.f1 + (leaves (leaves fun _ : ITerm => 4)) x.f2)) a.2 : Nat) : Int)))
   congr 2; omega
 · show (leaves fun _ : IVar => 3) a0 + (leaves (fun x : IRule => (leaves fun _ : ITerm => 4) x.f0 + (leaves fun _ : Int => 1) x.f1 + (leaves (leaves fun _ : ITerm => 4)) x.f2)) a1 = (leaves fun _ : IVar => 3) a.1 + (leaves (fun x : IRule => (leaves fun _ : ITerm => 4) x.f0 + (leaves fun _ : Int => 1) x.f1 + (leaves (leaves fun _ : ITerm => 4)) x.f2)) a.2
   omega
theorem laws_markIntSS.evm {k : Nat} {l0 : List (List Int)} {p : PV} {a1 : Int} {S0 : Sto} {ids : List Abs.Id} (h : (oRow (oRow (oPl (cInt .i64) (oInt .i64)))).R S0 ids l0 [p]) (hbig : l0.length ≤ 9223372036854775807) {r : Int × List (List Int)} (H : laws_markIntSS.f k l0 a1 = some r) : RetS Try.prog 112 [p, .lit (.int .i64 a1)] S0 fun v S => v = .lit (.int .i64 r.1) ∧ ∃ ids', (oRow (oRow (oPl (cInt .i64) (oInt .i64)))).R S ids' r.2 [p] ∧ (∀ i ∈ ids', i ∈ ids) ∧ Same S0 S ids := by
 refine RetS.intro Try.func112 rfl (Nat.le_of_ble_eq_true rfl) rfl ?_
 rw [tm2]
 have hlen := oRow_len h
 refine Evr.seq (Evr.regionN rfl (Opl.one rfl rfl (by simp only [go_sem]; rfl) (Opl.nil (Evr.seq (Evr.seq (Evr.regionN rfl (Opl.one rfl rfl (by simp only [go_sem]; rfl) (Opl.nil (Evr.block ?_)))))))))
 refine Evr.loop (Evr.rounds (n := l0.length + 1) (Inv := fun n tm S => ∃ (k1 : Int) (i : Nat) (l1 q : List (List Int)) (ids1 : List Abs.Id), Has tm [(0, p), (1, .lit (.int .i64 k1)), (5, .lit (.int .i64 i))] ∧ i ≤ l0.length ∧ i + n = l0.length + 1 ∧ l1.length = l0.length ∧ laws_markIntSS.f k (l1.drop i) k1 = some (r.1, q) ∧ r.2 = l1.take i ++ q ∧ (oRow (oRow (oPl (cInt .i64) (oInt .i64)))).R S ids1 l1 [p] ∧ (∀ i ∈ ids1, i ∈ ids) ∧ Same S0 S ids) ?_ ?_ ?_)
 · exact ⟨a1, 0, l0, r.2, ids, ⟨rfl, rfl, rfl, trivial⟩, by omega, by omega, rfl, by rw [List.drop_zero]; exact H, by simp, h, fun _ h => h, .refl _ _⟩
 · rintro tm S ⟨k1, i, l1, q, ids1, -, h2, h3, -⟩
   omega
 rintro n ih tm S ⟨k1, i, l1, q, ids1, hh, h2, h3, hl1, H, hr, ht, hsub, hs⟩
 rw [hh.eq]
 refine Evr.seq (Evr.seq (Evr.regionN rfl (Opl.one rfl rfl (by simp only [go_sem]; rfl) (Opl.one rfl rfl (by simp only [go_sem]; rfl) (Opl.leno (by exact hlen) K30 rfl rfl rfl rfl (Opl.one rfl rfl (by simp only [go_sem]; rfl) (Opl.nil ?_)))))))
 by_cases c : (i : Int) < (l0.length : Int)
 · have e : (decide ((i : Int) < (l0.length : Int))) = true := by simpa using c
   try rw [e]
   have hi : i < l1.length := by omega
   obtain ⟨d, cs, ij, ce, rr, hp, hl, hdr, hel, hsubj, keep, back⟩ := oRow_mark ht i hi
   rw [List.drop_eq_getElem_cons hi] at H
   simp only [laws_markIntSS.f] at H
   obtain ⟨p1, hp1, H⟩ := Option.bind_eq_some_iff.1 H
   obtain ⟨q1, hq1, H⟩ := Option.bind_eq_some_iff.1 H
   obtain ⟨e1, rfl⟩ := Prod.mk.inj (Option.some.inj H)
   obtain ⟨q0, rfl⟩ := oRow_one hel
   obtain ⟨hv, rfl⟩ := tree_vec hel
   refine Evr.condT rfl (Evr.skip (Evr.seq (Evr.block (Evr.regionN rfl (Opl.one rfl rfl (by simp only [go_sem]; rfl) (Opl.one rfl rfl (by simp only [go_sem]; rfl) (Opl.ido (d := d) (m := l1.length) (j := i) (es := 1) (by exact hp) rfl (by omega) (by omega) K30 Z27 rfl rfl (Opl.ldo (cs := cs) (v := q0) hl rfl T27 ((congrArg _ hdr).trans rfl) rfl rfl rfl (Opl.one rfl rfl (by first | (simp only [go_sem]; done) | (simp only [go_sem]; rfl)) (Opl.calls (laws_markIntS.evm hv hp1) rfl rfl rfl rfl rfl ?_))))))))))
   rintro _ S ⟨rfl, hv1, hs1⟩
   obtain ⟨ids2, ht2, hsub2⟩ := back S _ _ hs1 (hv1.tree (oInt .i64)) (fun _ h => h)
   refine Opl.one rfl rfl (by simp only [go_sem]; rfl) (Opl.nil (Evr.inBlock (Evr.regionN rfl (Opl.one rfl rfl (by simp only [go_sem]; rfl) (Opl.one rfl rfl (by simp only [go_sem]; rfl) (Opl.one rfl rfl (by simp only [go_sem]; rfl) (Opl.nil ?_)))))))
   rw [show wrap64 ((i : Int) + 1) = ((i + 1 : Nat) : Int) by unfold wrap64; have := hbig; omega]
   exact ih n (Nat.le_refl _) _ _ ⟨p1.1, i + 1, l1.set i p1.2, q1.2, ids2, ⟨rfl, rfl, rfl, trivial⟩, by omega, by omega, by simpa using hl1, by rw [List.drop_set_of_lt (by omega), hq1, ← e1], by rw [hr, List.take_succ_eq_append_getElem (by simpa using hi), List.take_set_of_le (Nat.le_refl _)]; simp, ht2, fun i hi => hsub i (hsub2 i hi), hs.trans hs1 fun i hi => hsub i (hsubj i hi)⟩
 · have e : (decide ((i : Int) < (l0.length : Int))) = false := by simpa using c
   try rw [e]
   refine Evr.condF rfl (Evr.exit rfl (Evr.seq (Evr.regionN rfl (Opl.one rfl rfl (by simp only [go_sem]; rfl) (Opl.one rfl rfl (by simp only [go_sem]; rfl) (Opl.nil ?_))))))
   have hi : i = l1.length := by omega
   subst hi
   rw [List.drop_length] at H
   simp only [laws_markIntSS.f] at H
   obtain ⟨e1, rfl⟩ := Prod.mk.inj (Option.some.inj H)
   rw [List.take_length, List.append_nil] at hr
   refine Evr.ret1 Try.func112 rfl ?_
   exact ⟨by rw [← e1]; rfl, ids1, hr ▸ ht, hsub, hs⟩
theorem laws_markTrace.evm {k : Nat} {l0 : List (List Int)} {l1 : List Int} {p0 p1 : PV} {a1 m1 m : Int} {w0 : List (List Int)} {w1 : List Int} {S0 : Sto} {ids : List Abs.Id} (h : (oPr (oRow (oRow (oPl (cInt .i64) (oInt .i64)))) (oRow (oPl (cInt .i64) (oInt .i64)))).R S0 ids (l0, l1) [p0, p1]) (hbig : l0.length ≤ 9223372036854775807) (H1 : laws_markIntSS.f k l0 a1 = some (m1, w0)) (H2 : laws_markIntS.f k l1 m1 = some (m, w1)) : RetS Try.prog 42 [.agg [p0, p1], .lit (.int .i64 a1)] S0 fun v S => v = .lit (.int .i64 m) ∧ ∃ ids', (oPr (oRow (oRow (oPl (cInt .i64) (oInt .i64)))) (oRow (oPl (cInt .i64) (oInt .i64)))).R S ids' (w0, w1) [p0, p1] ∧ (∀ i ∈ ids', i ∈ ids) ∧ Same S0 S ids := by
 obtain ⟨c1, c2, i0, i1, ec, rfl, ap0, t0, t1⟩ := h
 obtain ⟨q0, rfl⟩ := oRow_one t0
 obtain ⟨q1, rfl⟩ := oRow_one t1
 obtain ⟨rfl, rfl⟩ : p0 = q0 ∧ p1 = q1 := by simpa using ec
 have t0 : (oRow (oRow (oPl (cInt .i64) (oInt .i64)))).R S0 i0 l0 [p0] := t0
 have t1 : (oRow (oPl (cInt .i64) (oInt .i64))).R S0 i1 l1 [p1] := t1
 obtain ⟨hv_, e1⟩ := tree_vec t1
 subst e1
 refine RetS.intro Try.func42 rfl (Nat.le_of_ble_eq_true rfl) rfl ?_
 rw [tm2]
 refine Evr.seq (Evr.regionN rfl (Opl.box (cs := [p0, p1]) rfl rfl rfl rfl ?_))
 rintro d S hd ud wd
 have gd := Grow.of ud wd
 have x0 := wd.tree t0
 have t0 := ud.tree t0 x0
 have x1 := wd.tree t1
 have t1 := ud.tree t1 x1
 refine Opl.one rfl rfl (by simp only [go_sem]; rfl) (Opl.nil (Evr.seq (Evr.regionN rfl (Opl.one (v := .ptr d 0) rfl rfl (by simp only [go_sem]; rfl) (Opl.ldb (v := p0) hd rfl T30 rfl rfl rfl rfl (Opl.one rfl rfl (by simp only [go_sem] <;> rfl) (Opl.calls (laws_markIntSS.evm t0 hbig H1) rfl rfl rfl rfl rfl ?_)))))))
 rintro _ S ⟨rfl, j0, n0, m0, s0⟩
 have hd := s0.box hd x0
 have t1 := s0.tree t1 (Apt.symm ap0)
 refine Opl.one rfl rfl (by simp only [go_sem]; rfl) (Opl.nil (Evr.seq (Evr.regionN rfl (Opl.one (v := .ptr d 1) rfl rfl (by simp only [go_sem]; rfl) (Opl.ldb (v := p1) hd rfl T27 rfl rfl rfl rfl (Opl.one rfl rfl (by simp only [go_sem] <;> rfl) (Opl.calls (laws_markIntS.evm (tree_vec t1).1 H2) rfl rfl rfl rfl rfl ?_)))))))
 rintro _ S ⟨rfl, hv1, s1⟩
 have n1 := hv1.tree (oInt .i64)
 have n0 := s1.tree n0 (fun z hz hm => ap0 z (m0 z hz) hm)
 refine Opl.one rfl rfl (by simp only [go_sem]; rfl) (Opl.nil (Evr.seq (Evr.regionN rfl (Opl.one rfl rfl (by simp only [go_sem]; rfl) (Opl.one rfl rfl (by simp only [go_sem]; rfl) (Opl.nil ?_))))))
 refine Evr.ret1 Try.func42 rfl ?_
 exact ⟨rfl, _, ⟨[p0], [p1], j0, _, rfl, rfl, fun z hz hm => ap0 z (m0 z hz) hm, n0, n1⟩, fun z hz => (List.mem_append.1 hz).elim (fun hz => List.mem_append_left _ (m0 z hz)) (fun hz => List.mem_append_right _ hz), Same.trans (Same.trans gd.same s0 (fun z hz => List.mem_append_left _ hz)) s1 (fun z hz => List.mem_append_right _ hz)⟩
end Go.Proofs.Ytpjmiaooogephaa.PA
