/- Walks of Go functions: each is shown to answer as the Lean function beside it tells, under the conditions that its theorem names. -/
import Derived.Test.YtpbpmfckmgcdfaaDoorProg
import Derived.KernelRfl
import Derived.Below
import Derived.Deep.Draws
import Derived.Deep.AppendLies
import Derived.Maps.AppendAt
import Derived.OwnWalk
import Derived.Laws.BytesArg
import Derived.Laws.MakeOwn
import Derived.Laws.OwnMore
import Derived.Deep.OwnRows
import Derived.Tactics
import Derived.Lib.ConvBytes
import Derived.Laws.Slices
import Derived.WalkKit
import Derived.RowKit3
import Derived.Deep.LoopGhost
import Derived.Deep.QuietTactic
import Derived.BigQuiet
import Derived.WideLaws
import Derived.Deep.DeepCutAuto
import Derived.Deep.CutBlock
import Derived.Deep.RegionHeld3
import Derived.Laws.Rows
import Derived.Lib.AppendStr
import Derived.ArgAppend
import Derived.Laws.IdiomCopy
import Derived.OrdersHeld
import Derived.Laws.BitsLemmas
import Derived.RowKit
import Derived.Laws.StructEq
import Derived.Lib.SliceRun
import Derived.WalkSpells
import Derived.ChangeArms
import Derived.ChangeSlices
import Derived.Deep.Slices
import Derived.Attr
import Derived.Laws.Append
import Derived.Laws.AppendOwn
import Derived.Laws.Entries
import Derived.Calls
import Derived.Laws.Sem
import Derived.Test.YtpbpmfckmgcdfaaDoorKP0fa0362a20
namespace Go.Proofs.YtpbpmfckmgcdfaaDoor.PA
open Go Go.Abs Go.RowKit Go.Proofs Go.Proofs.YtpbpmfckmgcdfaaDoorW.PrintWords Go.Proofs.YtpbpmfckmgcdfaaDoorW.PrintLast Go.Proofs.YtpbpmfckmgcdfaaDoorW.PrintMore
set_option maxRecDepth 100000
set_option maxHeartbeats 4000000
set_option linter.unusedVariables false
set_option linter.unusedSimpArgs false
theorem laws_eqIntS.ev {k : Nat} {l0 : List Int} {v0 : PV} (hv0 : Sl (cInt .i64) l0 v0) {l1 : List Int} {v1 : PV} (hv1 : Sl (cInt .i64) l1 v1) {r : Bool} (H : laws_eqIntS.f k l0 l1 = some r) : Ret Tryd.prog 54 [v0, v1] fun v S => v = .lit (.bool r) := by
 unfold laws_eqIntS.f at H
 refine Ret.intro Tryd.func54 rfl (Nat.le_of_ble_eq_true rfl) rfl ?_
 rw [tm2]
 refine Evr.sr rfl (Opl.p1 (n := Opl.nil (Evr.seq (Evr.sr rfl (Opl.p1 (n := Opl.len (xs := l0) (by exact hv0) K37 rfl rfl rfl rfl (Opl.p1 (n := Opl.len (xs := l1) (by exact hv1) K37 rfl rfl rfl rfl (Opl.p1 (n := Opl.nil ?_))))))))))
 by_cases c1 : (l0.length : Int) = (l1.length : Int)
 case neg =>
  rw [if_neg c1] at H
  have e6 : ((l0.length : Int) != (l1.length : Int)) = true := by simpa using c1
  try rw [e6]
  refine Evr.condT rfl (Evr.sr rfl (Opl.p1 (n := Opl.nil ?_)))
  obtain rfl := Option.some.inj H
  refine Evr.ret1 Tryd.func54 rfl ?_
  show (.lit (.bool false) : PV) = _
  first | rfl | (simp only [go_sem]; rfl)
 rw [if_pos c1] at H
 have e1 : ((l0.length : Int) != (l1.length : Int)) = false := by simpa using c1
 try rw [e1]
 refine Evr.condF rfl (Evr.skip (Evr.seq (Evr.sr rfl (Opl.p1 (n := Opl.nil (Evr.block ?_))))))
 refine Evr.loop (Evr.rounds (n := k) (Inv := fun n tm S => n ≤ k ∧ ∃ (x5_1 : Int), laws_eqIntS.l0 n l0 l1 x5_1 = some r ∧ Has tm [(0, v0), (1, v1), (5, .lit (.int .i64 x5_1))]) ?_ ?_ ?_)
 · exact ⟨Nat.le_refl _, _, H, ⟨rfl, rfl, rfl, trivial⟩⟩
 ·
  rintro tm S ⟨_, _, H, -⟩
  simp [laws_eqIntS.l0] at H
 ·
  rintro n1 ih1 tm S ⟨hle, x5_1, H, hh⟩
  simp only [laws_eqIntS.l0] at H
  rw [hh.eq]
  refine Evr.seq (Evr.sr rfl (Opl.p1 (n := Opl.p1 (n := Opl.len (xs := l0) (by exact hv0) K37 rfl rfl rfl rfl (Opl.p1 (n := Opl.nil ?_))))))
  by_cases c2 : x5_1 < (l0.length : Int)
  case neg =>
   rw [if_neg c2] at H
   have e5 : (decide (x5_1 < (l0.length : Int))) = false := by simpa using c2
   try rw [e5]
   refine Evr.condF rfl (Evr.exit rfl (Evr.sr rfl (Opl.p1 (n := Opl.nil ?_))))
   obtain rfl := Option.some.inj H
   refine Evr.ret1 Tryd.func54 rfl ?_
   show (.lit (.bool true) : PV) = _
   first | rfl | (simp only [go_sem]; rfl)
  rw [if_pos c2] at H
  have e2 : (decide (x5_1 < (l0.length : Int))) = true := by simpa using c2
  try rw [e2]
  refine Evr.condT rfl (Evr.skip (Evr.seq (Evr.block (Evr.seq (Evr.regionD rfl (by kernel_rfl) (Opl.p1 (n := Opl.p1 (n := ?_))))))))
  obtain ⟨c3, H⟩ := peel H
  obtain ⟨c4, H⟩ := peel H
  refine Opl.idx (M := (cInt .i64)) (xs := l0) (j := x5_1) (0 : Int) (by exact hv0) rfl (by omega) (by omega) K37 Z3 rfl rfl ?_
  rintro p1 q1 h1
  obtain rfl : p1 = [.lit (.int .i64 (rd l0 x5_1))] := h1
  refine Opl.lda (.lit (.int .i64 (rd l0 x5_1))) rfl T3 rfl rfl rfl rfl (Opl.p1 (n := Opl.p1 (n := Opl.idx (M := (cInt .i64)) (xs := l1) (j := x5_1) (0 : Int) (by exact hv1) rfl (by omega) (by omega) K37 Z3 rfl rfl ?_)))
  rintro p2 q2 h2
  obtain rfl : p2 = [.lit (.int .i64 (rd l1 x5_1))] := h2
  refine Opl.lda (.lit (.int .i64 (rd l1 x5_1))) rfl T3 rfl rfl rfl rfl (Opl.p1 (n := Opl.nil ?_))
  by_cases c5 : (rd l0 x5_1) = (rd l1 x5_1)
  case pos =>
   rw [if_pos c5] at H
   have e3 : ((rd l0 x5_1) != (rd l1 x5_1)) = false := by simpa using c5
   try rw [e3]
   refine Evr.condF rfl (Evr.skip (Evr.inBlock (Evr.regionN rfl (Opl.p1 (n := Opl.p1 (n := Opl.p1 (n := Opl.nil ?_)))))))
   exact ih1 _ (by omega) _ _ ⟨by omega, _, H, ⟨rfl, rfl, rfl, trivial⟩⟩
  rw [if_neg c5] at H
  have e4 : ((rd l0 x5_1) != (rd l1 x5_1)) = true := by simpa using c5
  try rw [e4]
  refine Evr.condT rfl (Evr.sr rfl (Opl.p1 (n := Opl.nil ?_)))
  obtain rfl := Option.some.inj H
  refine Evr.ret1 Tryd.func54 rfl ?_
  show (.lit (.bool false) : PV) = _
  first | rfl | (simp only [go_sem]; rfl)
theorem laws_eqTerm.ev {a0_0 : Int} {a0_1 : Int} {a0_2 : Int} {a0_3 : Int} {a1_0 : Int} {a1_1 : Int} {a1_2 : Int} {a1_3 : Int} {r : Bool} (H : laws_eqTerm.f a0_0 a0_1 a0_2 a0_3 a1_0 a1_1 a1_2 a1_3 = some r) : Ret Tryd.prog 63 [.agg [.lit (.int .i64 a0_0), .lit (.int .i64 a0_1), .lit (.int .i64 a0_2), .lit (.int .i64 a0_3)], .agg [.lit (.int .i64 a1_0), .lit (.int .i64 a1_1), .lit (.int .i64 a1_2), .lit (.int .i64 a1_3)]] fun v S => v = .lit (.bool r) := by
 unfold laws_eqTerm.f at H
 refine Ret.intro Tryd.func63 rfl (Nat.le_of_ble_eq_true rfl) rfl ?_
 rw [tm2]
 refine Evr.sr rfl (Opl.box (cs := [.lit (.int .i64 a0_0), .lit (.int .i64 a0_1), .lit (.int .i64 a0_2), .lit (.int .i64 a0_3)]) rfl rfl rfl rfl ?_)
 rintro i1 S h1 u1 w1
 refine Opl.box (cs := [.lit (.int .i64 a1_0), .lit (.int .i64 a1_1), .lit (.int .i64 a1_2), .lit (.int .i64 a1_3)]) rfl rfl rfl rfl ?_
 rintro i2 S h2 u2 w2
 have ap1 := w2.box h1
 have h3 := u2.box h1 ap1
 refine Opl.p1 (n := Opl.nil (Evr.seq (Evr.sr rfl (Opl.p1 (v := .ptr i1 0) (n := Opl.ldb (v := .lit (.int .i64 a0_0)) h3 rfl T3 rfl rfl rfl rfl (Opl.p1 (v := .ptr i2 0) (n := Opl.ldb (v := .lit (.int .i64 a1_0)) h2 rfl T3 rfl rfl rfl rfl (Opl.p1 (n := Opl.nil ?_)))))))))
 by_cases c1 : a0_0 = a1_0
 case neg =>
  rw [if_neg c1] at H
  have e8 : (a0_0 != a1_0) = true := by simpa using c1
  try rw [e8]
  refine Evr.condT rfl (Evr.sr rfl (Opl.p1 (n := Opl.nil ?_)))
  obtain rfl := Option.some.inj H
  refine Evr.ret1 Tryd.func63 rfl ?_
  show (.lit (.bool false) : PV) = _
  first | rfl | (simp only [go_sem]; rfl)
 rw [if_pos c1] at H
 have e1 : (a0_0 != a1_0) = false := by simpa using c1
 try rw [e1]
 refine Evr.condF rfl (Evr.skip (Evr.seq (Evr.sr rfl (Opl.p1 (v := .ptr i1 1) (n := Opl.ldb (v := .lit (.int .i64 a0_1)) h3 rfl T3 rfl rfl rfl rfl (Opl.p1 (v := .ptr i2 1) (n := Opl.ldb (v := .lit (.int .i64 a1_1)) h2 rfl T3 rfl rfl rfl rfl (Opl.p1 (n := Opl.nil ?_)))))))))
 by_cases c2 : a0_1 = a1_1
 case neg =>
  rw [if_neg c2] at H
  have e7 : (a0_1 != a1_1) = true := by simpa using c2
  try rw [e7]
  refine Evr.condT rfl (Evr.sr rfl (Opl.p1 (n := Opl.nil ?_)))
  obtain rfl := Option.some.inj H
  refine Evr.ret1 Tryd.func63 rfl ?_
  show (.lit (.bool false) : PV) = _
  first | rfl | (simp only [go_sem]; rfl)
 rw [if_pos c2] at H
 have e2 : (a0_1 != a1_1) = false := by simpa using c2
 try rw [e2]
 refine Evr.condF rfl (Evr.skip (Evr.seq (Evr.sr rfl (Opl.p1 (v := .ptr i1 2) (n := Opl.ldb (v := .lit (.int .i64 a0_2)) h3 rfl T3 rfl rfl rfl rfl (Opl.p1 (v := .ptr i2 2) (n := Opl.ldb (v := .lit (.int .i64 a1_2)) h2 rfl T3 rfl rfl rfl rfl (Opl.p1 (n := Opl.nil ?_)))))))))
 by_cases c3 : a0_2 = a1_2
 case neg =>
  rw [if_neg c3] at H
  have e6 : (a0_2 != a1_2) = true := by simpa using c3
  try rw [e6]
  refine Evr.condT rfl (Evr.sr rfl (Opl.p1 (n := Opl.nil ?_)))
  obtain rfl := Option.some.inj H
  refine Evr.ret1 Tryd.func63 rfl ?_
  show (.lit (.bool false) : PV) = _
  first | rfl | (simp only [go_sem]; rfl)
 rw [if_pos c3] at H
 have e3 : (a0_2 != a1_2) = false := by simpa using c3
 try rw [e3]
 refine Evr.condF rfl (Evr.skip (Evr.seq (Evr.sr rfl (Opl.p1 (v := .ptr i1 3) (n := Opl.ldb (v := .lit (.int .i64 a0_3)) h3 rfl T3 rfl rfl rfl rfl (Opl.p1 (v := .ptr i2 3) (n := Opl.ldb (v := .lit (.int .i64 a1_3)) h2 rfl T3 rfl rfl rfl rfl (Opl.p1 (n := Opl.nil ?_)))))))))
 by_cases c4 : a0_3 = a1_3
 case neg =>
  rw [if_neg c4] at H
  have e5 : (a0_3 != a1_3) = true := by simpa using c4
  try rw [e5]
  refine Evr.condT rfl (Evr.sr rfl (Opl.p1 (n := Opl.nil ?_)))
  obtain rfl := Option.some.inj H
  refine Evr.ret1 Tryd.func63 rfl ?_
  show (.lit (.bool false) : PV) = _
  first | rfl | (simp only [go_sem]; rfl)
 rw [if_pos c4] at H
 have e4 : (a0_3 != a1_3) = false := by simpa using c4
 try rw [e4]
 refine Evr.condF rfl (Evr.skip (Evr.sr rfl (Opl.p1 (n := Opl.nil ?_))))
 obtain rfl := Option.some.inj H
 refine Evr.ret1 Tryd.func63 rfl ?_
 show (.lit (.bool true) : PV) = _
 first | rfl | (simp only [go_sem]; rfl)
theorem laws_eqTermS.ev {k : Nat} {l0 : List ITerm} {v0 : PV} (hv0 : Sl cITerm l0 v0) {l1 : List ITerm} {v1 : PV} (hv1 : Sl cITerm l1 v1) {r : Bool} (H : laws_eqTermS.f k l0 l1 = some r) : Ret Tryd.prog 53 [v0, v1] fun v S => v = .lit (.bool r) := by
 unfold laws_eqTermS.f at H
 refine Ret.intro Tryd.func53 rfl (Nat.le_of_ble_eq_true rfl) rfl ?_
 rw [tm2]
 refine Evr.sr rfl (Opl.p1 (n := Opl.nil (Evr.seq (Evr.sr rfl (Opl.p1 (n := Opl.len (xs := l0) (by exact hv0) K56 rfl rfl rfl rfl (Opl.p1 (n := Opl.len (xs := l1) (by exact hv1) K56 rfl rfl rfl rfl (Opl.p1 (n := Opl.nil ?_))))))))))
 by_cases c1 : (l0.length : Int) = (l1.length : Int)
 case neg =>
  rw [if_neg c1] at H
  have e6 : ((l0.length : Int) != (l1.length : Int)) = true := by simpa using c1
  try rw [e6]
  refine Evr.condT rfl (Evr.sr rfl (Opl.p1 (n := Opl.nil ?_)))
  obtain rfl := Option.some.inj H
  refine Evr.ret1 Tryd.func53 rfl ?_
  show (.lit (.bool false) : PV) = _
  first | rfl | (simp only [go_sem]; rfl)
 rw [if_pos c1] at H
 have e1 : ((l0.length : Int) != (l1.length : Int)) = false := by simpa using c1
 try rw [e1]
 refine Evr.condF rfl (Evr.skip (Evr.seq (Evr.sr rfl (Opl.p1 (n := Opl.nil (Evr.block ?_))))))
 refine Evr.loop (Evr.rounds (n := k) (Inv := fun n tm S => n ≤ k ∧ ∃ (x5_1 : Int), laws_eqTermS.l0 n l0 l1 x5_1 = some r ∧ Has tm [(0, v0), (1, v1), (5, .lit (.int .i64 x5_1))]) ?_ ?_ ?_)
 · exact ⟨Nat.le_refl _, _, H, ⟨rfl, rfl, rfl, trivial⟩⟩
 ·
  rintro tm S ⟨_, _, H, -⟩
  simp [laws_eqTermS.l0] at H
 ·
  rintro n1 ih1 tm S ⟨hle, x5_1, H, hh⟩
  simp only [laws_eqTermS.l0] at H
  rw [hh.eq]
  refine Evr.seq (Evr.sr rfl (Opl.p1 (n := Opl.p1 (n := Opl.len (xs := l0) (by exact hv0) K56 rfl rfl rfl rfl (Opl.p1 (n := Opl.nil ?_))))))
  by_cases c2 : x5_1 < (l0.length : Int)
  case neg =>
   rw [if_neg c2] at H
   have e5 : (decide (x5_1 < (l0.length : Int))) = false := by simpa using c2
   try rw [e5]
   refine Evr.condF rfl (Evr.exit rfl (Evr.sr rfl (Opl.p1 (n := Opl.nil ?_))))
   obtain rfl := Option.some.inj H
   refine Evr.ret1 Tryd.func53 rfl ?_
   show (.lit (.bool true) : PV) = _
   first | rfl | (simp only [go_sem]; rfl)
  rw [if_pos c2] at H
  have e2 : (decide (x5_1 < (l0.length : Int))) = true := by simpa using c2
  try rw [e2]
  refine Evr.condT rfl (Evr.skip (Evr.seq (Evr.block (Evr.seq (Evr.regionD rfl (by kernel_rfl) (Opl.p1 (n := Opl.p1 (n := ?_))))))))
  obtain ⟨c3, H⟩ := peel H
  obtain ⟨c4, H⟩ := peel H
  refine Opl.idx (M := cITerm) (xs := l0) (j := x5_1) zITerm (by exact hv0) rfl (by omega) (by omega) K56 Z86 rfl rfl ?_
  rintro p1 q1 h1
  obtain rfl := cITerm_R (x := (rd_ITerm l0 x5_1)) h1
  refine Opl.lda (.agg [.lit (.int .i64 ((rd_ITerm l0 x5_1).f0)), .lit (.int .i64 ((rd_ITerm l0 x5_1).f1)), .lit (.int .i64 ((rd_ITerm l0 x5_1).f2)), .lit (.int .i64 ((rd_ITerm l0 x5_1).f3))]) rfl T86 rfl rfl rfl rfl (Opl.p1 (n := Opl.p1 (n := Opl.idx (M := cITerm) (xs := l1) (j := x5_1) zITerm (by exact hv1) rfl (by omega) (by omega) K56 Z86 rfl rfl ?_)))
  rintro p2 q2 h2
  obtain rfl := cITerm_R (x := (rd_ITerm l1 x5_1)) h2
  refine Opl.lda (.agg [.lit (.int .i64 ((rd_ITerm l1 x5_1).f0)), .lit (.int .i64 ((rd_ITerm l1 x5_1).f1)), .lit (.int .i64 ((rd_ITerm l1 x5_1).f2)), .lit (.int .i64 ((rd_ITerm l1 x5_1).f3))]) rfl T86 rfl rfl rfl rfl ?_
  obtain ⟨t357, h_t357, H⟩ := Option.bind_eq_some_iff.1 H
  refine Opl.callc (laws_eqTerm.ev h_t357) rfl rfl rfl rfl ⟨(.aggL ⟨(.lit _), (.lit _), (.lit _), (.lit _), trivial⟩), (.aggL ⟨(.lit _), (.lit _), (.lit _), (.lit _), trivial⟩), trivial⟩ (by decide) (Opl.p1 (n := Opl.nil ?_))
  by_cases c5 : t357 = true
  case pos =>
   rw [if_pos c5] at H
   have e3 : (!t357) = false := by simpa using c5
   try rw [e3]
   refine Evr.condF rfl (Evr.skip (Evr.inBlock (Evr.regionN rfl (Opl.p1 (n := Opl.p1 (n := Opl.p1 (n := Opl.nil ?_)))))))
   exact ih1 _ (by omega) _ _ ⟨by omega, _, H, ⟨rfl, rfl, rfl, trivial⟩⟩
  rw [if_neg c5] at H
  have e4 : (!t357) = true := by simpa using c5
  try rw [e4]
  refine Evr.condT rfl (Evr.sr rfl (Opl.p1 (n := Opl.nil ?_)))
  obtain rfl := Option.some.inj H
  refine Evr.ret1 Tryd.func53 rfl ?_
  show (.lit (.bool false) : PV) = _
  first | rfl | (simp only [go_sem]; rfl)
theorem laws_eqTermSS.ev {k : Nat} {l0 : List (List ITerm)} {v0 : PV} (hv0 : Sl (cSl cITerm) l0 v0) {l1 : List (List ITerm)} {v1 : PV} (hv1 : Sl (cSl cITerm) l1 v1) {r : Bool} (H : laws_eqTermSS.f k l0 l1 = some r) : Ret Tryd.prog 55 [v0, v1] fun v S => v = .lit (.bool r) := by
 unfold laws_eqTermSS.f at H
 refine Ret.intro Tryd.func55 rfl (Nat.le_of_ble_eq_true rfl) rfl ?_
 rw [tm2]
 refine Evr.sr rfl (Opl.p1 (n := Opl.nil (Evr.seq (Evr.sr rfl (Opl.p1 (n := Opl.len (xs := l0) (by exact hv0) K57 rfl rfl rfl rfl (Opl.p1 (n := Opl.len (xs := l1) (by exact hv1) K57 rfl rfl rfl rfl (Opl.p1 (n := Opl.nil ?_))))))))))
 by_cases c1 : (l0.length : Int) = (l1.length : Int)
 case neg =>
  rw [if_neg c1] at H
  have e6 : ((l0.length : Int) != (l1.length : Int)) = true := by simpa using c1
  try rw [e6]
  refine Evr.condT rfl (Evr.sr rfl (Opl.p1 (n := Opl.nil ?_)))
  obtain rfl := Option.some.inj H
  refine Evr.ret1 Tryd.func55 rfl ?_
  show (.lit (.bool false) : PV) = _
  first | rfl | (simp only [go_sem]; rfl)
 rw [if_pos c1] at H
 have e1 : ((l0.length : Int) != (l1.length : Int)) = false := by simpa using c1
 try rw [e1]
 refine Evr.condF rfl (Evr.skip (Evr.seq (Evr.sr rfl (Opl.p1 (n := Opl.nil (Evr.block ?_))))))
 refine Evr.loop (Evr.rounds (n := k) (Inv := fun n tm S => n ≤ k ∧ ∃ (x5_1 : Int), laws_eqTermSS.l0 n l0 l1 x5_1 = some r ∧ Has tm [(0, v0), (1, v1), (5, .lit (.int .i64 x5_1))]) ?_ ?_ ?_)
 · exact ⟨Nat.le_refl _, _, H, ⟨rfl, rfl, rfl, trivial⟩⟩
 ·
  rintro tm S ⟨_, _, H, -⟩
  simp [laws_eqTermSS.l0] at H
 ·
  rintro n1 ih1 tm S ⟨hle, x5_1, H, hh⟩
  simp only [laws_eqTermSS.l0] at H
  rw [hh.eq]
  refine Evr.seq (Evr.sr rfl (Opl.p1 (n := Opl.p1 (n := Opl.len (xs := l0) (by exact hv0) K57 rfl rfl rfl rfl (Opl.p1 (n := Opl.nil ?_))))))
  by_cases c2 : x5_1 < (l0.length : Int)
  case neg =>
   rw [if_neg c2] at H
   have e5 : (decide (x5_1 < (l0.length : Int))) = false := by simpa using c2
   try rw [e5]
   refine Evr.condF rfl (Evr.exit rfl (Evr.sr rfl (Opl.p1 (n := Opl.nil ?_))))
   obtain rfl := Option.some.inj H
   refine Evr.ret1 Tryd.func55 rfl ?_
   show (.lit (.bool true) : PV) = _
   first | rfl | (simp only [go_sem]; rfl)
  rw [if_pos c2] at H
  have e2 : (decide (x5_1 < (l0.length : Int))) = true := by simpa using c2
  try rw [e2]
  refine Evr.condT rfl (Evr.skip (Evr.seq (Evr.block (Evr.seq (Evr.regionD rfl (by kernel_rfl) (Opl.p1 (n := Opl.p1 (n := ?_))))))))
  obtain ⟨c3, H⟩ := peel H
  obtain ⟨c4, H⟩ := peel H
  refine Opl.idx (M := (cSl cITerm)) (xs := l0) (j := x5_1) ([] : List ITerm) (by exact hv0) rfl (by omega) (by omega) K57 Z56 rfl rfl ?_
  rintro p1 q1 h1
  obtain ⟨pv1, rfl, h2⟩ := h1
  refine Opl.lda (pv1) rfl T56 rfl rfl rfl rfl (Opl.p1 (n := Opl.p1 (n := Opl.idx (M := (cSl cITerm)) (xs := l1) (j := x5_1) ([] : List ITerm) (by exact hv1) rfl (by omega) (by omega) K57 Z56 rfl rfl ?_)))
  rintro p2 q2 h3
  obtain ⟨pv2, rfl, h4⟩ := h3
  refine Opl.lda (pv2) rfl T56 rfl rfl rfl rfl ?_
  obtain ⟨t362, h_t362, H⟩ := Option.bind_eq_some_iff.1 H
  refine Opl.callc (laws_eqTermS.ev h2 h4 h_t362) rfl rfl rfl rfl ⟨h2.plain, h4.plain, trivial⟩ (by decide) (Opl.p1 (n := Opl.nil ?_))
  by_cases c5 : t362 = true
  case pos =>
   rw [if_pos c5] at H
   have e3 : (!t362) = false := by simpa using c5
   try rw [e3]
   refine Evr.condF rfl (Evr.skip (Evr.inBlock (Evr.regionN rfl (Opl.p1 (n := Opl.p1 (n := Opl.p1 (n := Opl.nil ?_)))))))
   exact ih1 _ (by omega) _ _ ⟨by omega, _, H, ⟨rfl, rfl, rfl, trivial⟩⟩
  rw [if_neg c5] at H
  have e4 : (!t362) = true := by simpa using c5
  try rw [e4]
  refine Evr.condT rfl (Evr.sr rfl (Opl.p1 (n := Opl.nil ?_)))
  obtain rfl := Option.some.inj H
  refine Evr.ret1 Tryd.func55 rfl ?_
  show (.lit (.bool false) : PV) = _
  first | rfl | (simp only [go_sem]; rfl)
theorem laws_eqRule.ev {k : Nat} {l0_0 : List ITerm} {v0_0 : PV} (hv0_0 : Sl cITerm l0_0 v0_0) {l0_1 : List Int} {v0_1 : PV} (hv0_1 : Sl (cInt .i64) l0_1 v0_1) {l0_2 : List (List ITerm)} {v0_2 : PV} (hv0_2 : Sl (cSl cITerm) l0_2 v0_2) {l1_0 : List ITerm} {v1_0 : PV} (hv1_0 : Sl cITerm l1_0 v1_0) {l1_1 : List Int} {v1_1 : PV} (hv1_1 : Sl (cInt .i64) l1_1 v1_1) {l1_2 : List (List ITerm)} {v1_2 : PV} (hv1_2 : Sl (cSl cITerm) l1_2 v1_2) {r : Bool} (H : laws_eqRule.f k l0_0 l0_1 l0_2 l1_0 l1_1 l1_2 = some r) : Ret Tryd.prog 38 [.agg [v0_0, v0_1, v0_2], .agg [v1_0, v1_1, v1_2]] fun v S => v = .lit (.bool r) := by
 unfold laws_eqRule.f at H
 refine Ret.intro Tryd.func38 rfl (Nat.le_of_ble_eq_true rfl) rfl ?_
 rw [tm2]
 refine Evr.sr rfl (Opl.box (cs := [v0_0, v0_1, v0_2]) rfl rfl rfl rfl ?_)
 rintro i1 S h1 u1 w1
 refine Opl.box (cs := [v1_0, v1_1, v1_2]) rfl rfl rfl rfl ?_
 rintro i2 S h2 u2 w2
 have ap1 := w2.box h1
 have h3 := u2.box h1 ap1
 refine Opl.p1 (n := Opl.nil (Evr.seq (Evr.sr rfl (Opl.p1 (v := .ptr i1 0) (n := Opl.ldb (v := v0_0) h3 rfl T56 rfl rfl rfl rfl (Opl.p1 (v := .ptr i2 0) (n := Opl.ldb (v := v1_0) h2 rfl T56 rfl rfl rfl rfl ?_)))))))
 obtain ⟨t365, h_t365, H⟩ := Option.bind_eq_some_iff.1 H
 refine Opl.callc (laws_eqTermS.ev hv0_0 hv1_0 h_t365) rfl rfl rfl rfl ⟨hv0_0.plain, hv1_0.plain, trivial⟩ (by decide) (Opl.p1 (n := Opl.nil ?_))
 by_cases c1 : t365 = true
 case neg =>
  rw [if_neg c1] at H
  have e6 : (!t365) = true := by simpa using c1
  try rw [e6]
  refine Evr.condT rfl (Evr.sr rfl (Opl.p1 (n := Opl.nil ?_)))
  obtain rfl := Option.some.inj H
  refine Evr.ret1 Tryd.func38 rfl ?_
  show (.lit (.bool false) : PV) = _
  first | rfl | (simp only [go_sem]; rfl)
 rw [if_pos c1] at H
 have e1 : (!t365) = false := by simpa using c1
 try rw [e1]
 refine Evr.condF rfl (Evr.skip (Evr.seq (Evr.sr rfl (Opl.p1 (v := .ptr i1 1) (n := Opl.ldb (v := v0_1) h3 rfl T37 rfl rfl rfl rfl (Opl.p1 (v := .ptr i2 1) (n := Opl.ldb (v := v1_1) h2 rfl T37 rfl rfl rfl rfl ?_)))))))
 obtain ⟨t366, h_t366, H⟩ := Option.bind_eq_some_iff.1 H
 refine Opl.callc (laws_eqIntS.ev hv0_1 hv1_1 h_t366) rfl rfl rfl rfl ⟨hv0_1.plain, hv1_1.plain, trivial⟩ (by decide) (Opl.p1 (n := Opl.nil ?_))
 by_cases c2 : t366 = true
 case neg =>
  rw [if_neg c2] at H
  have e5 : (!t366) = true := by simpa using c2
  try rw [e5]
  refine Evr.condT rfl (Evr.sr rfl (Opl.p1 (n := Opl.nil ?_)))
  obtain rfl := Option.some.inj H
  refine Evr.ret1 Tryd.func38 rfl ?_
  show (.lit (.bool false) : PV) = _
  first | rfl | (simp only [go_sem]; rfl)
 rw [if_pos c2] at H
 have e2 : (!t366) = false := by simpa using c2
 try rw [e2]
 refine Evr.condF rfl (Evr.skip (Evr.seq (Evr.sr rfl (Opl.p1 (v := .ptr i1 2) (n := Opl.ldb (v := v0_2) h3 rfl T57 rfl rfl rfl rfl (Opl.p1 (v := .ptr i2 2) (n := Opl.ldb (v := v1_2) h2 rfl T57 rfl rfl rfl rfl ?_)))))))
 obtain ⟨t367, h_t367, H⟩ := Option.bind_eq_some_iff.1 H
 refine Opl.callc (laws_eqTermSS.ev hv0_2 hv1_2 h_t367) rfl rfl rfl rfl ⟨hv0_2.plain, hv1_2.plain, trivial⟩ (by decide) (Opl.p1 (n := Opl.nil ?_))
 by_cases c3 : t367 = true
 case neg =>
  rw [if_neg c3] at H
  have e4 : (!t367) = true := by simpa using c3
  try rw [e4]
  refine Evr.condT rfl (Evr.sr rfl (Opl.p1 (n := Opl.nil ?_)))
  obtain rfl := Option.some.inj H
  refine Evr.ret1 Tryd.func38 rfl ?_
  show (.lit (.bool false) : PV) = _
  first | rfl | (simp only [go_sem]; rfl)
 rw [if_pos c3] at H
 have e3 : (!t367) = false := by simpa using c3
 try rw [e3]
 refine Evr.condF rfl (Evr.skip (Evr.sr rfl (Opl.p1 (n := Opl.nil ?_))))
 obtain rfl := Option.some.inj H
 refine Evr.ret1 Tryd.func38 rfl ?_
 show (.lit (.bool true) : PV) = _
 first | rfl | (simp only [go_sem]; rfl)
theorem laws_eqRuleS.ev {k : Nat} {l0 : List IRule} {v0 : PV} (hv0 : Sl cIRule l0 v0) {l1 : List IRule} {v1 : PV} (hv1 : Sl cIRule l1 v1) {r : Bool} (H : laws_eqRuleS.f k l0 l1 = some r) : Ret Tryd.prog 20 [v0, v1] fun v S => v = .lit (.bool r) := by
 unfold laws_eqRuleS.f at H
 refine Ret.intro Tryd.func20 rfl (Nat.le_of_ble_eq_true rfl) rfl ?_
 rw [tm2]
 refine Evr.sr rfl (Opl.p1 (n := Opl.nil (Evr.seq (Evr.sr rfl (Opl.p1 (n := Opl.len (xs := l0) (by exact hv0) K29 rfl rfl rfl rfl (Opl.p1 (n := Opl.len (xs := l1) (by exact hv1) K29 rfl rfl rfl rfl (Opl.p1 (n := Opl.nil ?_))))))))))
 by_cases c1 : (l0.length : Int) = (l1.length : Int)
 case neg =>
  rw [if_neg c1] at H
  have e6 : ((l0.length : Int) != (l1.length : Int)) = true := by simpa using c1
  try rw [e6]
  refine Evr.condT rfl (Evr.sr rfl (Opl.p1 (n := Opl.nil ?_)))
  obtain rfl := Option.some.inj H
  refine Evr.ret1 Tryd.func20 rfl ?_
  show (.lit (.bool false) : PV) = _
  first | rfl | (simp only [go_sem]; rfl)
 rw [if_pos c1] at H
 have e1 : ((l0.length : Int) != (l1.length : Int)) = false := by simpa using c1
 try rw [e1]
 refine Evr.condF rfl (Evr.skip (Evr.seq (Evr.sr rfl (Opl.p1 (n := Opl.nil (Evr.block ?_))))))
 refine Evr.loop (Evr.rounds (n := k) (Inv := fun n tm S => n ≤ k ∧ ∃ (x5_1 : Int), laws_eqRuleS.l0 n l0 l1 x5_1 = some r ∧ Has tm [(0, v0), (1, v1), (5, .lit (.int .i64 x5_1))]) ?_ ?_ ?_)
 · exact ⟨Nat.le_refl _, _, H, ⟨rfl, rfl, rfl, trivial⟩⟩
 ·
  rintro tm S ⟨_, _, H, -⟩
  simp [laws_eqRuleS.l0] at H
 ·
  rintro n1 ih1 tm S ⟨hle, x5_1, H, hh⟩
  simp only [laws_eqRuleS.l0] at H
  rw [hh.eq]
  refine Evr.seq (Evr.sr rfl (Opl.p1 (n := Opl.p1 (n := Opl.len (xs := l0) (by exact hv0) K29 rfl rfl rfl rfl (Opl.p1 (n := Opl.nil ?_))))))
  by_cases c2 : x5_1 < (l0.length : Int)
  case neg =>
   rw [if_neg c2] at H
   have e5 : (decide (x5_1 < (l0.length : Int))) = false := by simpa using c2
   try rw [e5]
   refine Evr.condF rfl (Evr.exit rfl (Evr.sr rfl (Opl.p1 (n := Opl.nil ?_))))
   obtain rfl := Option.some.inj H
   refine Evr.ret1 Tryd.func20 rfl ?_
   show (.lit (.bool true) : PV) = _
   first | rfl | (simp only [go_sem]; rfl)
  rw [if_pos c2] at H
  have e2 : (decide (x5_1 < (l0.length : Int))) = true := by simpa using c2
  try rw [e2]
  refine Evr.condT rfl (Evr.skip (Evr.seq (Evr.block (Evr.seq (Evr.regionD rfl (by kernel_rfl) (Opl.p1 (n := Opl.p1 (n := ?_))))))))
  obtain ⟨c3, H⟩ := peel H
  obtain ⟨c4, H⟩ := peel H
  refine Opl.idx (M := cIRule) (xs := l0) (j := x5_1) zIRule (by exact hv0) rfl (by omega) (by omega) K29 Z59 rfl rfl ?_
  rintro p1 q1 h1
  obtain ⟨pv1, pv2, pv3, rfl, h2, h3, h4⟩ := cIRule_R (x := (rd_IRule l0 x5_1)) h1
  refine Opl.lda (.agg [pv1, pv2, pv3]) rfl T59 rfl rfl rfl rfl (Opl.p1 (n := Opl.p1 (n := Opl.idx (M := cIRule) (xs := l1) (j := x5_1) zIRule (by exact hv1) rfl (by omega) (by omega) K29 Z59 rfl rfl ?_)))
  rintro p2 q2 h5
  obtain ⟨pv4, pv5, pv6, rfl, h6, h7, h8⟩ := cIRule_R (x := (rd_IRule l1 x5_1)) h5
  refine Opl.lda (.agg [pv4, pv5, pv6]) rfl T59 rfl rfl rfl rfl ?_
  obtain ⟨t370, h_t370, H⟩ := Option.bind_eq_some_iff.1 H
  refine Opl.callc (laws_eqRule.ev h2 h3 h4 h6 h7 h8 h_t370) rfl rfl rfl rfl ⟨(.aggL ⟨h2.plain, h3.plain, h4.plain, trivial⟩), (.aggL ⟨h6.plain, h7.plain, h8.plain, trivial⟩), trivial⟩ (by decide) (Opl.p1 (n := Opl.nil ?_))
  by_cases c5 : t370 = true
  case pos =>
   rw [if_pos c5] at H
   have e3 : (!t370) = false := by simpa using c5
   try rw [e3]
   refine Evr.condF rfl (Evr.skip (Evr.inBlock (Evr.regionN rfl (Opl.p1 (n := Opl.p1 (n := Opl.p1 (n := Opl.nil ?_)))))))
   exact ih1 _ (by omega) _ _ ⟨by omega, _, H, ⟨rfl, rfl, rfl, trivial⟩⟩
  rw [if_neg c5] at H
  have e4 : (!t370) = true := by simpa using c5
  try rw [e4]
  refine Evr.condT rfl (Evr.sr rfl (Opl.p1 (n := Opl.nil ?_)))
  obtain rfl := Option.some.inj H
  refine Evr.ret1 Tryd.func20 rfl ?_
  show (.lit (.bool false) : PV) = _
  first | rfl | (simp only [go_sem]; rfl)
theorem laws_eqVar.ev {a0_0 : Int} {a0_1 : Int} {a0_2 : Int} {a1_0 : Int} {a1_1 : Int} {a1_2 : Int} {r : Bool} (H : laws_eqVar.f a0_0 a0_1 a0_2 a1_0 a1_1 a1_2 = some r) : Ret Tryd.prog 37 [.agg [.lit (.int .i64 a0_0), .lit (.int .i64 a0_1), .lit (.int .i64 a0_2)], .agg [.lit (.int .i64 a1_0), .lit (.int .i64 a1_1), .lit (.int .i64 a1_2)]] fun v S => v = .lit (.bool r) := by
 unfold laws_eqVar.f at H
 refine Ret.intro Tryd.func37 rfl (Nat.le_of_ble_eq_true rfl) rfl ?_
 rw [tm2]
 refine Evr.sr rfl (Opl.box (cs := [.lit (.int .i64 a0_0), .lit (.int .i64 a0_1), .lit (.int .i64 a0_2)]) rfl rfl rfl rfl ?_)
 rintro i1 S h1 u1 w1
 refine Opl.box (cs := [.lit (.int .i64 a1_0), .lit (.int .i64 a1_1), .lit (.int .i64 a1_2)]) rfl rfl rfl rfl ?_
 rintro i2 S h2 u2 w2
 have ap1 := w2.box h1
 have h3 := u2.box h1 ap1
 refine Opl.p1 (n := Opl.nil (Evr.seq (Evr.sr rfl (Opl.p1 (v := .ptr i1 0) (n := Opl.ldb (v := .lit (.int .i64 a0_0)) h3 rfl T3 rfl rfl rfl rfl (Opl.p1 (v := .ptr i2 0) (n := Opl.ldb (v := .lit (.int .i64 a1_0)) h2 rfl T3 rfl rfl rfl rfl (Opl.p1 (n := Opl.nil ?_)))))))))
 by_cases c1 : a0_0 = a1_0
 case neg =>
  rw [if_neg c1] at H
  have e6 : (a0_0 != a1_0) = true := by simpa using c1
  try rw [e6]
  refine Evr.condT rfl (Evr.sr rfl (Opl.p1 (n := Opl.nil ?_)))
  obtain rfl := Option.some.inj H
  refine Evr.ret1 Tryd.func37 rfl ?_
  show (.lit (.bool false) : PV) = _
  first | rfl | (simp only [go_sem]; rfl)
 rw [if_pos c1] at H
 have e1 : (a0_0 != a1_0) = false := by simpa using c1
 try rw [e1]
 refine Evr.condF rfl (Evr.skip (Evr.seq (Evr.sr rfl (Opl.p1 (v := .ptr i1 1) (n := Opl.ldb (v := .lit (.int .i64 a0_1)) h3 rfl T3 rfl rfl rfl rfl (Opl.p1 (v := .ptr i2 1) (n := Opl.ldb (v := .lit (.int .i64 a1_1)) h2 rfl T3 rfl rfl rfl rfl (Opl.p1 (n := Opl.nil ?_)))))))))
 by_cases c2 : a0_1 = a1_1
 case neg =>
  rw [if_neg c2] at H
  have e5 : (a0_1 != a1_1) = true := by simpa using c2
  try rw [e5]
  refine Evr.condT rfl (Evr.sr rfl (Opl.p1 (n := Opl.nil ?_)))
  obtain rfl := Option.some.inj H
  refine Evr.ret1 Tryd.func37 rfl ?_
  show (.lit (.bool false) : PV) = _
  first | rfl | (simp only [go_sem]; rfl)
 rw [if_pos c2] at H
 have e2 : (a0_1 != a1_1) = false := by simpa using c2
 try rw [e2]
 refine Evr.condF rfl (Evr.skip (Evr.seq (Evr.sr rfl (Opl.p1 (v := .ptr i1 2) (n := Opl.ldb (v := .lit (.int .i64 a0_2)) h3 rfl T3 rfl rfl rfl rfl (Opl.p1 (v := .ptr i2 2) (n := Opl.ldb (v := .lit (.int .i64 a1_2)) h2 rfl T3 rfl rfl rfl rfl (Opl.p1 (n := Opl.nil ?_)))))))))
 by_cases c3 : a0_2 = a1_2
 case neg =>
  rw [if_neg c3] at H
  have e4 : (a0_2 != a1_2) = true := by simpa using c3
  try rw [e4]
  refine Evr.condT rfl (Evr.sr rfl (Opl.p1 (n := Opl.nil ?_)))
  obtain rfl := Option.some.inj H
  refine Evr.ret1 Tryd.func37 rfl ?_
  show (.lit (.bool false) : PV) = _
  first | rfl | (simp only [go_sem]; rfl)
 rw [if_pos c3] at H
 have e3 : (a0_2 != a1_2) = false := by simpa using c3
 try rw [e3]
 refine Evr.condF rfl (Evr.skip (Evr.sr rfl (Opl.p1 (n := Opl.nil ?_))))
 obtain rfl := Option.some.inj H
 refine Evr.ret1 Tryd.func37 rfl ?_
 show (.lit (.bool true) : PV) = _
 first | rfl | (simp only [go_sem]; rfl)
theorem laws_eqVarS.ev {k : Nat} {l0 : List IVar} {v0 : PV} (hv0 : Sl cIVar l0 v0) {l1 : List IVar} {v1 : PV} (hv1 : Sl cIVar l1 v1) {r : Bool} (H : laws_eqVarS.f k l0 l1 = some r) : Ret Tryd.prog 19 [v0, v1] fun v S => v = .lit (.bool r) := by
 unfold laws_eqVarS.f at H
 refine Ret.intro Tryd.func19 rfl (Nat.le_of_ble_eq_true rfl) rfl ?_
 rw [tm2]
 refine Evr.sr rfl (Opl.p1 (n := Opl.nil (Evr.seq (Evr.sr rfl (Opl.p1 (n := Opl.len (xs := l0) (by exact hv0) K28 rfl rfl rfl rfl (Opl.p1 (n := Opl.len (xs := l1) (by exact hv1) K28 rfl rfl rfl rfl (Opl.p1 (n := Opl.nil ?_))))))))))
 by_cases c1 : (l0.length : Int) = (l1.length : Int)
 case neg =>
  rw [if_neg c1] at H
  have e6 : ((l0.length : Int) != (l1.length : Int)) = true := by simpa using c1
  try rw [e6]
  refine Evr.condT rfl (Evr.sr rfl (Opl.p1 (n := Opl.nil ?_)))
  obtain rfl := Option.some.inj H
  refine Evr.ret1 Tryd.func19 rfl ?_
  show (.lit (.bool false) : PV) = _
  first | rfl | (simp only [go_sem]; rfl)
 rw [if_pos c1] at H
 have e1 : ((l0.length : Int) != (l1.length : Int)) = false := by simpa using c1
 try rw [e1]
 refine Evr.condF rfl (Evr.skip (Evr.seq (Evr.sr rfl (Opl.p1 (n := Opl.nil (Evr.block ?_))))))
 refine Evr.loop (Evr.rounds (n := k) (Inv := fun n tm S => n ≤ k ∧ ∃ (x5_1 : Int), laws_eqVarS.l0 n l0 l1 x5_1 = some r ∧ Has tm [(0, v0), (1, v1), (5, .lit (.int .i64 x5_1))]) ?_ ?_ ?_)
 · exact ⟨Nat.le_refl _, _, H, ⟨rfl, rfl, rfl, trivial⟩⟩
 ·
  rintro tm S ⟨_, _, H, -⟩
  simp [laws_eqVarS.l0] at H
 ·
  rintro n1 ih1 tm S ⟨hle, x5_1, H, hh⟩
  simp only [laws_eqVarS.l0] at H
  rw [hh.eq]
  refine Evr.seq (Evr.sr rfl (Opl.p1 (n := Opl.p1 (n := Opl.len (xs := l0) (by exact hv0) K28 rfl rfl rfl rfl (Opl.p1 (n := Opl.nil ?_))))))
  by_cases c2 : x5_1 < (l0.length : Int)
  case neg =>
   rw [if_neg c2] at H
   have e5 : (decide (x5_1 < (l0.length : Int))) = false := by simpa using c2
   try rw [e5]
   refine Evr.condF rfl (Evr.exit rfl (Evr.sr rfl (Opl.p1 (n := Opl.nil ?_))))
   obtain rfl := Option.some.inj H
   refine Evr.ret1 Tryd.func19 rfl ?_
   show (.lit (.bool true) : PV) = _
   first | rfl | (simp only [go_sem]; rfl)
  rw [if_pos c2] at H
  have e2 : (decide (x5_1 < (l0.length : Int))) = true := by simpa using c2
  try rw [e2]
  refine Evr.condT rfl (Evr.skip (Evr.seq (Evr.block (Evr.seq (Evr.regionD rfl (by kernel_rfl) (Opl.p1 (n := Opl.p1 (n := ?_))))))))
  obtain ⟨c3, H⟩ := peel H
  obtain ⟨c4, H⟩ := peel H
  refine Opl.idx (M := cIVar) (xs := l0) (j := x5_1) zIVar (by exact hv0) rfl (by omega) (by omega) K28 Z53 rfl rfl ?_
  rintro p1 q1 h1
  obtain rfl := cIVar_R (x := (rd_IVar l0 x5_1)) h1
  refine Opl.lda (.agg [.lit (.int .i64 ((rd_IVar l0 x5_1).f0)), .lit (.int .i64 ((rd_IVar l0 x5_1).f1)), .lit (.int .i64 ((rd_IVar l0 x5_1).f2))]) rfl T53 rfl rfl rfl rfl (Opl.p1 (n := Opl.p1 (n := Opl.idx (M := cIVar) (xs := l1) (j := x5_1) zIVar (by exact hv1) rfl (by omega) (by omega) K28 Z53 rfl rfl ?_)))
  rintro p2 q2 h2
  obtain rfl := cIVar_R (x := (rd_IVar l1 x5_1)) h2
  refine Opl.lda (.agg [.lit (.int .i64 ((rd_IVar l1 x5_1).f0)), .lit (.int .i64 ((rd_IVar l1 x5_1).f1)), .lit (.int .i64 ((rd_IVar l1 x5_1).f2))]) rfl T53 rfl rfl rfl rfl ?_
  obtain ⟨t352, h_t352, H⟩ := Option.bind_eq_some_iff.1 H
  refine Opl.callc (laws_eqVar.ev h_t352) rfl rfl rfl rfl ⟨(.aggL ⟨(.lit _), (.lit _), (.lit _), trivial⟩), (.aggL ⟨(.lit _), (.lit _), (.lit _), trivial⟩), trivial⟩ (by decide) (Opl.p1 (n := Opl.nil ?_))
  by_cases c5 : t352 = true
  case pos =>
   rw [if_pos c5] at H
   have e3 : (!t352) = false := by simpa using c5
   try rw [e3]
   refine Evr.condF rfl (Evr.skip (Evr.inBlock (Evr.regionN rfl (Opl.p1 (n := Opl.p1 (n := Opl.p1 (n := Opl.nil ?_)))))))
   exact ih1 _ (by omega) _ _ ⟨by omega, _, H, ⟨rfl, rfl, rfl, trivial⟩⟩
  rw [if_neg c5] at H
  have e4 : (!t352) = true := by simpa using c5
  try rw [e4]
  refine Evr.condT rfl (Evr.sr rfl (Opl.p1 (n := Opl.nil ?_)))
  obtain rfl := Option.some.inj H
  refine Evr.ret1 Tryd.func19 rfl ?_
  show (.lit (.bool false) : PV) = _
  first | rfl | (simp only [go_sem]; rfl)
theorem laws_eqSystem.ev {k : Nat} {l0_0 : List IVar} {v0_0 : PV} (hv0_0 : Sl cIVar l0_0 v0_0) {l0_1 : List IRule} {v0_1 : PV} (hv0_1 : Sl cIRule l0_1 v0_1) {l1_0 : List IVar} {v1_0 : PV} (hv1_0 : Sl cIVar l1_0 v1_0) {l1_1 : List IRule} {v1_1 : PV} (hv1_1 : Sl cIRule l1_1 v1_1) {r : Bool} (H : laws_eqSystem.f k l0_0 l0_1 l1_0 l1_1 = some r) : Ret Tryd.prog 8 [.agg [v0_0, v0_1], .agg [v1_0, v1_1]] fun v S => v = .lit (.bool r) := by
 unfold laws_eqSystem.f at H
 refine Ret.intro Tryd.func8 rfl (Nat.le_of_ble_eq_true rfl) rfl ?_
 rw [tm2]
 refine Evr.sr rfl (Opl.box (cs := [v0_0, v0_1]) rfl rfl rfl rfl ?_)
 rintro i1 S h1 u1 w1
 refine Opl.box (cs := [v1_0, v1_1]) rfl rfl rfl rfl ?_
 rintro i2 S h2 u2 w2
 have ap1 := w2.box h1
 have h3 := u2.box h1 ap1
 refine Opl.p1 (n := Opl.nil (Evr.seq (Evr.sr rfl (Opl.p1 (v := .ptr i1 0) (n := Opl.ldb (v := v0_0) h3 rfl T28 rfl rfl rfl rfl (Opl.p1 (v := .ptr i2 0) (n := Opl.ldb (v := v1_0) h2 rfl T28 rfl rfl rfl rfl ?_)))))))
 obtain ⟨t373, h_t373, H⟩ := Option.bind_eq_some_iff.1 H
 refine Opl.callc (laws_eqVarS.ev hv0_0 hv1_0 h_t373) rfl rfl rfl rfl ⟨hv0_0.plain, hv1_0.plain, trivial⟩ (by decide) (Opl.p1 (n := Opl.nil ?_))
 by_cases c1 : t373 = true
 case neg =>
  rw [if_neg c1] at H
  have e4 : (!t373) = true := by simpa using c1
  try rw [e4]
  refine Evr.condT rfl (Evr.sr rfl (Opl.p1 (n := Opl.nil ?_)))
  obtain rfl := Option.some.inj H
  refine Evr.ret1 Tryd.func8 rfl ?_
  show (.lit (.bool false) : PV) = _
  first | rfl | (simp only [go_sem]; rfl)
 rw [if_pos c1] at H
 have e1 : (!t373) = false := by simpa using c1
 try rw [e1]
 refine Evr.condF rfl (Evr.skip (Evr.seq (Evr.sr rfl (Opl.p1 (v := .ptr i1 1) (n := Opl.ldb (v := v0_1) h3 rfl T29 rfl rfl rfl rfl (Opl.p1 (v := .ptr i2 1) (n := Opl.ldb (v := v1_1) h2 rfl T29 rfl rfl rfl rfl ?_)))))))
 obtain ⟨t374, h_t374, H⟩ := Option.bind_eq_some_iff.1 H
 refine Opl.callc (laws_eqRuleS.ev hv0_1 hv1_1 h_t374) rfl rfl rfl rfl ⟨hv0_1.plain, hv1_1.plain, trivial⟩ (by decide) (Opl.p1 (n := Opl.nil ?_))
 by_cases c2 : t374 = true
 case neg =>
  rw [if_neg c2] at H
  have e3 : (!t374) = true := by simpa using c2
  try rw [e3]
  refine Evr.condT rfl (Evr.sr rfl (Opl.p1 (n := Opl.nil ?_)))
  obtain rfl := Option.some.inj H
  refine Evr.ret1 Tryd.func8 rfl ?_
  show (.lit (.bool false) : PV) = _
  first | rfl | (simp only [go_sem]; rfl)
 rw [if_pos c2] at H
 have e2 : (!t374) = false := by simpa using c2
 try rw [e2]
 refine Evr.condF rfl (Evr.skip (Evr.sr rfl (Opl.p1 (n := Opl.nil ?_))))
 obtain rfl := Option.some.inj H
 refine Evr.ret1 Tryd.func8 rfl ?_
 show (.lit (.bool true) : PV) = _
 first | rfl | (simp only [go_sem]; rfl)
theorem laws_szIntS.ev {l0 : List Int} {v0 : PV} (hv0 : Sl (cInt .i64) l0 v0) {a1 : Int} {r : Int} (H : laws_szIntS.f l0 a1 = some r) : Ret Tryd.prog 40 [v0, .lit (.int .i64 a1)] fun v S => v = .lit (.int .i64 r) := by
 unfold laws_szIntS.f at H
 refine Ret.intro Tryd.func40 rfl (Nat.le_of_ble_eq_true rfl) rfl ?_
 rw [tm2]
 refine Evr.sr rfl (Opl.p1 (n := Opl.nil (Evr.sr rfl (Opl.p1 (n := Opl.p1 (n := Opl.len (xs := l0) (by exact hv0) K37 rfl rfl rfl rfl (Opl.p1 (n := Opl.p1 (n := Opl.nil (Evr.seq (Evr.sr rfl (Opl.p1 (n := Opl.lss (a := (wrap64 (a1 - (l0.length : Int)))) (b := 0) K3 rfl rfl rfl rfl (Opl.nil ?_))))))))))))))
 by_cases c1 : (wrap64 (a1 - (l0.length : Int))) < 0
 case pos =>
  rw [if_pos c1] at H
  have e1 : (decide ((wrap64 (a1 - (l0.length : Int))) < 0)) = true := by simpa using c1
  try rw [e1]
  refine Evr.condT rfl (Evr.sr rfl (Opl.p1 (n := Opl.nil ?_)))
  obtain rfl := Option.some.inj H
  refine Evr.ret1 Tryd.func40 rfl ?_
  show (.lit (.int .i64 (-1)) : PV) = _
  first | rfl | (simp only [go_sem]; rfl)
 rw [if_neg c1] at H
 have e2 : (decide ((wrap64 (a1 - (l0.length : Int))) < 0)) = false := by simpa using c1
 try rw [e2]
 refine Evr.condF rfl (Evr.skip (Evr.sr rfl (Opl.p1 (n := Opl.p1 (n := Opl.nil ?_)))))
 obtain rfl := Option.some.inj H
 refine Evr.ret1 Tryd.func40 rfl ?_
 show (.lit (.int .i64 (wrap64 (a1 - (l0.length : Int)))) : PV) = _
 first | rfl | (simp only [go_sem]; rfl)
theorem laws_szTermS.ev {l0 : List LTerm} {v0 : PV} (hv0 : Sl cLTerm l0 v0) {a1 : Int} {r : Int} (H : laws_szTermS.f l0 a1 = some r) : Ret Tryd.prog 39 [v0, .lit (.int .i64 a1)] fun v S => v = .lit (.int .i64 r) := by
 unfold laws_szTermS.f at H
 refine Ret.intro Tryd.func39 rfl (Nat.le_of_ble_eq_true rfl) rfl ?_
 rw [tm2]
 refine Evr.sr rfl (Opl.p1 (n := Opl.nil (Evr.sr rfl (Opl.p1 (n := Opl.p1 (n := Opl.len (xs := l0) (by exact hv0) K47 rfl rfl rfl rfl (Opl.p1 (n := Opl.p1 (n := Opl.nil (Evr.seq (Evr.sr rfl (Opl.p1 (n := Opl.lss (a := (wrap64 (a1 - (l0.length : Int)))) (b := 0) K3 rfl rfl rfl rfl (Opl.nil ?_))))))))))))))
 by_cases c1 : (wrap64 (a1 - (l0.length : Int))) < 0
 case pos =>
  rw [if_pos c1] at H
  have e1 : (decide ((wrap64 (a1 - (l0.length : Int))) < 0)) = true := by simpa using c1
  try rw [e1]
  refine Evr.condT rfl (Evr.sr rfl (Opl.p1 (n := Opl.nil ?_)))
  obtain rfl := Option.some.inj H
  refine Evr.ret1 Tryd.func39 rfl ?_
  show (.lit (.int .i64 (-1)) : PV) = _
  first | rfl | (simp only [go_sem]; rfl)
 rw [if_neg c1] at H
 have e2 : (decide ((wrap64 (a1 - (l0.length : Int))) < 0)) = false := by simpa using c1
 try rw [e2]
 refine Evr.condF rfl (Evr.skip (Evr.sr rfl (Opl.p1 (n := Opl.p1 (n := Opl.nil ?_)))))
 obtain rfl := Option.some.inj H
 refine Evr.ret1 Tryd.func39 rfl ?_
 show (.lit (.int .i64 (wrap64 (a1 - (l0.length : Int)))) : PV) = _
 first | rfl | (simp only [go_sem]; rfl)
theorem laws_szTermSS.ev {k : Nat} {l0 : List (List LTerm)} {v0 : PV} (hv0 : Sl (cSl cLTerm) l0 v0) {a1 : Int} {r : Int} (H : laws_szTermSS.f k l0 a1 = some r) : Ret Tryd.prog 41 [v0, .lit (.int .i64 a1)] fun v S => v = .lit (.int .i64 r) := by
 unfold laws_szTermSS.f at H
 refine Ret.intro Tryd.func41 rfl (Nat.le_of_ble_eq_true rfl) rfl ?_
 rw [tm2]
 refine Evr.sr rfl (Opl.p1 (n := Opl.nil (Evr.sr rfl (Opl.p1 (n := Opl.p1 (n := Opl.len (xs := l0) (by exact hv0) K48 rfl rfl rfl rfl (Opl.p1 (n := Opl.p1 (n := Opl.nil (Evr.seq (Evr.sr rfl (Opl.p1 (n := Opl.lss (a := (wrap64 (a1 - (l0.length : Int)))) (b := 0) K3 rfl rfl rfl rfl (Opl.nil ?_))))))))))))))
 by_cases c1 : (wrap64 (a1 - (l0.length : Int))) < 0
 case pos =>
  rw [if_pos c1] at H
  have e1 : (decide ((wrap64 (a1 - (l0.length : Int))) < 0)) = true := by simpa using c1
  try rw [e1]
  refine Evr.condT rfl (Evr.sr rfl (Opl.p1 (n := Opl.nil ?_)))
  obtain rfl := Option.some.inj H
  refine Evr.ret1 Tryd.func41 rfl ?_
  show (.lit (.int .i64 (-1)) : PV) = _
  first | rfl | (simp only [go_sem]; rfl)
 rw [if_neg c1] at H
 have e2 : (decide ((wrap64 (a1 - (l0.length : Int))) < 0)) = false := by simpa using c1
 try rw [e2]
 refine Evr.condF rfl (Evr.skip (Evr.seq (Evr.sr rfl (Opl.p1 (n := Opl.nil (Evr.block ?_))))))
 refine Evr.loop (Evr.rounds (n := k) (Inv := fun n tm S => n ≤ k ∧ ∃ (x1_1 : Int) (x5_1 : Int), laws_szTermSS.l0 n l0 x1_1 x5_1 = some r ∧ Has tm [(0, v0), (1, .lit (.int .i64 x1_1)), (5, .lit (.int .i64 x5_1))]) ?_ ?_ ?_)
 · exact ⟨Nat.le_refl _, _, _, H, ⟨rfl, rfl, rfl, trivial⟩⟩
 ·
  rintro tm S ⟨_, _, _, H, -⟩
  simp [laws_szTermSS.l0] at H
 ·
  rintro n1 ih1 tm S ⟨hle, x1_1, x5_1, H, hh⟩
  simp only [laws_szTermSS.l0] at H
  rw [hh.eq]
  refine Evr.seq (Evr.sr rfl (Opl.p1 (n := Opl.p1 (n := Opl.len (xs := l0) (by exact hv0) K48 rfl rfl rfl rfl (Opl.p1 (n := Opl.nil ?_))))))
  by_cases c2 : x5_1 < (l0.length : Int)
  case neg =>
   rw [if_neg c2] at H
   have e6 : (decide (x5_1 < (l0.length : Int))) = false := by simpa using c2
   try rw [e6]
   refine Evr.condF rfl (Evr.exit rfl (Evr.sr rfl (Opl.p1 (n := Opl.p1 (n := Opl.nil ?_)))))
   obtain rfl := Option.some.inj H
   refine Evr.ret1 Tryd.func41 rfl ?_
   show (.lit (.int .i64 x1_1) : PV) = _
   first | rfl | (simp only [go_sem]; rfl)
  rw [if_pos c2] at H
  have e3 : (decide (x5_1 < (l0.length : Int))) = true := by simpa using c2
  try rw [e3]
  refine Evr.condT rfl (Evr.skip (Evr.seq (Evr.block (Evr.sr rfl (Opl.p1 (n := Opl.p1 (n := ?_)))))))
  obtain ⟨c3, H⟩ := peel H
  refine Opl.idx (M := (cSl cLTerm)) (xs := l0) (j := x5_1) ([] : List LTerm) (by exact hv0) rfl (by omega) (by omega) K48 Z47 rfl rfl ?_
  rintro p1 q1 h1
  obtain ⟨pv1, rfl, h2⟩ := h1
  refine Opl.lda (pv1) rfl T47 rfl rfl rfl rfl (Opl.p1 (n := ?_))
  obtain ⟨t102, h_t102, H⟩ := Option.bind_eq_some_iff.1 H
  refine Opl.callc (laws_szTermS.ev h2 h_t102) rfl rfl rfl rfl ⟨h2.plain, (.lit _), trivial⟩ (by decide) (Opl.p1 (n := Opl.nil (Evr.sr rfl (Opl.p1 (n := Opl.p1 (n := Opl.nil ?_))))))
  by_cases c4 : t102 < 0
  case neg =>
   rw [if_neg c4] at H
   have e5 : (decide (t102 < 0)) = false := by simpa using c4
   try rw [e5]
   refine Evr.condF rfl (Evr.skip (Evr.inBlock (Evr.regionN rfl (Opl.p1 (n := Opl.p1 (n := Opl.p1 (n := Opl.nil ?_)))))))
   exact ih1 _ (by omega) _ _ ⟨by omega, _, _, H, ⟨rfl, rfl, rfl, trivial⟩⟩
  rw [if_pos c4] at H
  have e4 : (decide (t102 < 0)) = true := by simpa using c4
  try rw [e4]
  refine Evr.condT rfl (Evr.sr rfl (Opl.p1 (n := Opl.nil ?_)))
  obtain rfl := Option.some.inj H
  refine Evr.ret1 Tryd.func41 rfl ?_
  show (.lit (.int .i64 (-1)) : PV) = _
  first | rfl | (simp only [go_sem]; rfl)
theorem laws_szRule.ev {k : Nat} {l0_0 : List LTerm} {v0_0 : PV} (hv0_0 : Sl cLTerm l0_0 v0_0) {l0_1 : List Int} {v0_1 : PV} (hv0_1 : Sl (cInt .i64) l0_1 v0_1) {l0_2 : List (List LTerm)} {v0_2 : PV} (hv0_2 : Sl (cSl cLTerm) l0_2 v0_2) {a1 : Int} {r : Int} (H : laws_szRule.f k l0_0 l0_1 l0_2 a1 = some r) : Ret Tryd.prog 21 [.agg [v0_0, v0_1, v0_2], .lit (.int .i64 a1)] fun v S => v = .lit (.int .i64 r) := by
 unfold laws_szRule.f at H
 refine Ret.intro Tryd.func21 rfl (Nat.le_of_ble_eq_true rfl) rfl ?_
 rw [tm2]
 refine Evr.sr rfl (Opl.box (cs := [v0_0, v0_1, v0_2]) rfl rfl rfl rfl ?_)
 rintro i1 S h1 u1 w1
 refine Opl.p1 (n := Opl.nil (Evr.sr rfl (Opl.p1 (v := .ptr i1 0) (n := Opl.ldb (v := v0_0) h1 rfl T47 rfl rfl rfl rfl (Opl.p1 (n := ?_))))))
 obtain ⟨t104, h_t104, H⟩ := Option.bind_eq_some_iff.1 H
 refine Opl.callc (laws_szTermS.ev hv0_0 h_t104) rfl rfl rfl rfl ⟨hv0_0.plain, (.lit _), trivial⟩ (by decide) (Opl.p1 (n := Opl.nil (Evr.seq (Evr.sr rfl (Opl.p1 (n := Opl.p1 (n := Opl.nil ?_)))))))
 by_cases c1 : t104 < 0
 case pos =>
  rw [if_pos c1] at H
  have e1 : (decide (t104 < 0)) = true := by simpa using c1
  try rw [e1]
  refine Evr.condT rfl (Evr.sr rfl (Opl.p1 (n := Opl.nil ?_)))
  obtain rfl := Option.some.inj H
  refine Evr.ret1 Tryd.func21 rfl ?_
  show (.lit (.int .i64 (-1)) : PV) = _
  first | rfl | (simp only [go_sem]; rfl)
 rw [if_neg c1] at H
 have e2 : (decide (t104 < 0)) = false := by simpa using c1
 try rw [e2]
 refine Evr.condF rfl (Evr.skip (Evr.sr rfl (Opl.p1 (v := .ptr i1 1) (n := Opl.ldb (v := v0_1) h1 rfl T37 rfl rfl rfl rfl (Opl.p1 (n := ?_))))))
 obtain ⟨t105, h_t105, H⟩ := Option.bind_eq_some_iff.1 H
 refine Opl.callc (laws_szIntS.ev hv0_1 h_t105) rfl rfl rfl rfl ⟨hv0_1.plain, (.lit _), trivial⟩ (by decide) (Opl.p1 (n := Opl.nil (Evr.seq (Evr.sr rfl (Opl.p1 (n := Opl.p1 (n := Opl.nil ?_)))))))
 by_cases c2 : t105 < 0
 case pos =>
  rw [if_pos c2] at H
  have e3 : (decide (t105 < 0)) = true := by simpa using c2
  try rw [e3]
  refine Evr.condT rfl (Evr.sr rfl (Opl.p1 (n := Opl.nil ?_)))
  obtain rfl := Option.some.inj H
  refine Evr.ret1 Tryd.func21 rfl ?_
  show (.lit (.int .i64 (-1)) : PV) = _
  first | rfl | (simp only [go_sem]; rfl)
 rw [if_neg c2] at H
 have e4 : (decide (t105 < 0)) = false := by simpa using c2
 try rw [e4]
 refine Evr.condF rfl (Evr.skip (Evr.sr rfl (Opl.p1 (v := .ptr i1 2) (n := Opl.ldb (v := v0_2) h1 rfl T48 rfl rfl rfl rfl (Opl.p1 (n := ?_))))))
 obtain ⟨t106, h_t106, H⟩ := Option.bind_eq_some_iff.1 H
 refine Opl.callc (laws_szTermSS.ev hv0_2 h_t106) rfl rfl rfl rfl ⟨hv0_2.plain, (.lit _), trivial⟩ (by decide) (Opl.p1 (n := Opl.nil (Evr.seq (Evr.sr rfl (Opl.p1 (n := Opl.p1 (n := Opl.nil ?_)))))))
 by_cases c3 : t106 < 0
 case pos =>
  rw [if_pos c3] at H
  have e5 : (decide (t106 < 0)) = true := by simpa using c3
  try rw [e5]
  refine Evr.condT rfl (Evr.sr rfl (Opl.p1 (n := Opl.nil ?_)))
  obtain rfl := Option.some.inj H
  refine Evr.ret1 Tryd.func21 rfl ?_
  show (.lit (.int .i64 (-1)) : PV) = _
  first | rfl | (simp only [go_sem]; rfl)
 rw [if_neg c3] at H
 have e6 : (decide (t106 < 0)) = false := by simpa using c3
 try rw [e6]
 refine Evr.condF rfl (Evr.skip (Evr.sr rfl (Opl.p1 (n := Opl.p1 (n := Opl.nil ?_)))))
 obtain rfl := Option.some.inj H
 refine Evr.ret1 Tryd.func21 rfl ?_
 show (.lit (.int .i64 t106) : PV) = _
 first | rfl | (simp only [go_sem]; rfl)
theorem laws_szRuleS.ev {k : Nat} {l0 : List LRule} {v0 : PV} (hv0 : Sl cLRule l0 v0) {a1 : Int} {r : Int} (H : laws_szRuleS.f k l0 a1 = some r) : Ret Tryd.prog 10 [v0, .lit (.int .i64 a1)] fun v S => v = .lit (.int .i64 r) := by
 unfold laws_szRuleS.f at H
 refine Ret.intro Tryd.func10 rfl (Nat.le_of_ble_eq_true rfl) rfl ?_
 rw [tm2]
 refine Evr.sr rfl (Opl.p1 (n := Opl.nil (Evr.sr rfl (Opl.p1 (n := Opl.p1 (n := Opl.len (xs := l0) (by exact hv0) K23 rfl rfl rfl rfl (Opl.p1 (n := Opl.p1 (n := Opl.nil (Evr.seq (Evr.sr rfl (Opl.p1 (n := Opl.lss (a := (wrap64 (a1 - (l0.length : Int)))) (b := 0) K3 rfl rfl rfl rfl (Opl.nil ?_))))))))))))))
 by_cases c1 : (wrap64 (a1 - (l0.length : Int))) < 0
 case pos =>
  rw [if_pos c1] at H
  have e1 : (decide ((wrap64 (a1 - (l0.length : Int))) < 0)) = true := by simpa using c1
  try rw [e1]
  refine Evr.condT rfl (Evr.sr rfl (Opl.p1 (n := Opl.nil ?_)))
  obtain rfl := Option.some.inj H
  refine Evr.ret1 Tryd.func10 rfl ?_
  show (.lit (.int .i64 (-1)) : PV) = _
  first | rfl | (simp only [go_sem]; rfl)
 rw [if_neg c1] at H
 have e2 : (decide ((wrap64 (a1 - (l0.length : Int))) < 0)) = false := by simpa using c1
 try rw [e2]
 refine Evr.condF rfl (Evr.skip (Evr.seq (Evr.sr rfl (Opl.p1 (n := Opl.nil (Evr.block ?_))))))
 refine Evr.loop (Evr.rounds (n := k) (Inv := fun n tm S => n ≤ k ∧ ∃ (x1_1 : Int) (x5_1 : Int), laws_szRuleS.l0 n l0 x1_1 x5_1 = some r ∧ Has tm [(0, v0), (1, .lit (.int .i64 x1_1)), (5, .lit (.int .i64 x5_1))]) ?_ ?_ ?_)
 · exact ⟨Nat.le_refl _, _, _, H, ⟨rfl, rfl, rfl, trivial⟩⟩
 ·
  rintro tm S ⟨_, _, _, H, -⟩
  simp [laws_szRuleS.l0] at H
 ·
  rintro n1 ih1 tm S ⟨hle, x1_1, x5_1, H, hh⟩
  simp only [laws_szRuleS.l0] at H
  rw [hh.eq]
  refine Evr.seq (Evr.sr rfl (Opl.p1 (n := Opl.p1 (n := Opl.len (xs := l0) (by exact hv0) K23 rfl rfl rfl rfl (Opl.p1 (n := Opl.nil ?_))))))
  by_cases c2 : x5_1 < (l0.length : Int)
  case neg =>
   rw [if_neg c2] at H
   have e6 : (decide (x5_1 < (l0.length : Int))) = false := by simpa using c2
   try rw [e6]
   refine Evr.condF rfl (Evr.exit rfl (Evr.sr rfl (Opl.p1 (n := Opl.p1 (n := Opl.nil ?_)))))
   obtain rfl := Option.some.inj H
   refine Evr.ret1 Tryd.func10 rfl ?_
   show (.lit (.int .i64 x1_1) : PV) = _
   first | rfl | (simp only [go_sem]; rfl)
  rw [if_pos c2] at H
  have e3 : (decide (x5_1 < (l0.length : Int))) = true := by simpa using c2
  try rw [e3]
  refine Evr.condT rfl (Evr.skip (Evr.seq (Evr.block (Evr.sr rfl (Opl.p1 (n := Opl.p1 (n := ?_)))))))
  obtain ⟨c3, H⟩ := peel H
  refine Opl.idx (M := cLRule) (xs := l0) (j := x5_1) zLRule (by exact hv0) rfl (by omega) (by omega) K23 Z50 rfl rfl ?_
  rintro p1 q1 h1
  obtain ⟨pv1, pv2, pv3, rfl, h2, h3, h4⟩ := cLRule_R (x := (rd_LRule l0 x5_1)) h1
  refine Opl.lda (.agg [pv1, pv2, pv3]) rfl T50 rfl rfl rfl rfl (Opl.p1 (n := ?_))
  obtain ⟨t108, h_t108, H⟩ := Option.bind_eq_some_iff.1 H
  refine Opl.callc (laws_szRule.ev h2 h3 h4 h_t108) rfl rfl rfl rfl ⟨(.aggL ⟨h2.plain, h3.plain, h4.plain, trivial⟩), (.lit _), trivial⟩ (by decide) (Opl.p1 (n := Opl.nil (Evr.sr rfl (Opl.p1 (n := Opl.p1 (n := Opl.nil ?_))))))
  by_cases c4 : t108 < 0
  case neg =>
   rw [if_neg c4] at H
   have e5 : (decide (t108 < 0)) = false := by simpa using c4
   try rw [e5]
   refine Evr.condF rfl (Evr.skip (Evr.inBlock (Evr.regionN rfl (Opl.p1 (n := Opl.p1 (n := Opl.p1 (n := Opl.nil ?_)))))))
   exact ih1 _ (by omega) _ _ ⟨by omega, _, _, H, ⟨rfl, rfl, rfl, trivial⟩⟩
  rw [if_pos c4] at H
  have e4 : (decide (t108 < 0)) = true := by simpa using c4
  try rw [e4]
  refine Evr.condT rfl (Evr.sr rfl (Opl.p1 (n := Opl.nil ?_)))
  obtain rfl := Option.some.inj H
  refine Evr.ret1 Tryd.func10 rfl ?_
  show (.lit (.int .i64 (-1)) : PV) = _
  first | rfl | (simp only [go_sem]; rfl)
theorem laws_szVarS.ev {l0 : List LVar} {v0 : PV} (hv0 : Sl cLVar l0 v0) {a1 : Int} {r : Int} (H : laws_szVarS.f l0 a1 = some r) : Ret Tryd.prog 9 [v0, .lit (.int .i64 a1)] fun v S => v = .lit (.int .i64 r) := by
 unfold laws_szVarS.f at H
 refine Ret.intro Tryd.func9 rfl (Nat.le_of_ble_eq_true rfl) rfl ?_
 rw [tm2]
 refine Evr.sr rfl (Opl.p1 (n := Opl.nil (Evr.sr rfl (Opl.p1 (n := Opl.p1 (n := Opl.len (xs := l0) (by exact hv0) K22 rfl rfl rfl rfl (Opl.p1 (n := Opl.p1 (n := Opl.nil (Evr.seq (Evr.sr rfl (Opl.p1 (n := Opl.lss (a := (wrap64 (a1 - (l0.length : Int)))) (b := 0) K3 rfl rfl rfl rfl (Opl.nil ?_))))))))))))))
 by_cases c1 : (wrap64 (a1 - (l0.length : Int))) < 0
 case pos =>
  rw [if_pos c1] at H
  have e1 : (decide ((wrap64 (a1 - (l0.length : Int))) < 0)) = true := by simpa using c1
  try rw [e1]
  refine Evr.condT rfl (Evr.sr rfl (Opl.p1 (n := Opl.nil ?_)))
  obtain rfl := Option.some.inj H
  refine Evr.ret1 Tryd.func9 rfl ?_
  show (.lit (.int .i64 (-1)) : PV) = _
  first | rfl | (simp only [go_sem]; rfl)
 rw [if_neg c1] at H
 have e2 : (decide ((wrap64 (a1 - (l0.length : Int))) < 0)) = false := by simpa using c1
 try rw [e2]
 refine Evr.condF rfl (Evr.skip (Evr.sr rfl (Opl.p1 (n := Opl.p1 (n := Opl.nil ?_)))))
 obtain rfl := Option.some.inj H
 refine Evr.ret1 Tryd.func9 rfl ?_
 show (.lit (.int .i64 (wrap64 (a1 - (l0.length : Int)))) : PV) = _
 first | rfl | (simp only [go_sem]; rfl)
theorem laws_szSystem.ev {k : Nat} {l0_0 : List LVar} {v0_0 : PV} (hv0_0 : Sl cLVar l0_0 v0_0) {l0_1 : List LRule} {v0_1 : PV} (hv0_1 : Sl cLRule l0_1 v0_1) {a1 : Int} {r : Int} (H : laws_szSystem.f k l0_0 l0_1 a1 = some r) : Ret Tryd.prog 4 [.agg [v0_0, v0_1], .lit (.int .i64 a1)] fun v S => v = .lit (.int .i64 r) := by
 unfold laws_szSystem.f at H
 refine Ret.intro Tryd.func4 rfl (Nat.le_of_ble_eq_true rfl) rfl ?_
 rw [tm2]
 refine Evr.sr rfl (Opl.box (cs := [v0_0, v0_1]) rfl rfl rfl rfl ?_)
 rintro i1 S h1 u1 w1
 refine Opl.p1 (n := Opl.nil (Evr.sr rfl (Opl.p1 (v := .ptr i1 0) (n := Opl.ldb (v := v0_0) h1 rfl T22 rfl rfl rfl rfl (Opl.p1 (n := ?_))))))
 obtain ⟨t110, h_t110, H⟩ := Option.bind_eq_some_iff.1 H
 refine Opl.callc (laws_szVarS.ev hv0_0 h_t110) rfl rfl rfl rfl ⟨hv0_0.plain, (.lit _), trivial⟩ (by decide) (Opl.p1 (n := Opl.nil (Evr.seq (Evr.sr rfl (Opl.p1 (n := Opl.p1 (n := Opl.nil ?_)))))))
 by_cases c1 : t110 < 0
 case pos =>
  rw [if_pos c1] at H
  have e1 : (decide (t110 < 0)) = true := by simpa using c1
  try rw [e1]
  refine Evr.condT rfl (Evr.sr rfl (Opl.p1 (n := Opl.nil ?_)))
  obtain rfl := Option.some.inj H
  refine Evr.ret1 Tryd.func4 rfl ?_
  show (.lit (.int .i64 (-1)) : PV) = _
  first | rfl | (simp only [go_sem]; rfl)
 rw [if_neg c1] at H
 have e2 : (decide (t110 < 0)) = false := by simpa using c1
 try rw [e2]
 refine Evr.condF rfl (Evr.skip (Evr.sr rfl (Opl.p1 (v := .ptr i1 1) (n := Opl.ldb (v := v0_1) h1 rfl T23 rfl rfl rfl rfl (Opl.p1 (n := ?_))))))
 obtain ⟨t111, h_t111, H⟩ := Option.bind_eq_some_iff.1 H
 refine Opl.callc (laws_szRuleS.ev hv0_1 h_t111) rfl rfl rfl rfl ⟨hv0_1.plain, (.lit _), trivial⟩ (by decide) (Opl.p1 (n := Opl.nil (Evr.seq (Evr.sr rfl (Opl.p1 (n := Opl.p1 (n := Opl.nil ?_)))))))
 by_cases c2 : t111 < 0
 case pos =>
  rw [if_pos c2] at H
  have e3 : (decide (t111 < 0)) = true := by simpa using c2
  try rw [e3]
  refine Evr.condT rfl (Evr.sr rfl (Opl.p1 (n := Opl.nil ?_)))
  obtain rfl := Option.some.inj H
  refine Evr.ret1 Tryd.func4 rfl ?_
  show (.lit (.int .i64 (-1)) : PV) = _
  first | rfl | (simp only [go_sem]; rfl)
 rw [if_neg c2] at H
 have e4 : (decide (t111 < 0)) = false := by simpa using c2
 try rw [e4]
 refine Evr.condF rfl (Evr.skip (Evr.sr rfl (Opl.p1 (n := Opl.p1 (n := Opl.nil ?_)))))
 obtain rfl := Option.some.inj H
 refine Evr.ret1 Tryd.func4 rfl ?_
 show (.lit (.int .i64 t111) : PV) = _
 first | rfl | (simp only [go_sem]; rfl)
theorem laws_toIntS.ev {k : Nat} {l0 : List Int} {v0 : PV} (hv0 : Sl (cInt .i64) l0 v0) {r : (List Int)} (H : laws_toIntS.f k l0 = some r) : Ret Tryd.prog 47 [v0] fun v S => Vec (cInt .i64) r v S := by
 unfold laws_toIntS.f at H
 refine Ret.intro Tryd.func47 rfl (Nat.le_of_ble_eq_true rfl) rfl ?_
 rw [tm1]
 refine Evr.sr rfl (Opl.p1 (n := Opl.nil (Evr.sr rfl (Opl.p1 (n := Opl.len (xs := l0) (by exact hv0) K37 rfl rfl rfl rfl ?_)))))
 obtain ⟨c1, H⟩ := peel H
 obtain ⟨c2, H⟩ := peel H
 refine Opl.make (M := (cInt .i64)) (m := (l0.length : Int)) (0 : Int) (by exact rfl) rfl rfl K37 T3 rfl (by omega) (by show ((l0.length : Int)).toNat * 8 ≤ 281474976710656; omega) (by omega) rfl rfl rfl ?_
 rintro pv1 S h1 u1 w1
 refine Opl.p1 (n := Opl.nil (Evr.seq (Evr.sr rfl (Opl.p1 (n := Opl.nil (Evr.block ?_))))))
 refine Evr.loop (Evr.rounds (n := k) (Inv := fun n tm S => n ≤ k ∧ ∃ (x3_1 : List Int) (x4_1 : Int) (pv2 : PV), laws_toIntS.l0 n l0 x3_1 x4_1 = some r ∧ Has tm [(0, v0), (3, pv2), (4, .lit (.int .i64 x4_1))] ∧ Vec (cInt .i64) x3_1 pv2 S) ?_ ?_ ?_)
 · exact ⟨Nat.le_refl _, _, _, _, H, ⟨rfl, rfl, rfl, trivial⟩, h1⟩
 ·
  rintro tm S ⟨_, _, _, _, H, -⟩
  simp [laws_toIntS.l0] at H
 ·
  rintro n1 ih1 tm S ⟨hle, x3_1, x4_1, pv2, H, hh, h2⟩
  simp only [laws_toIntS.l0] at H
  rw [hh.eq]
  refine Evr.seq (Evr.sr rfl (Opl.p1 (n := Opl.p1 (n := Opl.len (xs := l0) (by exact hv0) K37 rfl rfl rfl rfl (Opl.p1 (n := Opl.nil ?_))))))
  by_cases c3 : x4_1 < (l0.length : Int)
  case neg =>
   rw [if_neg c3] at H
   have e2 : (decide (x4_1 < (l0.length : Int))) = false := by simpa using c3
   try rw [e2]
   refine Evr.condF rfl (Evr.exit rfl (Evr.sr rfl (Opl.p1 (n := Opl.p1 (n := Opl.nil ?_)))))
   obtain rfl := Option.some.inj H
   refine Evr.ret1 Tryd.func47 rfl ?_
   show Vec _ _ pv2 _
   exact h2
  rw [if_pos c3] at H
  have e1 : (decide (x4_1 < (l0.length : Int))) = true := by simpa using c3
  try rw [e1]
  refine Evr.condT rfl (Evr.skip (Evr.seq (Evr.block (Evr.regionN rfl (Opl.p1 (n := Opl.p1 (n := Opl.p1 (n := Opl.p1 (n := ?_)))))))))
  obtain ⟨c4, H⟩ := peel H
  obtain ⟨c5, H⟩ := peel H
  refine Opl.idx (M := (cInt .i64)) (xs := l0) (j := x4_1) (0 : Int) (by exact hv0) rfl (by omega) (by omega) K37 Z3 rfl rfl ?_
  rintro p1 q1 h3
  obtain rfl : p1 = [.lit (.int .i64 (rd l0 x4_1))] := h3
  refine Opl.lda (.lit (.int .i64 (rd l0 x4_1))) rfl T3 rfl rfl rfl rfl (Opl.idv (M := (cInt .i64)) (xs := x3_1) (j := x4_1) (v := pv2) h2 rfl rfl (by omega) (by omega) K37 Z3 rfl rfl ?_)
  rintro d1 z1 q2 h4 h5
  refine Opl.stv (M := (cInt .i64)) (xs := x3_1) (j := x4_1) (y := (rd l0 x4_1)) (vs := [.lit (.int .i64 (rd l0 x4_1))]) h4 h5 (by omega) (by omega) rfl rfl (by exact rfl) Z3 rfl rfl rfl rfl ?_
  rw [← q2]
  rintro S h6 u2
  refine Opl.nil (Evr.inBlock (Evr.regionN rfl (Opl.p1 (n := Opl.p1 (n := Opl.p1 (n := Opl.nil ?_))))))
  exact ih1 _ (by omega) _ _ ⟨by omega, _, _, _, H, ⟨rfl, rfl, rfl, trivial⟩, h6⟩
theorem laws_toTerm.ev {a0_0 : Int} {a0_1 : Int} {a0_2 : Int} {a0_3 : Int} {r : (Int × Int × Int × Int)} (H : laws_toTerm.f a0_0 a0_1 a0_2 a0_3 = some r) : Ret Tryd.prog 57 [.agg [.lit (.int .i64 a0_0), .lit (.int .i64 a0_1), .lit (.int .i64 a0_2), .lit (.int .i64 a0_3)]] fun v S => Out (fun q => ∃ q1 q2 q3 q4, q = .agg [q1, q2, q3, q4] ∧ q1 = .lit (.int .i64 r.1) ∧ q2 = .lit (.int .i64 r.2.1) ∧ q3 = .lit (.int .i64 r.2.2.1) ∧ q4 = .lit (.int .i64 r.2.2.2)) v S := by
 unfold laws_toTerm.f at H
 refine Ret.intro Tryd.func57 rfl (Nat.le_of_ble_eq_true rfl) rfl ?_
 rw [tm1]
 refine Evr.sr rfl (Opl.box (cs := [.lit (.int .i64 a0_0), .lit (.int .i64 a0_1), .lit (.int .i64 a0_2), .lit (.int .i64 a0_3)]) rfl rfl rfl rfl ?_)
 rintro i1 S h1 u1 w1
 refine Opl.alloc T86 rfl rfl rfl ?_
 rintro i2 S h2 u2 w2
 have ap1 := w2.box h1
 have h3 := u2.box h1 ap1
 refine Opl.nil (Evr.sr rfl (Opl.alloc T86 rfl rfl rfl ?_))
 rintro i3 S h4 u3 w3
 have ap2 := w3.box h3
 have h5 := u3.box h3 ap2
 have ap3 := w3.box h2
 have h6 := u3.box h2 ap3
 refine Opl.nil (Evr.sr rfl (Opl.p1 (v := .ptr i1 0) (n := Opl.ldb (v := .lit (.int .i64 a0_0)) h5 rfl T3 rfl rfl rfl rfl (Opl.p1 (v := .ptr i3 0) (n := Opl.stb (vs := [.lit (.int .i64 a0_0)]) h4 rfl rfl Z3 rfl (Nat.le_of_ble_eq_true rfl) rfl rfl rfl rfl ?_)))))
 rintro S (h7 : Box (.ptr i3 0) [.lit (.int .i64 a0_0), .lit (.int .i64 0), .lit (.int .i64 0), .lit (.int .i64 0)] _) u4
 have h8 := u4.box h5 ap2
 have h9 := u4.box h6 ap3
 refine Opl.nil (Evr.sr rfl (Opl.p1 (v := .ptr i1 1) (n := Opl.ldb (v := .lit (.int .i64 a0_1)) h8 rfl T3 rfl rfl rfl rfl (Opl.p1 (v := .ptr i3 1) (n := Opl.stb (vs := [.lit (.int .i64 a0_1)]) h7 rfl rfl Z3 rfl (Nat.le_of_ble_eq_true rfl) rfl rfl rfl rfl ?_)))))
 rintro S (h10 : Box (.ptr i3 0) [.lit (.int .i64 a0_0), .lit (.int .i64 a0_1), .lit (.int .i64 0), .lit (.int .i64 0)] _) u5
 have h11 := u5.box h8 ap2
 have h12 := u5.box h9 ap3
 refine Opl.nil (Evr.sr rfl (Opl.p1 (v := .ptr i1 2) (n := Opl.ldb (v := .lit (.int .i64 a0_2)) h11 rfl T3 rfl rfl rfl rfl (Opl.p1 (v := .ptr i3 2) (n := Opl.stb (vs := [.lit (.int .i64 a0_2)]) h10 rfl rfl Z3 rfl (Nat.le_of_ble_eq_true rfl) rfl rfl rfl rfl ?_)))))
 rintro S (h13 : Box (.ptr i3 0) [.lit (.int .i64 a0_0), .lit (.int .i64 a0_1), .lit (.int .i64 a0_2), .lit (.int .i64 0)] _) u6
 have h14 := u6.box h11 ap2
 have h15 := u6.box h12 ap3
 refine Opl.nil (Evr.sr rfl (Opl.p1 (v := .ptr i1 3) (n := Opl.ldb (v := .lit (.int .i64 a0_3)) h14 rfl T3 rfl rfl rfl rfl (Opl.p1 (v := .ptr i3 3) (n := Opl.stb (vs := [.lit (.int .i64 a0_3)]) h13 rfl rfl Z3 rfl (Nat.le_of_ble_eq_true rfl) rfl rfl rfl rfl ?_)))))
 rintro S (h16 : Box (.ptr i3 0) [.lit (.int .i64 a0_0), .lit (.int .i64 a0_1), .lit (.int .i64 a0_2), .lit (.int .i64 a0_3)] _) u7
 have h17 := u7.box h14 ap2
 have h18 := u7.box h15 ap3
 refine Opl.nil (Evr.sr rfl (Opl.ldb (v := .agg [.lit (.int .i64 a0_0), .lit (.int .i64 a0_1), .lit (.int .i64 a0_2), .lit (.int .i64 a0_3)]) h16 rfl T86 rfl rfl rfl rfl (Opl.stb (vs := [.lit (.int .i64 a0_0), .lit (.int .i64 a0_1), .lit (.int .i64 a0_2), .lit (.int .i64 a0_3)]) h18 rfl rfl Z86 rfl (Nat.le_of_ble_eq_true rfl) rfl rfl rfl rfl ?_)))
 rintro S (h19 : Box (.ptr i2 0) [.lit (.int .i64 a0_0), .lit (.int .i64 a0_1), .lit (.int .i64 a0_2), .lit (.int .i64 a0_3)] _) u8
 have h20 := u8.box h17 ap1
 have h21 := u8.box h16 ap3.symm
 refine Opl.nil ?_
 obtain rfl := Option.some.inj H
 refine Evr.retb (v := .agg [.lit (.int .i64 a0_0), .lit (.int .i64 a0_1), .lit (.int .i64 a0_2), .lit (.int .i64 a0_3)]) Tryd.func57 rfl h19 rfl T86 rfl ?_
 show Out _ (.agg [.lit (.int .i64 a0_0), .lit (.int .i64 a0_1), .lit (.int .i64 a0_2), .lit (.int .i64 a0_3)]) _
 exact (.agg4 .lit .lit .lit .lit)
theorem laws_toTermS.ev {k : Nat} {l0 : List LTerm} {v0 : PV} (hv0 : Sl cLTerm l0 v0) {r : (List ITerm)} (H : laws_toTermS.f k l0 = some r) : Ret Tryd.prog 46 [v0] fun v S => Vec cITerm r v S := by
 unfold laws_toTermS.f at H
 refine Ret.intro Tryd.func46 rfl (Nat.le_of_ble_eq_true rfl) rfl ?_
 rw [tm1]
 refine Evr.sr rfl (Opl.p1 (n := Opl.nil (Evr.sr rfl (Opl.p1 (n := Opl.len (xs := l0) (by exact hv0) K47 rfl rfl rfl rfl ?_)))))
 obtain ⟨c1, H⟩ := peel H
 obtain ⟨c2, H⟩ := peel H
 refine Opl.make (M := cITerm) (m := (l0.length : Int)) zITerm (by exact cITerm_z) rfl rfl K56 T86 rfl (by omega) (by show ((l0.length : Int)).toNat * 32 ≤ 281474976710656; omega) (by omega) rfl rfl rfl ?_
 rintro pv1 S h1 u1 w1
 refine Opl.p1 (n := Opl.nil (Evr.seq (Evr.sr rfl (Opl.p1 (n := Opl.nil (Evr.block ?_))))))
 refine Evr.loop (Evr.rounds (n := k) (Inv := fun n tm S => n ≤ k ∧ ∃ (x3_1 : List (ITerm)) (x4_1 : Int) (pv2 : PV), laws_toTermS.l0 n l0 x3_1 x4_1 = some r ∧ Has tm [(0, v0), (3, pv2), (4, .lit (.int .i64 x4_1))] ∧ Vec cITerm x3_1 pv2 S) ?_ ?_ ?_)
 · exact ⟨Nat.le_refl _, _, _, _, H, ⟨rfl, rfl, rfl, trivial⟩, h1⟩
 ·
  rintro tm S ⟨_, _, _, _, H, -⟩
  simp [laws_toTermS.l0] at H
 ·
  rintro n1 ih1 tm S ⟨hle, x3_1, x4_1, pv2, H, hh, h2⟩
  simp only [laws_toTermS.l0] at H
  rw [hh.eq]
  refine Evr.seq (Evr.sr rfl (Opl.p1 (n := Opl.p1 (n := Opl.len (xs := l0) (by exact hv0) K47 rfl rfl rfl rfl (Opl.p1 (n := Opl.nil ?_))))))
  by_cases c3 : x4_1 < (l0.length : Int)
  case neg =>
   rw [if_neg c3] at H
   have e2 : (decide (x4_1 < (l0.length : Int))) = false := by simpa using c3
   try rw [e2]
   refine Evr.condF rfl (Evr.exit rfl (Evr.sr rfl (Opl.p1 (n := Opl.p1 (n := Opl.nil ?_)))))
   obtain rfl := Option.some.inj H
   refine Evr.ret1 Tryd.func46 rfl ?_
   show Vec _ _ pv2 _
   exact h2
  rw [if_pos c3] at H
  have e1 : (decide (x4_1 < (l0.length : Int))) = true := by simpa using c3
  try rw [e1]
  refine Evr.condT rfl (Evr.skip (Evr.seq (Evr.block (Evr.regionN rfl (Opl.p1 (n := Opl.p1 (n := Opl.p1 (n := Opl.p1 (n := ?_)))))))))
  obtain ⟨c4, H⟩ := peel H
  refine Opl.idx (M := cLTerm) (xs := l0) (j := x4_1) zLTerm (by exact hv0) rfl (by omega) (by omega) K47 Z88 rfl rfl ?_
  rintro p1 q1 h3
  obtain rfl := cLTerm_R (x := (rd_LTerm l0 x4_1)) h3
  refine Opl.lda (.agg [.lit (.int .i64 ((rd_LTerm l0 x4_1).f0)), .lit (.int .i64 ((rd_LTerm l0 x4_1).f1)), .lit (.int .i64 ((rd_LTerm l0 x4_1).f2)), .lit (.int .i64 ((rd_LTerm l0 x4_1).f3))]) rfl T88 rfl rfl rfl rfl ?_
  obtain ⟨bt208, h_bt208, H⟩ := Option.bind_eq_some_iff.1 H
  refine Opl.call (laws_toTerm.ev h_bt208) rfl rfl rfl rfl ⟨(.aggL ⟨(.lit _), (.lit _), (.lit _), (.lit _), trivial⟩), trivial⟩ (by decide) ?_
  rintro _ ⟨_, _, _, _, rfl, rfl, rfl, rfl, rfl⟩
  obtain ⟨c5, H⟩ := peel H
  refine Opl.idv (M := cITerm) (xs := x3_1) (j := x4_1) (v := pv2) h2 rfl rfl (by omega) (by omega) K56 Z86 rfl rfl ?_
  rintro d1 z1 q2 h5 h6
  refine Opl.stv (M := cITerm) (xs := x3_1) (j := x4_1) (y := (⟨bt208.1, bt208.2.1, bt208.2.2.1, bt208.2.2.2⟩ : ITerm)) (vs := [.lit (.int .i64 bt208.1), .lit (.int .i64 bt208.2.1), .lit (.int .i64 bt208.2.2.1), .lit (.int .i64 bt208.2.2.2)]) h5 h6 (by omega) (by omega) rfl rfl (by exact cITerm_mk) Z86 rfl rfl rfl rfl ?_
  rw [← q2]
  rintro S h7 u2
  refine Opl.nil (Evr.inBlock (Evr.regionN rfl (Opl.p1 (n := Opl.p1 (n := Opl.p1 (n := Opl.nil ?_))))))
  exact ih1 _ (by omega) _ _ ⟨by omega, _, _, _, H, ⟨rfl, rfl, rfl, trivial⟩, h7⟩
theorem laws_toTermSS.ev {k : Nat} {l0 : List (List LTerm)} {v0 : PV} (hv0 : Sl (cSl cLTerm) l0 v0) {r : (List (List ITerm))} (H : laws_toTermSS.f k l0 = some r) : Ret Tryd.prog 48 [v0] fun v S => Vec (cSl cITerm) r v S := by
 unfold laws_toTermSS.f at H
 refine Ret.intro Tryd.func48 rfl (Nat.le_of_ble_eq_true rfl) rfl ?_
 rw [tm1]
 refine Evr.sr rfl (Opl.p1 (n := Opl.nil (Evr.sr rfl (Opl.p1 (n := Opl.len (xs := l0) (by exact hv0) K48 rfl rfl rfl rfl ?_)))))
 obtain ⟨c1, H⟩ := peel H
 obtain ⟨c2, H⟩ := peel H
 refine Opl.make (M := (cSl cITerm)) (m := (l0.length : Int)) ([] : List ITerm) (by exact ⟨_, rfl, .nil⟩) rfl rfl K57 T56 rfl (by omega) (by show ((l0.length : Int)).toNat * 24 ≤ 281474976710656; omega) (by omega) rfl rfl rfl ?_
 rintro pv1 S h1 u1 w1
 refine Opl.p1 (n := Opl.nil (Evr.seq (Evr.sr rfl (Opl.p1 (n := Opl.nil (Evr.block ?_))))))
 refine Evr.loop (Evr.rounds (n := k) (Inv := fun n tm S => n ≤ k ∧ ∃ (x3_1 : List (List (ITerm))) (x4_1 : Int) (pv2 : PV), laws_toTermSS.l0 n l0 x3_1 x4_1 = some r ∧ Has tm [(0, v0), (3, pv2), (4, .lit (.int .i64 x4_1))] ∧ Vec (cSl cITerm) x3_1 pv2 S) ?_ ?_ ?_)
 · exact ⟨Nat.le_refl _, _, _, _, H, ⟨rfl, rfl, rfl, trivial⟩, h1⟩
 ·
  rintro tm S ⟨_, _, _, _, H, -⟩
  simp [laws_toTermSS.l0] at H
 ·
  rintro n1 ih1 tm S ⟨hle, x3_1, x4_1, pv2, H, hh, h2⟩
  simp only [laws_toTermSS.l0] at H
  rw [hh.eq]
  refine Evr.seq (Evr.sr rfl (Opl.p1 (n := Opl.p1 (n := Opl.len (xs := l0) (by exact hv0) K48 rfl rfl rfl rfl (Opl.p1 (n := Opl.nil ?_))))))
  by_cases c3 : x4_1 < (l0.length : Int)
  case neg =>
   rw [if_neg c3] at H
   have e2 : (decide (x4_1 < (l0.length : Int))) = false := by simpa using c3
   try rw [e2]
   refine Evr.condF rfl (Evr.exit rfl (Evr.sr rfl (Opl.p1 (n := Opl.p1 (n := Opl.nil ?_)))))
   obtain rfl := Option.some.inj H
   refine Evr.ret1 Tryd.func48 rfl ?_
   show Vec _ _ pv2 _
   exact h2
  rw [if_pos c3] at H
  have e1 : (decide (x4_1 < (l0.length : Int))) = true := by simpa using c3
  try rw [e1]
  refine Evr.condT rfl (Evr.skip (Evr.seq (Evr.block (Evr.regionN rfl (Opl.p1 (n := Opl.p1 (n := Opl.p1 (n := Opl.p1 (n := ?_)))))))))
  obtain ⟨c4, H⟩ := peel H
  refine Opl.idx (M := (cSl cLTerm)) (xs := l0) (j := x4_1) ([] : List LTerm) (by exact hv0) rfl (by omega) (by omega) K48 Z47 rfl rfl ?_
  rintro p1 q1 h3
  obtain ⟨pv3, rfl, h4⟩ := h3
  refine Opl.lda (pv3) rfl T47 rfl rfl rfl rfl ?_
  obtain ⟨t222, h_t222, H⟩ := Option.bind_eq_some_iff.1 H
  refine Opl.call ((laws_toTermS.ev h4 h_t222).mono fun _ _ h => Out.vec h) rfl rfl rfl rfl ⟨h4.plain, trivial⟩ (by decide) ?_
  rintro pv4 h5
  obtain ⟨c5, H⟩ := peel H
  refine Opl.idv (M := (cSl cITerm)) (xs := x3_1) (j := x4_1) (v := pv2) h2 rfl rfl (by omega) (by omega) K57 Z56 rfl rfl ?_
  rintro d1 z1 q2 h6 h7
  refine Opl.stv (M := (cSl cITerm)) (xs := x3_1) (j := x4_1) (y := t222) (vs := [pv4]) h6 h7 (by omega) (by omega) rfl (by exact h5.cells) (by exact ⟨_, by first | rfl | exact h5.cells, h5⟩) Z56 (by simp only [List.all_cons, List.all_nil, h5.one, Bool.and_true, Bool.true_and] <;> rfl) rfl rfl rfl ?_
  rw [← q2]
  rintro S h8 u2
  refine Opl.nil (Evr.inBlock (Evr.regionN rfl (Opl.p1 (n := Opl.p1 (n := Opl.p1 (n := Opl.nil ?_))))))
  exact ih1 _ (by omega) _ _ ⟨by omega, _, _, _, H, ⟨rfl, rfl, rfl, trivial⟩, h8⟩
theorem laws_toRule.ev {k : Nat} {l0_0 : List LTerm} {v0_0 : PV} (hv0_0 : Sl cLTerm l0_0 v0_0) {l0_1 : List Int} {v0_1 : PV} (hv0_1 : Sl (cInt .i64) l0_1 v0_1) {l0_2 : List (List LTerm)} {v0_2 : PV} (hv0_2 : Sl (cSl cLTerm) l0_2 v0_2) {r : (List ITerm × List Int × List (List ITerm))} (H : laws_toRule.f k l0_0 l0_1 l0_2 = some r) : Ret Tryd.prog 25 [.agg [v0_0, v0_1, v0_2]] fun v S => Out (fun q => ∃ q1 q2 q3, q = .agg [q1, q2, q3] ∧ Sl cITerm r.1 q1 ∧ Sl (cInt .i64) r.2.1 q2 ∧ Sl (cSl cITerm) r.2.2 q3) v S := by
 unfold laws_toRule.f at H
 refine Ret.intro Tryd.func25 rfl (Nat.le_of_ble_eq_true rfl) rfl ?_
 rw [tm1]
 refine Evr.sr rfl (Opl.box (cs := [v0_0, v0_1, v0_2]) rfl rfl rfl rfl ?_)
 rintro i1 S h1 u1 w1
 refine Opl.alloc T59 rfl rfl rfl ?_
 rintro i2 S h2 u2 w2
 have ap1 := w2.box h1
 have h3 := u2.box h1 ap1
 refine Opl.nil (Evr.sr rfl (Opl.alloc T59 rfl rfl rfl ?_))
 rintro i3 S h4 u3 w3
 have ap2 := w3.box h3
 have h5 := u3.box h3 ap2
 have ap3 := w3.box h2
 have h6 := u3.box h2 ap3
 refine Opl.nil (Evr.sr rfl (Opl.p1 (v := .ptr i1 0) (n := Opl.ldb (v := v0_0) h5 rfl T47 rfl rfl rfl rfl ?_)))
 obtain ⟨t229, h_t229, H⟩ := Option.bind_eq_some_iff.1 H
 refine Opl.call ((laws_toTermS.ev hv0_0 h_t229).mono fun _ _ h => Out.vec h) rfl rfl rfl rfl ⟨hv0_0.plain, trivial⟩ (by decide) ?_
 rintro pv1 h7
 refine Opl.p1 (v := .ptr i3 0) (n := Opl.stb (vs := [pv1]) h4 rfl (by exact h7.cells) Z56 rfl (Nat.le_of_ble_eq_true rfl) (by simp only [List.all_cons, List.all_nil, h7.one, Bool.and_true, Bool.true_and] <;> rfl) rfl rfl rfl ?_)
 rintro S (h8 : Box (.ptr i3 0) [pv1, .lit (.slice none 0 0), .lit (.slice none 0 0)] _) u4
 have h9 := u4.box h5 ap2
 have h10 := u4.box h6 ap3
 refine Opl.nil (Evr.sr rfl (Opl.p1 (v := .ptr i1 1) (n := Opl.ldb (v := v0_1) h9 rfl T37 rfl rfl rfl rfl ?_)))
 obtain ⟨t232, h_t232, H⟩ := Option.bind_eq_some_iff.1 H
 refine Opl.call ((laws_toIntS.ev hv0_1 h_t232).mono fun _ _ h => Out.vec h) rfl rfl rfl rfl ⟨hv0_1.plain, trivial⟩ (by decide) ?_
 rintro pv2 h11
 refine Opl.p1 (v := .ptr i3 1) (n := Opl.stb (vs := [pv2]) h8 rfl (by exact h11.cells) Z37 rfl (Nat.le_of_ble_eq_true rfl) (by simp only [List.all_cons, List.all_nil, h11.one, Bool.and_true, Bool.true_and] <;> rfl) rfl rfl rfl ?_)
 rintro S (h12 : Box (.ptr i3 0) [pv1, pv2, .lit (.slice none 0 0)] _) u5
 have h13 := u5.box h9 ap2
 have h14 := u5.box h10 ap3
 refine Opl.nil (Evr.sr rfl (Opl.p1 (v := .ptr i1 2) (n := Opl.ldb (v := v0_2) h13 rfl T48 rfl rfl rfl rfl ?_)))
 obtain ⟨t235, h_t235, H⟩ := Option.bind_eq_some_iff.1 H
 refine Opl.call ((laws_toTermSS.ev hv0_2 h_t235).mono fun _ _ h => Out.vec h) rfl rfl rfl rfl ⟨hv0_2.plain, trivial⟩ (by decide) ?_
 rintro pv3 h15
 refine Opl.p1 (v := .ptr i3 2) (n := Opl.stb (vs := [pv3]) h12 rfl (by exact h15.cells) Z57 rfl (Nat.le_of_ble_eq_true rfl) (by simp only [List.all_cons, List.all_nil, h15.one, Bool.and_true, Bool.true_and] <;> rfl) rfl rfl rfl ?_)
 rintro S (h16 : Box (.ptr i3 0) [pv1, pv2, pv3] _) u6
 have h17 := u6.box h13 ap2
 have h18 := u6.box h14 ap3
 refine Opl.nil (Evr.sr rfl (Opl.ldb (v := .agg [pv1, pv2, pv3]) h16 rfl T59 rfl rfl rfl rfl (Opl.stb (vs := [pv1, pv2, pv3]) h18 rfl rfl Z59 rfl (Nat.le_of_ble_eq_true rfl) (by simp only [List.all_cons, List.all_nil, h7.one, h11.one, h15.one, Bool.and_true, Bool.true_and] <;> rfl) rfl rfl rfl ?_)))
 rintro S (h19 : Box (.ptr i2 0) [pv1, pv2, pv3] _) u7
 have h20 := u7.box h17 ap1
 have h21 := u7.box h16 ap3.symm
 refine Opl.nil ?_
 obtain rfl := Option.some.inj H
 refine Evr.retb (v := .agg [pv1, pv2, pv3]) Tryd.func25 rfl h19 rfl T59 rfl ?_
 show Out _ (.agg [pv1, pv2, pv3]) _
 exact (.agg3 (.sl h7) (.sl h11) (.sl h15))
theorem laws_toRuleS.ev {k : Nat} {l0 : List LRule} {v0 : PV} (hv0 : Sl cLRule l0 v0) {r : (List IRule)} (H : laws_toRuleS.f k l0 = some r) : Ret Tryd.prog 15 [v0] fun v S => Vec cIRule r v S := by
 unfold laws_toRuleS.f at H
 refine Ret.intro Tryd.func15 rfl (Nat.le_of_ble_eq_true rfl) rfl ?_
 rw [tm1]
 refine Evr.sr rfl (Opl.p1 (n := Opl.nil (Evr.sr rfl (Opl.p1 (n := Opl.len (xs := l0) (by exact hv0) K23 rfl rfl rfl rfl ?_)))))
 obtain ⟨c1, H⟩ := peel H
 obtain ⟨c2, H⟩ := peel H
 refine Opl.make (M := cIRule) (m := (l0.length : Int)) zIRule (by exact cIRule_z) rfl rfl K29 T59 rfl (by omega) (by show ((l0.length : Int)).toNat * 72 ≤ 281474976710656; omega) (by omega) rfl rfl rfl ?_
 rintro pv1 S h1 u1 w1
 refine Opl.p1 (n := Opl.nil (Evr.seq (Evr.sr rfl (Opl.p1 (n := Opl.nil (Evr.block ?_))))))
 refine Evr.loop (Evr.rounds (n := k) (Inv := fun n tm S => n ≤ k ∧ ∃ (x3_1 : List (IRule)) (x4_1 : Int) (pv2 : PV), laws_toRuleS.l0 n l0 x3_1 x4_1 = some r ∧ Has tm [(0, v0), (3, pv2), (4, .lit (.int .i64 x4_1))] ∧ Vec cIRule x3_1 pv2 S) ?_ ?_ ?_)
 · exact ⟨Nat.le_refl _, _, _, _, H, ⟨rfl, rfl, rfl, trivial⟩, h1⟩
 ·
  rintro tm S ⟨_, _, _, _, H, -⟩
  simp [laws_toRuleS.l0] at H
 ·
  rintro n1 ih1 tm S ⟨hle, x3_1, x4_1, pv2, H, hh, h2⟩
  simp only [laws_toRuleS.l0] at H
  rw [hh.eq]
  refine Evr.seq (Evr.sr rfl (Opl.p1 (n := Opl.p1 (n := Opl.len (xs := l0) (by exact hv0) K23 rfl rfl rfl rfl (Opl.p1 (n := Opl.nil ?_))))))
  by_cases c3 : x4_1 < (l0.length : Int)
  case neg =>
   rw [if_neg c3] at H
   have e2 : (decide (x4_1 < (l0.length : Int))) = false := by simpa using c3
   try rw [e2]
   refine Evr.condF rfl (Evr.exit rfl (Evr.sr rfl (Opl.p1 (n := Opl.p1 (n := Opl.nil ?_)))))
   obtain rfl := Option.some.inj H
   refine Evr.ret1 Tryd.func15 rfl ?_
   show Vec _ _ pv2 _
   exact h2
  rw [if_pos c3] at H
  have e1 : (decide (x4_1 < (l0.length : Int))) = true := by simpa using c3
  try rw [e1]
  refine Evr.condT rfl (Evr.skip (Evr.seq (Evr.block (Evr.regionN rfl (Opl.p1 (n := Opl.p1 (n := Opl.p1 (n := Opl.p1 (n := ?_)))))))))
  obtain ⟨c4, H⟩ := peel H
  refine Opl.idx (M := cLRule) (xs := l0) (j := x4_1) zLRule (by exact hv0) rfl (by omega) (by omega) K23 Z50 rfl rfl ?_
  rintro p1 q1 h3
  obtain ⟨pv3, pv4, pv5, rfl, h4, h5, h6⟩ := cLRule_R (x := (rd_LRule l0 x4_1)) h3
  refine Opl.lda (.agg [pv3, pv4, pv5]) rfl T50 rfl rfl rfl rfl ?_
  obtain ⟨bt242, h_bt242, H⟩ := Option.bind_eq_some_iff.1 H
  refine Opl.call (laws_toRule.ev h4 h5 h6 h_bt242) rfl rfl rfl rfl ⟨(.aggL ⟨h4.plain, h5.plain, h6.plain, trivial⟩), trivial⟩ (by decide) ?_
  rintro _ ⟨pv7, pv8, pv9, rfl, h8, h9, h10⟩
  obtain ⟨c5, H⟩ := peel H
  refine Opl.idv (M := cIRule) (xs := x3_1) (j := x4_1) (v := pv2) h2 rfl rfl (by omega) (by omega) K29 Z59 rfl rfl ?_
  rintro d1 z1 q2 h11 h12
  refine Opl.stv (M := cIRule) (xs := x3_1) (j := x4_1) (y := (⟨bt242.1, bt242.2.1, bt242.2.2⟩ : IRule)) (vs := [pv7, pv8, pv9]) h11 h12 (by omega) (by omega) rfl rfl (by exact (cIRule_mk h8 h9 h10)) Z59 (by simp only [List.all_cons, List.all_nil, h8.one, h9.one, h10.one, Bool.and_true, Bool.true_and] <;> rfl) rfl rfl rfl ?_
  rw [← q2]
  rintro S h13 u2
  refine Opl.nil (Evr.inBlock (Evr.regionN rfl (Opl.p1 (n := Opl.p1 (n := Opl.p1 (n := Opl.nil ?_))))))
  exact ih1 _ (by omega) _ _ ⟨by omega, _, _, _, H, ⟨rfl, rfl, rfl, trivial⟩, h13⟩
theorem laws_toVar.ev {a0_0 : Int} {a0_1 : Int} {a0_2 : Int} {r : (Int × Int × Int)} (H : laws_toVar.f a0_0 a0_1 a0_2 = some r) : Ret Tryd.prog 24 [.agg [.lit (.int .i64 a0_0), .lit (.int .i64 a0_1), .lit (.int .i64 a0_2)]] fun v S => Out (fun q => ∃ q1 q2 q3, q = .agg [q1, q2, q3] ∧ q1 = .lit (.int .i64 r.1) ∧ q2 = .lit (.int .i64 r.2.1) ∧ q3 = .lit (.int .i64 r.2.2)) v S := by
 unfold laws_toVar.f at H
 refine Ret.intro Tryd.func24 rfl (Nat.le_of_ble_eq_true rfl) rfl ?_
 rw [tm1]
 refine Evr.sr rfl (Opl.box (cs := [.lit (.int .i64 a0_0), .lit (.int .i64 a0_1), .lit (.int .i64 a0_2)]) rfl rfl rfl rfl ?_)
 rintro i1 S h1 u1 w1
 refine Opl.alloc T53 rfl rfl rfl ?_
 rintro i2 S h2 u2 w2
 have ap1 := w2.box h1
 have h3 := u2.box h1 ap1
 refine Opl.nil (Evr.sr rfl (Opl.alloc T53 rfl rfl rfl ?_))
 rintro i3 S h4 u3 w3
 have ap2 := w3.box h3
 have h5 := u3.box h3 ap2
 have ap3 := w3.box h2
 have h6 := u3.box h2 ap3
 refine Opl.nil (Evr.sr rfl (Opl.p1 (v := .ptr i1 0) (n := Opl.ldb (v := .lit (.int .i64 a0_0)) h5 rfl T3 rfl rfl rfl rfl (Opl.p1 (v := .ptr i3 0) (n := Opl.stb (vs := [.lit (.int .i64 a0_0)]) h4 rfl rfl Z3 rfl (Nat.le_of_ble_eq_true rfl) rfl rfl rfl rfl ?_)))))
 rintro S (h7 : Box (.ptr i3 0) [.lit (.int .i64 a0_0), .lit (.int .i64 0), .lit (.int .i64 0)] _) u4
 have h8 := u4.box h5 ap2
 have h9 := u4.box h6 ap3
 refine Opl.nil (Evr.sr rfl (Opl.p1 (v := .ptr i1 1) (n := Opl.ldb (v := .lit (.int .i64 a0_1)) h8 rfl T3 rfl rfl rfl rfl (Opl.p1 (v := .ptr i3 1) (n := Opl.stb (vs := [.lit (.int .i64 a0_1)]) h7 rfl rfl Z3 rfl (Nat.le_of_ble_eq_true rfl) rfl rfl rfl rfl ?_)))))
 rintro S (h10 : Box (.ptr i3 0) [.lit (.int .i64 a0_0), .lit (.int .i64 a0_1), .lit (.int .i64 0)] _) u5
 have h11 := u5.box h8 ap2
 have h12 := u5.box h9 ap3
 refine Opl.nil (Evr.sr rfl (Opl.p1 (v := .ptr i1 2) (n := Opl.ldb (v := .lit (.int .i64 a0_2)) h11 rfl T3 rfl rfl rfl rfl (Opl.p1 (v := .ptr i3 2) (n := Opl.stb (vs := [.lit (.int .i64 a0_2)]) h10 rfl rfl Z3 rfl (Nat.le_of_ble_eq_true rfl) rfl rfl rfl rfl ?_)))))
 rintro S (h13 : Box (.ptr i3 0) [.lit (.int .i64 a0_0), .lit (.int .i64 a0_1), .lit (.int .i64 a0_2)] _) u6
 have h14 := u6.box h11 ap2
 have h15 := u6.box h12 ap3
 refine Opl.nil (Evr.sr rfl (Opl.ldb (v := .agg [.lit (.int .i64 a0_0), .lit (.int .i64 a0_1), .lit (.int .i64 a0_2)]) h13 rfl T53 rfl rfl rfl rfl (Opl.stb (vs := [.lit (.int .i64 a0_0), .lit (.int .i64 a0_1), .lit (.int .i64 a0_2)]) h15 rfl rfl Z53 rfl (Nat.le_of_ble_eq_true rfl) rfl rfl rfl rfl ?_)))
 rintro S (h16 : Box (.ptr i2 0) [.lit (.int .i64 a0_0), .lit (.int .i64 a0_1), .lit (.int .i64 a0_2)] _) u7
 have h17 := u7.box h14 ap1
 have h18 := u7.box h13 ap3.symm
 refine Opl.nil ?_
 obtain rfl := Option.some.inj H
 refine Evr.retb (v := .agg [.lit (.int .i64 a0_0), .lit (.int .i64 a0_1), .lit (.int .i64 a0_2)]) Tryd.func24 rfl h16 rfl T53 rfl ?_
 show Out _ (.agg [.lit (.int .i64 a0_0), .lit (.int .i64 a0_1), .lit (.int .i64 a0_2)]) _
 exact (.agg3 .lit .lit .lit)
theorem laws_toVarS.ev {k : Nat} {l0 : List LVar} {v0 : PV} (hv0 : Sl cLVar l0 v0) {r : (List IVar)} (H : laws_toVarS.f k l0 = some r) : Ret Tryd.prog 14 [v0] fun v S => Vec cIVar r v S := by
 unfold laws_toVarS.f at H
 refine Ret.intro Tryd.func14 rfl (Nat.le_of_ble_eq_true rfl) rfl ?_
 rw [tm1]
 refine Evr.sr rfl (Opl.p1 (n := Opl.nil (Evr.sr rfl (Opl.p1 (n := Opl.len (xs := l0) (by exact hv0) K22 rfl rfl rfl rfl ?_)))))
 obtain ⟨c1, H⟩ := peel H
 obtain ⟨c2, H⟩ := peel H
 refine Opl.make (M := cIVar) (m := (l0.length : Int)) zIVar (by exact cIVar_z) rfl rfl K28 T53 rfl (by omega) (by show ((l0.length : Int)).toNat * 24 ≤ 281474976710656; omega) (by omega) rfl rfl rfl ?_
 rintro pv1 S h1 u1 w1
 refine Opl.p1 (n := Opl.nil (Evr.seq (Evr.sr rfl (Opl.p1 (n := Opl.nil (Evr.block ?_))))))
 refine Evr.loop (Evr.rounds (n := k) (Inv := fun n tm S => n ≤ k ∧ ∃ (x3_1 : List (IVar)) (x4_1 : Int) (pv2 : PV), laws_toVarS.l0 n l0 x3_1 x4_1 = some r ∧ Has tm [(0, v0), (3, pv2), (4, .lit (.int .i64 x4_1))] ∧ Vec cIVar x3_1 pv2 S) ?_ ?_ ?_)
 · exact ⟨Nat.le_refl _, _, _, _, H, ⟨rfl, rfl, rfl, trivial⟩, h1⟩
 ·
  rintro tm S ⟨_, _, _, _, H, -⟩
  simp [laws_toVarS.l0] at H
 ·
  rintro n1 ih1 tm S ⟨hle, x3_1, x4_1, pv2, H, hh, h2⟩
  simp only [laws_toVarS.l0] at H
  rw [hh.eq]
  refine Evr.seq (Evr.sr rfl (Opl.p1 (n := Opl.p1 (n := Opl.len (xs := l0) (by exact hv0) K22 rfl rfl rfl rfl (Opl.p1 (n := Opl.nil ?_))))))
  by_cases c3 : x4_1 < (l0.length : Int)
  case neg =>
   rw [if_neg c3] at H
   have e2 : (decide (x4_1 < (l0.length : Int))) = false := by simpa using c3
   try rw [e2]
   refine Evr.condF rfl (Evr.exit rfl (Evr.sr rfl (Opl.p1 (n := Opl.p1 (n := Opl.nil ?_)))))
   obtain rfl := Option.some.inj H
   refine Evr.ret1 Tryd.func14 rfl ?_
   show Vec _ _ pv2 _
   exact h2
  rw [if_pos c3] at H
  have e1 : (decide (x4_1 < (l0.length : Int))) = true := by simpa using c3
  try rw [e1]
  refine Evr.condT rfl (Evr.skip (Evr.seq (Evr.block (Evr.regionN rfl (Opl.p1 (n := Opl.p1 (n := Opl.p1 (n := Opl.p1 (n := ?_)))))))))
  obtain ⟨c4, H⟩ := peel H
  refine Opl.idx (M := cLVar) (xs := l0) (j := x4_1) zLVar (by exact hv0) rfl (by omega) (by omega) K22 Z55 rfl rfl ?_
  rintro p1 q1 h3
  obtain rfl := cLVar_R (x := (rd_LVar l0 x4_1)) h3
  refine Opl.lda (.agg [.lit (.int .i64 ((rd_LVar l0 x4_1).f0)), .lit (.int .i64 ((rd_LVar l0 x4_1).f1)), .lit (.int .i64 ((rd_LVar l0 x4_1).f2))]) rfl T55 rfl rfl rfl rfl ?_
  obtain ⟨bt197, h_bt197, H⟩ := Option.bind_eq_some_iff.1 H
  refine Opl.call (laws_toVar.ev h_bt197) rfl rfl rfl rfl ⟨(.aggL ⟨(.lit _), (.lit _), (.lit _), trivial⟩), trivial⟩ (by decide) ?_
  rintro _ ⟨_, _, _, rfl, rfl, rfl, rfl⟩
  obtain ⟨c5, H⟩ := peel H
  refine Opl.idv (M := cIVar) (xs := x3_1) (j := x4_1) (v := pv2) h2 rfl rfl (by omega) (by omega) K28 Z53 rfl rfl ?_
  rintro d1 z1 q2 h5 h6
  refine Opl.stv (M := cIVar) (xs := x3_1) (j := x4_1) (y := (⟨bt197.1, bt197.2.1, bt197.2.2⟩ : IVar)) (vs := [.lit (.int .i64 bt197.1), .lit (.int .i64 bt197.2.1), .lit (.int .i64 bt197.2.2)]) h5 h6 (by omega) (by omega) rfl rfl (by exact cIVar_mk) Z53 rfl rfl rfl rfl ?_
  rw [← q2]
  rintro S h7 u2
  refine Opl.nil (Evr.inBlock (Evr.regionN rfl (Opl.p1 (n := Opl.p1 (n := Opl.p1 (n := Opl.nil ?_))))))
  exact ih1 _ (by omega) _ _ ⟨by omega, _, _, _, H, ⟨rfl, rfl, rfl, trivial⟩, h7⟩
theorem laws_toSystem.ev {k : Nat} {l0_0 : List LVar} {v0_0 : PV} (hv0_0 : Sl cLVar l0_0 v0_0) {l0_1 : List LRule} {v0_1 : PV} (hv0_1 : Sl cLRule l0_1 v0_1) {r : (List IVar × List IRule)} (H : laws_toSystem.f k l0_0 l0_1 = some r) : Ret Tryd.prog 6 [.agg [v0_0, v0_1]] fun v S => Out (fun q => ∃ q1 q2, q = .agg [q1, q2] ∧ Sl cIVar r.1 q1 ∧ Sl cIRule r.2 q2) v S := by
 unfold laws_toSystem.f at H
 refine Ret.intro Tryd.func6 rfl (Nat.le_of_ble_eq_true rfl) rfl ?_
 rw [tm1]
 refine Evr.sr rfl (Opl.box (cs := [v0_0, v0_1]) rfl rfl rfl rfl ?_)
 rintro i1 S h1 u1 w1
 refine Opl.alloc T31 rfl rfl rfl ?_
 rintro i2 S h2 u2 w2
 have ap1 := w2.box h1
 have h3 := u2.box h1 ap1
 refine Opl.nil (Evr.sr rfl (Opl.alloc T31 rfl rfl rfl ?_))
 rintro i3 S h4 u3 w3
 have ap2 := w3.box h3
 have h5 := u3.box h3 ap2
 have ap3 := w3.box h2
 have h6 := u3.box h2 ap3
 refine Opl.nil (Evr.sr rfl (Opl.p1 (v := .ptr i1 0) (n := Opl.ldb (v := v0_0) h5 rfl T22 rfl rfl rfl rfl ?_)))
 obtain ⟨t255, h_t255, H⟩ := Option.bind_eq_some_iff.1 H
 refine Opl.call ((laws_toVarS.ev hv0_0 h_t255).mono fun _ _ h => Out.vec h) rfl rfl rfl rfl ⟨hv0_0.plain, trivial⟩ (by decide) ?_
 rintro pv1 h7
 refine Opl.p1 (v := .ptr i3 0) (n := Opl.stb (vs := [pv1]) h4 rfl (by exact h7.cells) Z28 rfl (Nat.le_of_ble_eq_true rfl) (by simp only [List.all_cons, List.all_nil, h7.one, Bool.and_true, Bool.true_and] <;> rfl) rfl rfl rfl ?_)
 rintro S (h8 : Box (.ptr i3 0) [pv1, .lit (.slice none 0 0)] _) u4
 have h9 := u4.box h5 ap2
 have h10 := u4.box h6 ap3
 refine Opl.nil (Evr.sr rfl (Opl.p1 (v := .ptr i1 1) (n := Opl.ldb (v := v0_1) h9 rfl T23 rfl rfl rfl rfl ?_)))
 obtain ⟨t258, h_t258, H⟩ := Option.bind_eq_some_iff.1 H
 refine Opl.call ((laws_toRuleS.ev hv0_1 h_t258).mono fun _ _ h => Out.vec h) rfl rfl rfl rfl ⟨hv0_1.plain, trivial⟩ (by decide) ?_
 rintro pv2 h11
 refine Opl.p1 (v := .ptr i3 1) (n := Opl.stb (vs := [pv2]) h8 rfl (by exact h11.cells) Z29 rfl (Nat.le_of_ble_eq_true rfl) (by simp only [List.all_cons, List.all_nil, h11.one, Bool.and_true, Bool.true_and] <;> rfl) rfl rfl rfl ?_)
 rintro S (h12 : Box (.ptr i3 0) [pv1, pv2] _) u5
 have h13 := u5.box h9 ap2
 have h14 := u5.box h10 ap3
 refine Opl.nil (Evr.sr rfl (Opl.ldb (v := .agg [pv1, pv2]) h12 rfl T31 rfl rfl rfl rfl (Opl.stb (vs := [pv1, pv2]) h14 rfl rfl Z31 rfl (Nat.le_of_ble_eq_true rfl) (by simp only [List.all_cons, List.all_nil, h7.one, h11.one, Bool.and_true, Bool.true_and] <;> rfl) rfl rfl rfl ?_)))
 rintro S (h15 : Box (.ptr i2 0) [pv1, pv2] _) u6
 have h16 := u6.box h13 ap1
 have h17 := u6.box h12 ap3.symm
 refine Opl.nil ?_
 obtain rfl := Option.some.inj H
 refine Evr.retb (v := .agg [pv1, pv2]) Tryd.func6 rfl h15 rfl T31 rfl ?_
 show Out _ (.agg [pv1, pv2]) _
 exact (.agg2 (.sl h7) (.sl h11))
end Go.Proofs.YtpbpmfckmgcdfaaDoor.PA
