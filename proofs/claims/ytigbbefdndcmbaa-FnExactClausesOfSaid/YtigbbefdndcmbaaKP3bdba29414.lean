/- Walks of Go functions: each is shown to answer as the Lean function beside it tells, under the conditions that its theorem names. -/
import Derived.Test.YtigbbefdndcmbaaProg
import Derived.KernelRfl
import Derived.Below
import Derived.Deep.Draws
import Derived.Deep.AppendLies
import Derived.Maps.AppendAt
import Derived.OwnWalk
import Derived.Laws.BytesArg
import Derived.Laws.MakeOwn
import Derived.Laws.OwnMore
import Derived.Deep.OwnRows
import Derived.Tactics
import Derived.Lib.ConvBytes
import Derived.Laws.Slices
import Derived.WalkKit
import Derived.RowKit3
import Derived.Deep.LoopGhost
import Derived.Deep.QuietTactic
import Derived.BigQuiet
import Derived.WideLaws
import Derived.Deep.DeepCutAuto
import Derived.Deep.CutBlock
import Derived.Deep.RegionHeld3
import Derived.Laws.Rows
import Derived.Lib.AppendStr
import Derived.ArgAppend
import Derived.Laws.IdiomCopy
import Derived.OrdersHeld
import Derived.Laws.BitsLemmas
import Derived.RowKit
import Derived.Laws.StructEq
import Derived.Lib.SliceRun
import Derived.WalkSpells
import Derived.ChangeArms
import Derived.ChangeSlices
import Derived.Deep.Slices
import Derived.Attr
import Derived.Laws.Append
import Derived.Laws.AppendOwn
import Derived.Laws.Entries
import Derived.Calls
import Derived.Laws.Sem
import Derived.Test.YtigbbefdndcmbaaKPb5e14ca6e9
namespace Go.Proofs.Ytigbbefdndcmbaa.PA
open Go Go.Abs Go.RowKit Go.Proofs Go.Proofs.YtigbbefdndcmbaaW.PrintWords Go.Proofs.YtigbbefdndcmbaaW.PrintLast Go.Proofs.YtigbbefdndcmbaaW.PrintMore
set_option maxRecDepth 100000
set_option maxHeartbeats 4000000
set_option linter.unusedVariables false
set_option linter.unusedSimpArgs false
theorem laws_eqAnd.ev {a0_0 : Int} {a0_1 : Int} {a1_0 : Int} {a1_1 : Int} {r : Bool} (H : laws_eqAnd.f a0_0 a0_1 a1_0 a1_1 = some r) : Ret Try.prog 83 [.agg [.lit (.int .i64 a0_0), .lit (.int .i64 a0_1)], .agg [.lit (.int .i64 a1_0), .lit (.int .i64 a1_1)]] fun v S => v = .lit (.bool r) := by
 unfold laws_eqAnd.f at H
 refine Ret.intro Try.func83 rfl (Nat.le_of_ble_eq_true rfl) rfl ?_
 rw [tm2]
 refine Evr.sr rfl (Opl.box (cs := [.lit (.int .i64 a0_0), .lit (.int .i64 a0_1)]) rfl rfl rfl rfl ?_)
 rintro i1 S h1 u1 w1
 refine Opl.box (cs := [.lit (.int .i64 a1_0), .lit (.int .i64 a1_1)]) rfl rfl rfl rfl ?_
 rintro i2 S h2 u2 w2
 have ap1 := w2.box h1
 have h3 := u2.box h1 ap1
 refine Opl.p1 (n := Opl.nil (Evr.seq (Evr.sr rfl (Opl.p1 (v := .ptr i1 0) (n := Opl.ldb (v := .lit (.int .i64 a0_0)) h3 rfl T3 rfl rfl rfl rfl (Opl.p1 (v := .ptr i2 0) (n := Opl.ldb (v := .lit (.int .i64 a1_0)) h2 rfl T3 rfl rfl rfl rfl (Opl.p1 (n := Opl.nil ?_)))))))))
 by_cases c1 : a0_0 = a1_0
 case neg =>
  rw [if_neg c1] at H
  have e4 : (a0_0 != a1_0) = true := by simpa using c1
  try rw [e4]
  refine Evr.condT rfl (Evr.sr rfl (Opl.p1 (n := Opl.nil ?_)))
  obtain rfl := Option.some.inj H
  refine Evr.ret1 Try.func83 rfl ?_
  show (.lit (.bool false) : PV) = _
  first | rfl | (simp only [go_sem]; rfl)
 rw [if_pos c1] at H
 have e1 : (a0_0 != a1_0) = false := by simpa using c1
 try rw [e1]
 refine Evr.condF rfl (Evr.skip (Evr.seq (Evr.sr rfl (Opl.p1 (v := .ptr i1 1) (n := Opl.ldb (v := .lit (.int .i64 a0_1)) h3 rfl T3 rfl rfl rfl rfl (Opl.p1 (v := .ptr i2 1) (n := Opl.ldb (v := .lit (.int .i64 a1_1)) h2 rfl T3 rfl rfl rfl rfl (Opl.p1 (n := Opl.nil ?_)))))))))
 by_cases c2 : a0_1 = a1_1
 case neg =>
  rw [if_neg c2] at H
  have e3 : (a0_1 != a1_1) = true := by simpa using c2
  try rw [e3]
  refine Evr.condT rfl (Evr.sr rfl (Opl.p1 (n := Opl.nil ?_)))
  obtain rfl := Option.some.inj H
  refine Evr.ret1 Try.func83 rfl ?_
  show (.lit (.bool false) : PV) = _
  first | rfl | (simp only [go_sem]; rfl)
 rw [if_pos c2] at H
 have e2 : (a0_1 != a1_1) = false := by simpa using c2
 try rw [e2]
 refine Evr.condF rfl (Evr.skip (Evr.sr rfl (Opl.p1 (n := Opl.nil ?_))))
 obtain rfl := Option.some.inj H
 refine Evr.ret1 Try.func83 rfl ?_
 show (.lit (.bool true) : PV) = _
 first | rfl | (simp only [go_sem]; rfl)
theorem laws_eqAndS.ev {k : Nat} {l0 : List IAnd} {v0 : PV} (hv0 : Sl cIAnd l0 v0) {l1 : List IAnd} {v1 : PV} (hv1 : Sl cIAnd l1 v1) {r : Bool} (H : laws_eqAndS.f k l0 l1 = some r) : Ret Try.prog 58 [v0, v1] fun v S => v = .lit (.bool r) := by
 unfold laws_eqAndS.f at H
 refine Ret.intro Try.func58 rfl (Nat.le_of_ble_eq_true rfl) rfl ?_
 rw [tm2]
 refine Evr.sr rfl (Opl.p1 (n := Opl.nil (Evr.seq (Evr.sr rfl (Opl.p1 (n := Opl.len (xs := l0) (by exact hv0) K40 rfl rfl rfl rfl (Opl.p1 (n := Opl.len (xs := l1) (by exact hv1) K40 rfl rfl rfl rfl (Opl.p1 (n := Opl.nil ?_))))))))))
 by_cases c1 : (l0.length : Int) = (l1.length : Int)
 case neg =>
  rw [if_neg c1] at H
  have e6 : ((l0.length : Int) != (l1.length : Int)) = true := by simpa using c1
  try rw [e6]
  refine Evr.condT rfl (Evr.sr rfl (Opl.p1 (n := Opl.nil ?_)))
  obtain rfl := Option.some.inj H
  refine Evr.ret1 Try.func58 rfl ?_
  show (.lit (.bool false) : PV) = _
  first | rfl | (simp only [go_sem]; rfl)
 rw [if_pos c1] at H
 have e1 : ((l0.length : Int) != (l1.length : Int)) = false := by simpa using c1
 try rw [e1]
 refine Evr.condF rfl (Evr.skip (Evr.seq (Evr.sr rfl (Opl.p1 (n := Opl.nil (Evr.block ?_))))))
 refine Evr.loop (Evr.rounds (n := k) (Inv := fun n tm S => n ≤ k ∧ ∃ (x5_1 : Int), laws_eqAndS.l0 n l0 l1 x5_1 = some r ∧ Has tm [(0, v0), (1, v1), (5, .lit (.int .i64 x5_1))]) ?_ ?_ ?_)
 · exact ⟨Nat.le_refl _, _, H, ⟨rfl, rfl, rfl, trivial⟩⟩
 ·
  rintro tm S ⟨_, _, H, -⟩
  simp [laws_eqAndS.l0] at H
 ·
  rintro n1 ih1 tm S ⟨hle, x5_1, H, hh⟩
  simp only [laws_eqAndS.l0] at H
  rw [hh.eq]
  refine Evr.seq (Evr.sr rfl (Opl.p1 (n := Opl.p1 (n := Opl.len (xs := l0) (by exact hv0) K40 rfl rfl rfl rfl (Opl.p1 (n := Opl.nil ?_))))))
  by_cases c2 : x5_1 < (l0.length : Int)
  case neg =>
   rw [if_neg c2] at H
   have e5 : (decide (x5_1 < (l0.length : Int))) = false := by simpa using c2
   try rw [e5]
   refine Evr.condF rfl (Evr.exit rfl (Evr.sr rfl (Opl.p1 (n := Opl.nil ?_))))
   obtain rfl := Option.some.inj H
   refine Evr.ret1 Try.func58 rfl ?_
   show (.lit (.bool true) : PV) = _
   first | rfl | (simp only [go_sem]; rfl)
  rw [if_pos c2] at H
  have e2 : (decide (x5_1 < (l0.length : Int))) = true := by simpa using c2
  try rw [e2]
  refine Evr.condT rfl (Evr.skip (Evr.seq (Evr.block (Evr.seq (Evr.regionD rfl (by kernel_rfl) (Opl.p1 (n := Opl.p1 (n := ?_))))))))
  obtain ⟨c3, H⟩ := peel H
  obtain ⟨c4, H⟩ := peel H
  refine Opl.idx (M := cIAnd) (xs := l0) (j := x5_1) zIAnd (by exact hv0) rfl (by omega) (by omega) K40 Z69 rfl rfl ?_
  rintro p1 q1 h1
  obtain rfl := cIAnd_R (x := (rd_IAnd l0 x5_1)) h1
  refine Opl.lda (.agg [.lit (.int .i64 ((rd_IAnd l0 x5_1).f0)), .lit (.int .i64 ((rd_IAnd l0 x5_1).f1))]) rfl T69 rfl rfl rfl rfl (Opl.p1 (n := Opl.p1 (n := Opl.idx (M := cIAnd) (xs := l1) (j := x5_1) zIAnd (by exact hv1) rfl (by omega) (by omega) K40 Z69 rfl rfl ?_)))
  rintro p2 q2 h2
  obtain rfl := cIAnd_R (x := (rd_IAnd l1 x5_1)) h2
  refine Opl.lda (.agg [.lit (.int .i64 ((rd_IAnd l1 x5_1).f0)), .lit (.int .i64 ((rd_IAnd l1 x5_1).f1))]) rfl T69 rfl rfl rfl rfl ?_
  obtain ⟨t453, h_t453, H⟩ := Option.bind_eq_some_iff.1 H
  refine Opl.callc (laws_eqAnd.ev h_t453) rfl rfl rfl rfl ⟨(.aggL ⟨(.lit _), (.lit _), trivial⟩), (.aggL ⟨(.lit _), (.lit _), trivial⟩), trivial⟩ (by decide) (Opl.p1 (n := Opl.nil ?_))
  by_cases c5 : t453 = true
  case pos =>
   rw [if_pos c5] at H
   have e3 : (!t453) = false := by simpa using c5
   try rw [e3]
   refine Evr.condF rfl (Evr.skip (Evr.inBlock (Evr.regionN rfl (Opl.p1 (n := Opl.p1 (n := Opl.p1 (n := Opl.nil ?_)))))))
   exact ih1 _ (by omega) _ _ ⟨by omega, _, H, ⟨rfl, rfl, rfl, trivial⟩⟩
  rw [if_neg c5] at H
  have e4 : (!t453) = true := by simpa using c5
  try rw [e4]
  refine Evr.condT rfl (Evr.sr rfl (Opl.p1 (n := Opl.nil ?_)))
  obtain rfl := Option.some.inj H
  refine Evr.ret1 Try.func58 rfl ?_
  show (.lit (.bool false) : PV) = _
  first | rfl | (simp only [go_sem]; rfl)
theorem laws_eqCircuit.ev {k : Nat} {a0_0 : Int} {l0_1 : List IAnd} {v0_1 : PV} (hv0_1 : Sl cIAnd l0_1 v0_1) {a1_0 : Int} {l1_1 : List IAnd} {v1_1 : PV} (hv1_1 : Sl cIAnd l1_1 v1_1) {r : Bool} (H : laws_eqCircuit.f k a0_0 l0_1 a1_0 l1_1 = some r) : Ret Try.prog 20 [.agg [.lit (.int .i64 a0_0), v0_1], .agg [.lit (.int .i64 a1_0), v1_1]] fun v S => v = .lit (.bool r) := by
 unfold laws_eqCircuit.f at H
 refine Ret.intro Try.func20 rfl (Nat.le_of_ble_eq_true rfl) rfl ?_
 rw [tm2]
 refine Evr.sr rfl (Opl.box (cs := [.lit (.int .i64 a0_0), v0_1]) rfl rfl rfl rfl ?_)
 rintro i1 S h1 u1 w1
 refine Opl.box (cs := [.lit (.int .i64 a1_0), v1_1]) rfl rfl rfl rfl ?_
 rintro i2 S h2 u2 w2
 have ap1 := w2.box h1
 have h3 := u2.box h1 ap1
 refine Opl.p1 (n := Opl.nil (Evr.seq (Evr.sr rfl (Opl.p1 (v := .ptr i1 0) (n := Opl.ldb (v := .lit (.int .i64 a0_0)) h3 rfl T3 rfl rfl rfl rfl (Opl.p1 (v := .ptr i2 0) (n := Opl.ldb (v := .lit (.int .i64 a1_0)) h2 rfl T3 rfl rfl rfl rfl (Opl.p1 (n := Opl.nil ?_)))))))))
 by_cases c1 : a0_0 = a1_0
 case neg =>
  rw [if_neg c1] at H
  have e4 : (a0_0 != a1_0) = true := by simpa using c1
  try rw [e4]
  refine Evr.condT rfl (Evr.sr rfl (Opl.p1 (n := Opl.nil ?_)))
  obtain rfl := Option.some.inj H
  refine Evr.ret1 Try.func20 rfl ?_
  show (.lit (.bool false) : PV) = _
  first | rfl | (simp only [go_sem]; rfl)
 rw [if_pos c1] at H
 have e1 : (a0_0 != a1_0) = false := by simpa using c1
 try rw [e1]
 refine Evr.condF rfl (Evr.skip (Evr.seq (Evr.sr rfl (Opl.p1 (v := .ptr i1 1) (n := Opl.ldb (v := v0_1) h3 rfl T40 rfl rfl rfl rfl (Opl.p1 (v := .ptr i2 1) (n := Opl.ldb (v := v1_1) h2 rfl T40 rfl rfl rfl rfl ?_)))))))
 obtain ⟨t456, h_t456, H⟩ := Option.bind_eq_some_iff.1 H
 refine Opl.callc (laws_eqAndS.ev hv0_1 hv1_1 h_t456) rfl rfl rfl rfl ⟨hv0_1.plain, hv1_1.plain, trivial⟩ (by decide) (Opl.p1 (n := Opl.nil ?_))
 by_cases c2 : t456 = true
 case neg =>
  rw [if_neg c2] at H
  have e3 : (!t456) = true := by simpa using c2
  try rw [e3]
  refine Evr.condT rfl (Evr.sr rfl (Opl.p1 (n := Opl.nil ?_)))
  obtain rfl := Option.some.inj H
  refine Evr.ret1 Try.func20 rfl ?_
  show (.lit (.bool false) : PV) = _
  first | rfl | (simp only [go_sem]; rfl)
 rw [if_pos c2] at H
 have e2 : (!t456) = false := by simpa using c2
 try rw [e2]
 refine Evr.condF rfl (Evr.skip (Evr.sr rfl (Opl.p1 (n := Opl.nil ?_))))
 obtain rfl := Option.some.inj H
 refine Evr.ret1 Try.func20 rfl ?_
 show (.lit (.bool true) : PV) = _
 first | rfl | (simp only [go_sem]; rfl)
theorem laws_eqIntS.ev {k : Nat} {l0 : List Int} {v0 : PV} (hv0 : Sl (cInt .i64) l0 v0) {l1 : List Int} {v1 : PV} (hv1 : Sl (cInt .i64) l1 v1) {r : Bool} (H : laws_eqIntS.f k l0 l1 = some r) : Ret Try.prog 10 [v0, v1] fun v S => v = .lit (.bool r) := by
 unfold laws_eqIntS.f at H
 refine Ret.intro Try.func10 rfl (Nat.le_of_ble_eq_true rfl) rfl ?_
 rw [tm2]
 refine Evr.sr rfl (Opl.p1 (n := Opl.nil (Evr.seq (Evr.sr rfl (Opl.p1 (n := Opl.len (xs := l0) (by exact hv0) K22 rfl rfl rfl rfl (Opl.p1 (n := Opl.len (xs := l1) (by exact hv1) K22 rfl rfl rfl rfl (Opl.p1 (n := Opl.nil ?_))))))))))
 by_cases c1 : (l0.length : Int) = (l1.length : Int)
 case neg =>
  rw [if_neg c1] at H
  have e6 : ((l0.length : Int) != (l1.length : Int)) = true := by simpa using c1
  try rw [e6]
  refine Evr.condT rfl (Evr.sr rfl (Opl.p1 (n := Opl.nil ?_)))
  obtain rfl := Option.some.inj H
  refine Evr.ret1 Try.func10 rfl ?_
  show (.lit (.bool false) : PV) = _
  first | rfl | (simp only [go_sem]; rfl)
 rw [if_pos c1] at H
 have e1 : ((l0.length : Int) != (l1.length : Int)) = false := by simpa using c1
 try rw [e1]
 refine Evr.condF rfl (Evr.skip (Evr.seq (Evr.sr rfl (Opl.p1 (n := Opl.nil (Evr.block ?_))))))
 refine Evr.loop (Evr.rounds (n := k) (Inv := fun n tm S => n ≤ k ∧ ∃ (x5_1 : Int), laws_eqIntS.l0 n l0 l1 x5_1 = some r ∧ Has tm [(0, v0), (1, v1), (5, .lit (.int .i64 x5_1))]) ?_ ?_ ?_)
 · exact ⟨Nat.le_refl _, _, H, ⟨rfl, rfl, rfl, trivial⟩⟩
 ·
  rintro tm S ⟨_, _, H, -⟩
  simp [laws_eqIntS.l0] at H
 ·
  rintro n1 ih1 tm S ⟨hle, x5_1, H, hh⟩
  simp only [laws_eqIntS.l0] at H
  rw [hh.eq]
  refine Evr.seq (Evr.sr rfl (Opl.p1 (n := Opl.p1 (n := Opl.len (xs := l0) (by exact hv0) K22 rfl rfl rfl rfl (Opl.p1 (n := Opl.nil ?_))))))
  by_cases c2 : x5_1 < (l0.length : Int)
  case neg =>
   rw [if_neg c2] at H
   have e5 : (decide (x5_1 < (l0.length : Int))) = false := by simpa using c2
   try rw [e5]
   refine Evr.condF rfl (Evr.exit rfl (Evr.sr rfl (Opl.p1 (n := Opl.nil ?_))))
   obtain rfl := Option.some.inj H
   refine Evr.ret1 Try.func10 rfl ?_
   show (.lit (.bool true) : PV) = _
   first | rfl | (simp only [go_sem]; rfl)
  rw [if_pos c2] at H
  have e2 : (decide (x5_1 < (l0.length : Int))) = true := by simpa using c2
  try rw [e2]
  refine Evr.condT rfl (Evr.skip (Evr.seq (Evr.block (Evr.seq (Evr.regionD rfl (by kernel_rfl) (Opl.p1 (n := Opl.p1 (n := ?_))))))))
  obtain ⟨c3, H⟩ := peel H
  obtain ⟨c4, H⟩ := peel H
  refine Opl.idx (M := (cInt .i64)) (xs := l0) (j := x5_1) (0 : Int) (by exact hv0) rfl (by omega) (by omega) K22 Z3 rfl rfl ?_
  rintro p1 q1 h1
  obtain rfl : p1 = [.lit (.int .i64 (rd l0 x5_1))] := h1
  refine Opl.lda (.lit (.int .i64 (rd l0 x5_1))) rfl T3 rfl rfl rfl rfl (Opl.p1 (n := Opl.p1 (n := Opl.idx (M := (cInt .i64)) (xs := l1) (j := x5_1) (0 : Int) (by exact hv1) rfl (by omega) (by omega) K22 Z3 rfl rfl ?_)))
  rintro p2 q2 h2
  obtain rfl : p2 = [.lit (.int .i64 (rd l1 x5_1))] := h2
  refine Opl.lda (.lit (.int .i64 (rd l1 x5_1))) rfl T3 rfl rfl rfl rfl (Opl.p1 (n := Opl.nil ?_))
  by_cases c5 : (rd l0 x5_1) = (rd l1 x5_1)
  case pos =>
   rw [if_pos c5] at H
   have e3 : ((rd l0 x5_1) != (rd l1 x5_1)) = false := by simpa using c5
   try rw [e3]
   refine Evr.condF rfl (Evr.skip (Evr.inBlock (Evr.regionN rfl (Opl.p1 (n := Opl.p1 (n := Opl.p1 (n := Opl.nil ?_)))))))
   exact ih1 _ (by omega) _ _ ⟨by omega, _, H, ⟨rfl, rfl, rfl, trivial⟩⟩
  rw [if_neg c5] at H
  have e4 : ((rd l0 x5_1) != (rd l1 x5_1)) = true := by simpa using c5
  try rw [e4]
  refine Evr.condT rfl (Evr.sr rfl (Opl.p1 (n := Opl.nil ?_)))
  obtain rfl := Option.some.inj H
  refine Evr.ret1 Try.func10 rfl ?_
  show (.lit (.bool false) : PV) = _
  first | rfl | (simp only [go_sem]; rfl)
theorem laws_eqIntSS.ev {k : Nat} {l0 : List (List Int)} {v0 : PV} (hv0 : Sl (cSl (cInt .i64)) l0 v0) {l1 : List (List Int)} {v1 : PV} (hv1 : Sl (cSl (cInt .i64)) l1 v1) {r : Bool} (H : laws_eqIntSS.f k l0 l1 = some r) : Ret Try.prog 57 [v0, v1] fun v S => v = .lit (.bool r) := by
 unfold laws_eqIntSS.f at H
 refine Ret.intro Try.func57 rfl (Nat.le_of_ble_eq_true rfl) rfl ?_
 rw [tm2]
 refine Evr.sr rfl (Opl.p1 (n := Opl.nil (Evr.seq (Evr.sr rfl (Opl.p1 (n := Opl.len (xs := l0) (by exact hv0) K35 rfl rfl rfl rfl (Opl.p1 (n := Opl.len (xs := l1) (by exact hv1) K35 rfl rfl rfl rfl (Opl.p1 (n := Opl.nil ?_))))))))))
 by_cases c1 : (l0.length : Int) = (l1.length : Int)
 case neg =>
  rw [if_neg c1] at H
  have e6 : ((l0.length : Int) != (l1.length : Int)) = true := by simpa using c1
  try rw [e6]
  refine Evr.condT rfl (Evr.sr rfl (Opl.p1 (n := Opl.nil ?_)))
  obtain rfl := Option.some.inj H
  refine Evr.ret1 Try.func57 rfl ?_
  show (.lit (.bool false) : PV) = _
  first | rfl | (simp only [go_sem]; rfl)
 rw [if_pos c1] at H
 have e1 : ((l0.length : Int) != (l1.length : Int)) = false := by simpa using c1
 try rw [e1]
 refine Evr.condF rfl (Evr.skip (Evr.seq (Evr.sr rfl (Opl.p1 (n := Opl.nil (Evr.block ?_))))))
 refine Evr.loop (Evr.rounds (n := k) (Inv := fun n tm S => n ≤ k ∧ ∃ (x5_1 : Int), laws_eqIntSS.l0 n l0 l1 x5_1 = some r ∧ Has tm [(0, v0), (1, v1), (5, .lit (.int .i64 x5_1))]) ?_ ?_ ?_)
 · exact ⟨Nat.le_refl _, _, H, ⟨rfl, rfl, rfl, trivial⟩⟩
 ·
  rintro tm S ⟨_, _, H, -⟩
  simp [laws_eqIntSS.l0] at H
 ·
  rintro n1 ih1 tm S ⟨hle, x5_1, H, hh⟩
  simp only [laws_eqIntSS.l0] at H
  rw [hh.eq]
  refine Evr.seq (Evr.sr rfl (Opl.p1 (n := Opl.p1 (n := Opl.len (xs := l0) (by exact hv0) K35 rfl rfl rfl rfl (Opl.p1 (n := Opl.nil ?_))))))
  by_cases c2 : x5_1 < (l0.length : Int)
  case neg =>
   rw [if_neg c2] at H
   have e5 : (decide (x5_1 < (l0.length : Int))) = false := by simpa using c2
   try rw [e5]
   refine Evr.condF rfl (Evr.exit rfl (Evr.sr rfl (Opl.p1 (n := Opl.nil ?_))))
   obtain rfl := Option.some.inj H
   refine Evr.ret1 Try.func57 rfl ?_
   show (.lit (.bool true) : PV) = _
   first | rfl | (simp only [go_sem]; rfl)
  rw [if_pos c2] at H
  have e2 : (decide (x5_1 < (l0.length : Int))) = true := by simpa using c2
  try rw [e2]
  refine Evr.condT rfl (Evr.skip (Evr.seq (Evr.block (Evr.seq (Evr.regionD rfl (by kernel_rfl) (Opl.p1 (n := Opl.p1 (n := ?_))))))))
  obtain ⟨c3, H⟩ := peel H
  obtain ⟨c4, H⟩ := peel H
  refine Opl.idx (M := (cSl (cInt .i64))) (xs := l0) (j := x5_1) ([] : List Int) (by exact hv0) rfl (by omega) (by omega) K35 Z22 rfl rfl ?_
  rintro p1 q1 h1
  obtain ⟨pv1, rfl, h2⟩ := h1
  refine Opl.lda (pv1) rfl T22 rfl rfl rfl rfl (Opl.p1 (n := Opl.p1 (n := Opl.idx (M := (cSl (cInt .i64))) (xs := l1) (j := x5_1) ([] : List Int) (by exact hv1) rfl (by omega) (by omega) K35 Z22 rfl rfl ?_)))
  rintro p2 q2 h3
  obtain ⟨pv2, rfl, h4⟩ := h3
  refine Opl.lda (pv2) rfl T22 rfl rfl rfl rfl ?_
  obtain ⟨t445, h_t445, H⟩ := Option.bind_eq_some_iff.1 H
  refine Opl.callc (laws_eqIntS.ev h2 h4 h_t445) rfl rfl rfl rfl ⟨h2.plain, h4.plain, trivial⟩ (by decide) (Opl.p1 (n := Opl.nil ?_))
  by_cases c5 : t445 = true
  case pos =>
   rw [if_pos c5] at H
   have e3 : (!t445) = false := by simpa using c5
   try rw [e3]
   refine Evr.condF rfl (Evr.skip (Evr.inBlock (Evr.regionN rfl (Opl.p1 (n := Opl.p1 (n := Opl.p1 (n := Opl.nil ?_)))))))
   exact ih1 _ (by omega) _ _ ⟨by omega, _, H, ⟨rfl, rfl, rfl, trivial⟩⟩
  rw [if_neg c5] at H
  have e4 : (!t445) = true := by simpa using c5
  try rw [e4]
  refine Evr.condT rfl (Evr.sr rfl (Opl.p1 (n := Opl.nil ?_)))
  obtain rfl := Option.some.inj H
  refine Evr.ret1 Try.func57 rfl ?_
  show (.lit (.bool false) : PV) = _
  first | rfl | (simp only [go_sem]; rfl)
theorem laws_eqClauses.ev {k : Nat} {a0_0 : Int} {l0_1 : List (List Int)} {v0_1 : PV} (hv0_1 : Sl (cSl (cInt .i64)) l0_1 v0_1) {a1_0 : Int} {l1_1 : List (List Int)} {v1_1 : PV} (hv1_1 : Sl (cSl (cInt .i64)) l1_1 v1_1) {r : Bool} (H : laws_eqClauses.f k a0_0 l0_1 a1_0 l1_1 = some r) : Ret Try.prog 19 [.agg [.lit (.int .i64 a0_0), v0_1], .agg [.lit (.int .i64 a1_0), v1_1]] fun v S => v = .lit (.bool r) := by
 unfold laws_eqClauses.f at H
 refine Ret.intro Try.func19 rfl (Nat.le_of_ble_eq_true rfl) rfl ?_
 rw [tm2]
 refine Evr.sr rfl (Opl.box (cs := [.lit (.int .i64 a0_0), v0_1]) rfl rfl rfl rfl ?_)
 rintro i1 S h1 u1 w1
 refine Opl.box (cs := [.lit (.int .i64 a1_0), v1_1]) rfl rfl rfl rfl ?_
 rintro i2 S h2 u2 w2
 have ap1 := w2.box h1
 have h3 := u2.box h1 ap1
 refine Opl.p1 (n := Opl.nil (Evr.seq (Evr.sr rfl (Opl.p1 (v := .ptr i1 0) (n := Opl.ldb (v := .lit (.int .i64 a0_0)) h3 rfl T3 rfl rfl rfl rfl (Opl.p1 (v := .ptr i2 0) (n := Opl.ldb (v := .lit (.int .i64 a1_0)) h2 rfl T3 rfl rfl rfl rfl (Opl.p1 (n := Opl.nil ?_)))))))))
 by_cases c1 : a0_0 = a1_0
 case neg =>
  rw [if_neg c1] at H
  have e4 : (a0_0 != a1_0) = true := by simpa using c1
  try rw [e4]
  refine Evr.condT rfl (Evr.sr rfl (Opl.p1 (n := Opl.nil ?_)))
  obtain rfl := Option.some.inj H
  refine Evr.ret1 Try.func19 rfl ?_
  show (.lit (.bool false) : PV) = _
  first | rfl | (simp only [go_sem]; rfl)
 rw [if_pos c1] at H
 have e1 : (a0_0 != a1_0) = false := by simpa using c1
 try rw [e1]
 refine Evr.condF rfl (Evr.skip (Evr.seq (Evr.sr rfl (Opl.p1 (v := .ptr i1 1) (n := Opl.ldb (v := v0_1) h3 rfl T35 rfl rfl rfl rfl (Opl.p1 (v := .ptr i2 1) (n := Opl.ldb (v := v1_1) h2 rfl T35 rfl rfl rfl rfl ?_)))))))
 obtain ⟨t448, h_t448, H⟩ := Option.bind_eq_some_iff.1 H
 refine Opl.callc (laws_eqIntSS.ev hv0_1 hv1_1 h_t448) rfl rfl rfl rfl ⟨hv0_1.plain, hv1_1.plain, trivial⟩ (by decide) (Opl.p1 (n := Opl.nil ?_))
 by_cases c2 : t448 = true
 case neg =>
  rw [if_neg c2] at H
  have e3 : (!t448) = true := by simpa using c2
  try rw [e3]
  refine Evr.condT rfl (Evr.sr rfl (Opl.p1 (n := Opl.nil ?_)))
  obtain rfl := Option.some.inj H
  refine Evr.ret1 Try.func19 rfl ?_
  show (.lit (.bool false) : PV) = _
  first | rfl | (simp only [go_sem]; rfl)
 rw [if_pos c2] at H
 have e2 : (!t448) = false := by simpa using c2
 try rw [e2]
 refine Evr.condF rfl (Evr.skip (Evr.sr rfl (Opl.p1 (n := Opl.nil ?_))))
 obtain rfl := Option.some.inj H
 refine Evr.ret1 Try.func19 rfl ?_
 show (.lit (.bool true) : PV) = _
 first | rfl | (simp only [go_sem]; rfl)
theorem laws_heldIntS.ev {k : Nat} {l0 : List Int} {v0 : PV} (hv0 : Sl (cInt .i64) l0 v0) {a1 : Int} {r : Int} (H : laws_heldIntS.f k l0 a1 = some r) : Ret Try.prog 12 [v0, .lit (.int .i64 a1)] fun v S => v = .lit (.int .i64 r) := by
 unfold laws_heldIntS.f at H
 refine Ret.intro Try.func12 rfl (Nat.le_of_ble_eq_true rfl) rfl ?_
 rw [tm2]
 refine Evr.sr rfl (Opl.p1 (n := Opl.nil (Evr.seq (Evr.sr rfl (Opl.p1 (n := Opl.nil (Evr.block ?_)))))))
 refine Evr.loop (Evr.rounds (n := k) (Inv := fun n tm S => n ≤ k ∧ ∃ (x1_1 : Int) (x5_1 : Int), laws_heldIntS.l0 n l0 x1_1 x5_1 = some r ∧ Has tm [(0, v0), (1, .lit (.int .i64 x1_1)), (5, .lit (.int .i64 x5_1))]) ?_ ?_ ?_)
 · exact ⟨Nat.le_refl _, _, _, H, ⟨rfl, rfl, rfl, trivial⟩⟩
 ·
  rintro tm S ⟨_, _, _, H, -⟩
  simp [laws_heldIntS.l0] at H
 ·
  rintro n1 ih1 tm S ⟨hle, x1_1, x5_1, H, hh⟩
  simp only [laws_heldIntS.l0] at H
  rw [hh.eq]
  refine Evr.seq (Evr.sr rfl (Opl.p1 (n := Opl.p1 (n := Opl.len (xs := l0) (by exact hv0) K22 rfl rfl rfl rfl (Opl.p1 (n := Opl.nil ?_))))))
  by_cases c1 : x5_1 < (l0.length : Int)
  case neg =>
   rw [if_neg c1] at H
   have e4 : (decide (x5_1 < (l0.length : Int))) = false := by simpa using c1
   try rw [e4]
   refine Evr.condF rfl (Evr.exit rfl (Evr.sr rfl (Opl.p1 (n := Opl.p1 (n := Opl.nil ?_)))))
   obtain rfl := Option.some.inj H
   refine Evr.ret1 Try.func12 rfl ?_
   show (.lit (.int .i64 x1_1) : PV) = _
   first | rfl | (simp only [go_sem]; rfl)
  rw [if_pos c1] at H
  have e1 : (decide (x5_1 < (l0.length : Int))) = true := by simpa using c1
  try rw [e1]
  refine Evr.condT rfl (Evr.skip (Evr.seq (Evr.block (Evr.seq (Evr.sr rfl (Opl.p1 (n := Opl.p1 (n := ?_))))))))
  obtain ⟨c2, H⟩ := peel H
  refine Opl.idx (M := (cInt .i64)) (xs := l0) (j := x5_1) (0 : Int) (by exact hv0) rfl (by omega) (by omega) K22 Z3 rfl rfl ?_
  rintro p1 q1 h1
  obtain rfl : p1 = [.lit (.int .i64 (rd l0 x5_1))] := h1
  refine Opl.lda (.lit (.int .i64 (rd l0 x5_1))) rfl T3 rfl rfl rfl rfl (Opl.p1 (n := Opl.p1 (n := Opl.nil ?_)))
  by_cases c3 : (rd l0 x5_1) = x1_1
  case neg =>
   rw [if_neg c3] at H
   have e3 : ((rd l0 x5_1) != x1_1) = true := by simpa using c3
   try rw [e3]
   refine Evr.condT rfl (Evr.sr rfl (Opl.p1 (n := Opl.nil ?_)))
   obtain rfl := Option.some.inj H
   refine Evr.ret1 Try.func12 rfl ?_
   show (.lit (.int .i64 (-1)) : PV) = _
   first | rfl | (simp only [go_sem]; rfl)
  rw [if_pos c3] at H
  have e2 : ((rd l0 x5_1) != x1_1) = false := by simpa using c3
  try rw [e2]
  refine Evr.condF rfl (Evr.skip (Evr.regionN rfl (Opl.p1 (n := Opl.p1 (n := Opl.p1 (n := Opl.nil (Evr.inBlock (Evr.regionN rfl (Opl.p1 (n := Opl.p1 (n := Opl.p1 (n := Opl.nil ?_))))))))))))
  exact ih1 _ (by omega) _ _ ⟨by omega, _, _, H, ⟨rfl, rfl, rfl, trivial⟩⟩
theorem laws_heldIntSS.ev {k : Nat} {l0 : List (List Int)} {v0 : PV} (hv0 : Sl (cSl (cInt .i64)) l0 v0) {a1 : Int} {r : Int} (H : laws_heldIntSS.f k l0 a1 = some r) : Ret Try.prog 61 [v0, .lit (.int .i64 a1)] fun v S => v = .lit (.int .i64 r) := by
 unfold laws_heldIntSS.f at H
 refine Ret.intro Try.func61 rfl (Nat.le_of_ble_eq_true rfl) rfl ?_
 rw [tm2]
 refine Evr.sr rfl (Opl.p1 (n := Opl.nil (Evr.seq (Evr.sr rfl (Opl.p1 (n := Opl.nil (Evr.block ?_)))))))
 refine Evr.loop (Evr.rounds (n := k) (Inv := fun n tm S => n ≤ k ∧ ∃ (x1_1 : Int) (x5_1 : Int), laws_heldIntSS.l0 n l0 x1_1 x5_1 = some r ∧ Has tm [(0, v0), (1, .lit (.int .i64 x1_1)), (5, .lit (.int .i64 x5_1))]) ?_ ?_ ?_)
 · exact ⟨Nat.le_refl _, _, _, H, ⟨rfl, rfl, rfl, trivial⟩⟩
 ·
  rintro tm S ⟨_, _, _, H, -⟩
  simp [laws_heldIntSS.l0] at H
 ·
  rintro n1 ih1 tm S ⟨hle, x1_1, x5_1, H, hh⟩
  simp only [laws_heldIntSS.l0] at H
  rw [hh.eq]
  refine Evr.seq (Evr.sr rfl (Opl.p1 (n := Opl.p1 (n := Opl.len (xs := l0) (by exact hv0) K35 rfl rfl rfl rfl (Opl.p1 (n := Opl.nil ?_))))))
  by_cases c1 : x5_1 < (l0.length : Int)
  case neg =>
   rw [if_neg c1] at H
   have e4 : (decide (x5_1 < (l0.length : Int))) = false := by simpa using c1
   try rw [e4]
   refine Evr.condF rfl (Evr.exit rfl (Evr.sr rfl (Opl.p1 (n := Opl.p1 (n := Opl.nil ?_)))))
   obtain rfl := Option.some.inj H
   refine Evr.ret1 Try.func61 rfl ?_
   show (.lit (.int .i64 x1_1) : PV) = _
   first | rfl | (simp only [go_sem]; rfl)
  rw [if_pos c1] at H
  have e1 : (decide (x5_1 < (l0.length : Int))) = true := by simpa using c1
  try rw [e1]
  refine Evr.condT rfl (Evr.skip (Evr.seq (Evr.block (Evr.sr rfl (Opl.p1 (n := Opl.p1 (n := ?_)))))))
  obtain ⟨c2, H⟩ := peel H
  refine Opl.idx (M := (cSl (cInt .i64))) (xs := l0) (j := x5_1) ([] : List Int) (by exact hv0) rfl (by omega) (by omega) K35 Z22 rfl rfl ?_
  rintro p1 q1 h1
  obtain ⟨pv1, rfl, h2⟩ := h1
  refine Opl.lda (pv1) rfl T22 rfl rfl rfl rfl (Opl.p1 (n := ?_))
  obtain ⟨t464, h_t464, H⟩ := Option.bind_eq_some_iff.1 H
  refine Opl.callc (laws_heldIntS.ev h2 h_t464) rfl rfl rfl rfl ⟨h2.plain, (.lit _), trivial⟩ (by decide) (Opl.p1 (n := Opl.nil (Evr.sr rfl (Opl.p1 (n := Opl.p1 (n := Opl.nil ?_))))))
  by_cases c3 : t464 < 0
  case neg =>
   rw [if_neg c3] at H
   have e3 : (decide (t464 < 0)) = false := by simpa using c3
   try rw [e3]
   refine Evr.condF rfl (Evr.skip (Evr.inBlock (Evr.regionN rfl (Opl.p1 (n := Opl.p1 (n := Opl.p1 (n := Opl.nil ?_)))))))
   exact ih1 _ (by omega) _ _ ⟨by omega, _, _, H, ⟨rfl, rfl, rfl, trivial⟩⟩
  rw [if_pos c3] at H
  have e2 : (decide (t464 < 0)) = true := by simpa using c3
  try rw [e2]
  refine Evr.condT rfl (Evr.sr rfl (Opl.p1 (n := Opl.nil ?_)))
  obtain rfl := Option.some.inj H
  refine Evr.ret1 Try.func61 rfl ?_
  show (.lit (.int .i64 (-1)) : PV) = _
  first | rfl | (simp only [go_sem]; rfl)
theorem laws_heldClauses.ev {k : Nat} {a0_0 : Int} {l0_1 : List (List Int)} {v0_1 : PV} (hv0_1 : Sl (cSl (cInt .i64)) l0_1 v0_1) {a1 : Int} {r : Int} (H : laws_heldClauses.f k a0_0 l0_1 a1 = some r) : Ret Try.prog 23 [.agg [.lit (.int .i64 a0_0), v0_1], .lit (.int .i64 a1)] fun v S => v = .lit (.int .i64 r) := by
 unfold laws_heldClauses.f at H
 refine Ret.intro Try.func23 rfl (Nat.le_of_ble_eq_true rfl) rfl ?_
 rw [tm2]
 refine Evr.sr rfl (Opl.box (cs := [.lit (.int .i64 a0_0), v0_1]) rfl rfl rfl rfl ?_)
 rintro i1 S h1 u1 w1
 refine Opl.p1 (n := Opl.nil (Evr.sr rfl (Opl.p1 (v := .ptr i1 1) (n := Opl.ldb (v := v0_1) h1 rfl T35 rfl rfl rfl rfl (Opl.p1 (n := ?_))))))
 obtain ⟨t466, h_t466, H⟩ := Option.bind_eq_some_iff.1 H
 refine Opl.callc (laws_heldIntSS.ev hv0_1 h_t466) rfl rfl rfl rfl ⟨hv0_1.plain, (.lit _), trivial⟩ (by decide) (Opl.p1 (n := Opl.nil (Evr.seq (Evr.sr rfl (Opl.p1 (n := Opl.p1 (n := Opl.nil ?_)))))))
 by_cases c1 : t466 < 0
 case pos =>
  rw [if_pos c1] at H
  have e1 : (decide (t466 < 0)) = true := by simpa using c1
  try rw [e1]
  refine Evr.condT rfl (Evr.sr rfl (Opl.p1 (n := Opl.nil ?_)))
  obtain rfl := Option.some.inj H
  refine Evr.ret1 Try.func23 rfl ?_
  show (.lit (.int .i64 (-1)) : PV) = _
  first | rfl | (simp only [go_sem]; rfl)
 rw [if_neg c1] at H
 have e2 : (decide (t466 < 0)) = false := by simpa using c1
 try rw [e2]
 refine Evr.condF rfl (Evr.skip (Evr.sr rfl (Opl.p1 (n := Opl.p1 (n := Opl.nil ?_)))))
 obtain rfl := Option.some.inj H
 refine Evr.ret1 Try.func23 rfl ?_
 show (.lit (.int .i64 t466) : PV) = _
 first | rfl | (simp only [go_sem]; rfl)
theorem laws_szAndS.ev {l0 : List LAnd} {v0 : PV} (hv0 : Sl cLAnd l0 v0) {a1 : Int} {r : Int} (H : laws_szAndS.f l0 a1 = some r) : Ret Try.prog 44 [v0, .lit (.int .i64 a1)] fun v S => v = .lit (.int .i64 r) := by
 unfold laws_szAndS.f at H
 refine Ret.intro Try.func44 rfl (Nat.le_of_ble_eq_true rfl) rfl ?_
 rw [tm2]
 refine Evr.sr rfl (Opl.p1 (n := Opl.nil (Evr.sr rfl (Opl.p1 (n := Opl.p1 (n := Opl.len (xs := l0) (by exact hv0) K31 rfl rfl rfl rfl (Opl.p1 (n := Opl.p1 (n := Opl.nil (Evr.seq (Evr.sr rfl (Opl.p1 (n := Opl.lss (a := (wrap64 (a1 - (l0.length : Int)))) (b := 0) K3 rfl rfl rfl rfl (Opl.nil ?_))))))))))))))
 by_cases c1 : (wrap64 (a1 - (l0.length : Int))) < 0
 case pos =>
  rw [if_pos c1] at H
  have e1 : (decide ((wrap64 (a1 - (l0.length : Int))) < 0)) = true := by simpa using c1
  try rw [e1]
  refine Evr.condT rfl (Evr.sr rfl (Opl.p1 (n := Opl.nil ?_)))
  obtain rfl := Option.some.inj H
  refine Evr.ret1 Try.func44 rfl ?_
  show (.lit (.int .i64 (-1)) : PV) = _
  first | rfl | (simp only [go_sem]; rfl)
 rw [if_neg c1] at H
 have e2 : (decide ((wrap64 (a1 - (l0.length : Int))) < 0)) = false := by simpa using c1
 try rw [e2]
 refine Evr.condF rfl (Evr.skip (Evr.sr rfl (Opl.p1 (n := Opl.p1 (n := Opl.nil ?_)))))
 obtain rfl := Option.some.inj H
 refine Evr.ret1 Try.func44 rfl ?_
 show (.lit (.int .i64 (wrap64 (a1 - (l0.length : Int)))) : PV) = _
 first | rfl | (simp only [go_sem]; rfl)
theorem laws_szCircuit.ev {a0_0 : Int} {l0_1 : List LAnd} {v0_1 : PV} (hv0_1 : Sl cLAnd l0_1 v0_1) {a1 : Int} {r : Int} (H : laws_szCircuit.f a0_0 l0_1 a1 = some r) : Ret Try.prog 15 [.agg [.lit (.int .i64 a0_0), v0_1], .lit (.int .i64 a1)] fun v S => v = .lit (.int .i64 r) := by
 unfold laws_szCircuit.f at H
 refine Ret.intro Try.func15 rfl (Nat.le_of_ble_eq_true rfl) rfl ?_
 rw [tm2]
 refine Evr.sr rfl (Opl.box (cs := [.lit (.int .i64 a0_0), v0_1]) rfl rfl rfl rfl ?_)
 rintro i1 S h1 u1 w1
 refine Opl.p1 (n := Opl.nil (Evr.sr rfl (Opl.p1 (v := .ptr i1 1) (n := Opl.ldb (v := v0_1) h1 rfl T31 rfl rfl rfl rfl (Opl.p1 (n := ?_))))))
 obtain ⟨t349, h_t349, H⟩ := Option.bind_eq_some_iff.1 H
 refine Opl.callc (laws_szAndS.ev hv0_1 h_t349) rfl rfl rfl rfl ⟨hv0_1.plain, (.lit _), trivial⟩ (by decide) (Opl.p1 (n := Opl.nil (Evr.seq (Evr.sr rfl (Opl.p1 (n := Opl.p1 (n := Opl.nil ?_)))))))
 by_cases c1 : t349 < 0
 case pos =>
  rw [if_pos c1] at H
  have e1 : (decide (t349 < 0)) = true := by simpa using c1
  try rw [e1]
  refine Evr.condT rfl (Evr.sr rfl (Opl.p1 (n := Opl.nil ?_)))
  obtain rfl := Option.some.inj H
  refine Evr.ret1 Try.func15 rfl ?_
  show (.lit (.int .i64 (-1)) : PV) = _
  first | rfl | (simp only [go_sem]; rfl)
 rw [if_neg c1] at H
 have e2 : (decide (t349 < 0)) = false := by simpa using c1
 try rw [e2]
 refine Evr.condF rfl (Evr.skip (Evr.sr rfl (Opl.p1 (n := Opl.p1 (n := Opl.nil ?_)))))
 obtain rfl := Option.some.inj H
 refine Evr.ret1 Try.func15 rfl ?_
 show (.lit (.int .i64 t349) : PV) = _
 first | rfl | (simp only [go_sem]; rfl)
theorem laws_toAnd.ev {a0_0 : Int} {a0_1 : Int} {r : (Int × Int)} (H : laws_toAnd.f a0_0 a0_1 = some r) : Ret Try.prog 82 [.agg [.lit (.int .i64 a0_0), .lit (.int .i64 a0_1)]] fun v S => Out (fun q => ∃ q1 q2, q = .agg [q1, q2] ∧ q1 = .lit (.int .i64 r.1) ∧ q2 = .lit (.int .i64 r.2)) v S := by
 unfold laws_toAnd.f at H
 refine Ret.intro Try.func82 rfl (Nat.le_of_ble_eq_true rfl) rfl ?_
 rw [tm1]
 refine Evr.sr rfl (Opl.box (cs := [.lit (.int .i64 a0_0), .lit (.int .i64 a0_1)]) rfl rfl rfl rfl ?_)
 rintro i1 S h1 u1 w1
 refine Opl.alloc T69 rfl rfl rfl ?_
 rintro i2 S h2 u2 w2
 have ap1 := w2.box h1
 have h3 := u2.box h1 ap1
 refine Opl.nil (Evr.sr rfl (Opl.alloc T69 rfl rfl rfl ?_))
 rintro i3 S h4 u3 w3
 have ap2 := w3.box h3
 have h5 := u3.box h3 ap2
 have ap3 := w3.box h2
 have h6 := u3.box h2 ap3
 refine Opl.nil (Evr.sr rfl (Opl.p1 (v := .ptr i1 0) (n := Opl.ldb (v := .lit (.int .i64 a0_0)) h5 rfl T3 rfl rfl rfl rfl (Opl.p1 (v := .ptr i3 0) (n := Opl.stb (vs := [.lit (.int .i64 a0_0)]) h4 rfl rfl Z3 rfl (Nat.le_of_ble_eq_true rfl) rfl rfl rfl rfl ?_)))))
 rintro S (h7 : Box (.ptr i3 0) [.lit (.int .i64 a0_0), .lit (.int .i64 0)] _) u4
 have h8 := u4.box h5 ap2
 have h9 := u4.box h6 ap3
 refine Opl.nil (Evr.sr rfl (Opl.p1 (v := .ptr i1 1) (n := Opl.ldb (v := .lit (.int .i64 a0_1)) h8 rfl T3 rfl rfl rfl rfl (Opl.p1 (v := .ptr i3 1) (n := Opl.stb (vs := [.lit (.int .i64 a0_1)]) h7 rfl rfl Z3 rfl (Nat.le_of_ble_eq_true rfl) rfl rfl rfl rfl ?_)))))
 rintro S (h10 : Box (.ptr i3 0) [.lit (.int .i64 a0_0), .lit (.int .i64 a0_1)] _) u5
 have h11 := u5.box h8 ap2
 have h12 := u5.box h9 ap3
 refine Opl.nil (Evr.sr rfl (Opl.ldb (v := .agg [.lit (.int .i64 a0_0), .lit (.int .i64 a0_1)]) h10 rfl T69 rfl rfl rfl rfl (Opl.stb (vs := [.lit (.int .i64 a0_0), .lit (.int .i64 a0_1)]) h12 rfl rfl Z69 rfl (Nat.le_of_ble_eq_true rfl) rfl rfl rfl rfl ?_)))
 rintro S (h13 : Box (.ptr i2 0) [.lit (.int .i64 a0_0), .lit (.int .i64 a0_1)] _) u6
 have h14 := u6.box h11 ap1
 have h15 := u6.box h10 ap3.symm
 refine Opl.nil ?_
 obtain rfl := Option.some.inj H
 refine Evr.retb (v := .agg [.lit (.int .i64 a0_0), .lit (.int .i64 a0_1)]) Try.func82 rfl h13 rfl T69 rfl ?_
 show Out _ (.agg [.lit (.int .i64 a0_0), .lit (.int .i64 a0_1)]) _
 exact (.agg2 .lit .lit)
theorem laws_toAndS.ev {k : Nat} {l0 : List LAnd} {v0 : PV} (hv0 : Sl cLAnd l0 v0) {r : (List IAnd)} (H : laws_toAndS.f k l0 = some r) : Ret Try.prog 50 [v0] fun v S => Vec cIAnd r v S := by
 unfold laws_toAndS.f at H
 refine Ret.intro Try.func50 rfl (Nat.le_of_ble_eq_true rfl) rfl ?_
 rw [tm1]
 refine Evr.sr rfl (Opl.p1 (n := Opl.nil (Evr.sr rfl (Opl.p1 (n := Opl.len (xs := l0) (by exact hv0) K31 rfl rfl rfl rfl ?_)))))
 obtain ⟨c1, H⟩ := peel H
 obtain ⟨c2, H⟩ := peel H
 refine Opl.make (M := cIAnd) (m := (l0.length : Int)) zIAnd (by exact cIAnd_z) rfl rfl K40 T69 rfl (by omega) (by show ((l0.length : Int)).toNat * 16 ≤ 281474976710656; omega) (by omega) rfl rfl rfl ?_
 rintro pv1 S h1 u1 w1
 refine Opl.p1 (n := Opl.nil (Evr.seq (Evr.sr rfl (Opl.p1 (n := Opl.nil (Evr.block ?_))))))
 refine Evr.loop (Evr.rounds (n := k) (Inv := fun n tm S => n ≤ k ∧ ∃ (x3_1 : List (IAnd)) (x4_1 : Int) (pv2 : PV), laws_toAndS.l0 n l0 x3_1 x4_1 = some r ∧ Has tm [(0, v0), (3, pv2), (4, .lit (.int .i64 x4_1))] ∧ Vec cIAnd x3_1 pv2 S) ?_ ?_ ?_)
 · exact ⟨Nat.le_refl _, _, _, _, H, ⟨rfl, rfl, rfl, trivial⟩, h1⟩
 ·
  rintro tm S ⟨_, _, _, _, H, -⟩
  simp [laws_toAndS.l0] at H
 ·
  rintro n1 ih1 tm S ⟨hle, x3_1, x4_1, pv2, H, hh, h2⟩
  simp only [laws_toAndS.l0] at H
  rw [hh.eq]
  refine Evr.seq (Evr.sr rfl (Opl.p1 (n := Opl.p1 (n := Opl.len (xs := l0) (by exact hv0) K31 rfl rfl rfl rfl (Opl.p1 (n := Opl.nil ?_))))))
  by_cases c3 : x4_1 < (l0.length : Int)
  case neg =>
   rw [if_neg c3] at H
   have e2 : (decide (x4_1 < (l0.length : Int))) = false := by simpa using c3
   try rw [e2]
   refine Evr.condF rfl (Evr.exit rfl (Evr.sr rfl (Opl.p1 (n := Opl.p1 (n := Opl.nil ?_)))))
   obtain rfl := Option.some.inj H
   refine Evr.ret1 Try.func50 rfl ?_
   show Vec _ _ pv2 _
   exact h2
  rw [if_pos c3] at H
  have e1 : (decide (x4_1 < (l0.length : Int))) = true := by simpa using c3
  try rw [e1]
  refine Evr.condT rfl (Evr.skip (Evr.seq (Evr.block (Evr.regionN rfl (Opl.p1 (n := Opl.p1 (n := Opl.p1 (n := Opl.p1 (n := ?_)))))))))
  obtain ⟨c4, H⟩ := peel H
  refine Opl.idx (M := cLAnd) (xs := l0) (j := x4_1) zLAnd (by exact hv0) rfl (by omega) (by omega) K31 Z89 rfl rfl ?_
  rintro p1 q1 h3
  obtain rfl := cLAnd_R (x := (rd_LAnd l0 x4_1)) h3
  refine Opl.lda (.agg [.lit (.int .i64 ((rd_LAnd l0 x4_1).f0)), .lit (.int .i64 ((rd_LAnd l0 x4_1).f1))]) rfl T89 rfl rfl rfl rfl ?_
  obtain ⟨bt394, h_bt394, H⟩ := Option.bind_eq_some_iff.1 H
  refine Opl.call (laws_toAnd.ev h_bt394) rfl rfl rfl rfl ⟨(.aggL ⟨(.lit _), (.lit _), trivial⟩), trivial⟩ (by decide) ?_
  rintro _ ⟨_, _, rfl, rfl, rfl⟩
  obtain ⟨c5, H⟩ := peel H
  refine Opl.idv (M := cIAnd) (xs := x3_1) (j := x4_1) (v := pv2) h2 rfl rfl (by omega) (by omega) K40 Z69 rfl rfl ?_
  rintro d1 z1 q2 h5 h6
  refine Opl.stv (M := cIAnd) (xs := x3_1) (j := x4_1) (y := (⟨bt394.1, bt394.2⟩ : IAnd)) (vs := [.lit (.int .i64 bt394.1), .lit (.int .i64 bt394.2)]) h5 h6 (by omega) (by omega) rfl rfl (by exact cIAnd_mk) Z69 rfl rfl rfl rfl ?_
  rw [← q2]
  rintro S h7 u2
  refine Opl.nil (Evr.inBlock (Evr.regionN rfl (Opl.p1 (n := Opl.p1 (n := Opl.p1 (n := Opl.nil ?_))))))
  exact ih1 _ (by omega) _ _ ⟨by omega, _, _, _, H, ⟨rfl, rfl, rfl, trivial⟩, h7⟩
theorem laws_toCircuit.ev {k : Nat} {a0_0 : Int} {l0_1 : List LAnd} {v0_1 : PV} (hv0_1 : Sl cLAnd l0_1 v0_1) {r : (Int × List IAnd)} (H : laws_toCircuit.f k a0_0 l0_1 = some r) : Ret Try.prog 17 [.agg [.lit (.int .i64 a0_0), v0_1]] fun v S => Out (fun q => ∃ q1 q2, q = .agg [q1, q2] ∧ q1 = .lit (.int .i64 r.1) ∧ Sl cIAnd r.2 q2) v S := by
 unfold laws_toCircuit.f at H
 refine Ret.intro Try.func17 rfl (Nat.le_of_ble_eq_true rfl) rfl ?_
 rw [tm1]
 refine Evr.sr rfl (Opl.box (cs := [.lit (.int .i64 a0_0), v0_1]) rfl rfl rfl rfl ?_)
 rintro i1 S h1 u1 w1
 refine Opl.alloc T42 rfl rfl rfl ?_
 rintro i2 S h2 u2 w2
 have ap1 := w2.box h1
 have h3 := u2.box h1 ap1
 refine Opl.nil (Evr.sr rfl (Opl.alloc T42 rfl rfl rfl ?_))
 rintro i3 S h4 u3 w3
 have ap2 := w3.box h3
 have h5 := u3.box h3 ap2
 have ap3 := w3.box h2
 have h6 := u3.box h2 ap3
 refine Opl.nil (Evr.sr rfl (Opl.p1 (v := .ptr i1 0) (n := Opl.ldb (v := .lit (.int .i64 a0_0)) h5 rfl T3 rfl rfl rfl rfl (Opl.p1 (v := .ptr i3 0) (n := Opl.stb (vs := [.lit (.int .i64 a0_0)]) h4 rfl rfl Z3 rfl (Nat.le_of_ble_eq_true rfl) rfl rfl rfl rfl ?_)))))
 rintro S (h7 : Box (.ptr i3 0) [.lit (.int .i64 a0_0), .lit (.slice none 0 0)] _) u4
 have h8 := u4.box h5 ap2
 have h9 := u4.box h6 ap3
 refine Opl.nil (Evr.sr rfl (Opl.p1 (v := .ptr i1 1) (n := Opl.ldb (v := v0_1) h8 rfl T31 rfl rfl rfl rfl ?_)))
 obtain ⟨t400, h_t400, H⟩ := Option.bind_eq_some_iff.1 H
 refine Opl.call ((laws_toAndS.ev hv0_1 h_t400).mono fun _ _ h => Out.vec h) rfl rfl rfl rfl ⟨hv0_1.plain, trivial⟩ (by decide) ?_
 rintro pv1 h10
 refine Opl.p1 (v := .ptr i3 1) (n := Opl.stb (vs := [pv1]) h7 rfl (by exact h10.cells) Z40 rfl (Nat.le_of_ble_eq_true rfl) (by simp only [List.all_cons, List.all_nil, h10.one, Bool.and_true, Bool.true_and] <;> rfl) rfl rfl rfl ?_)
 rintro S (h11 : Box (.ptr i3 0) [.lit (.int .i64 a0_0), pv1] _) u5
 have h12 := u5.box h8 ap2
 have h13 := u5.box h9 ap3
 refine Opl.nil (Evr.sr rfl (Opl.ldb (v := .agg [.lit (.int .i64 a0_0), pv1]) h11 rfl T42 rfl rfl rfl rfl (Opl.stb (vs := [.lit (.int .i64 a0_0), pv1]) h13 rfl rfl Z42 rfl (Nat.le_of_ble_eq_true rfl) (by simp only [List.all_cons, List.all_nil, h10.one, Bool.and_true, Bool.true_and] <;> rfl) rfl rfl rfl ?_)))
 rintro S (h14 : Box (.ptr i2 0) [.lit (.int .i64 a0_0), pv1] _) u6
 have h15 := u6.box h12 ap1
 have h16 := u6.box h11 ap3.symm
 refine Opl.nil ?_
 obtain rfl := Option.some.inj H
 refine Evr.retb (v := .agg [.lit (.int .i64 a0_0), pv1]) Try.func17 rfl h14 rfl T42 rfl ?_
 show Out _ (.agg [.lit (.int .i64 a0_0), pv1]) _
 exact (.agg2 .lit (.sl h10))
theorem laws_toCircuit.mk {k : Nat} {a0_0 : Int} {l0_1 : List LAnd} {v0_1 : PV} (hv0_1 : Sl cLAnd l0_1 v0_1) {r : (Int × List IAnd)} (H : laws_toCircuit.f k a0_0 l0_1 = some r) : Makes Try.prog 17 [.agg [.lit (.int .i64 a0_0), v0_1]] (oPr (oPl (cInt .i64) (oInt .i64)) (oRow (oPl cIAnd oIAnd))) r .agg := by
 unfold laws_toCircuit.f at H
 refine Makes.intro Try.func17 rfl (Nat.le_of_ble_eq_true rfl) rfl fun S0 => ?_
 rw [tm1]
 refine Evr.sr rfl (Opl.box (cs := [.lit (.int .i64 a0_0), v0_1]) rfl rfl rfl rfl ?_)
 rintro i1 S h1 u1 w1
 have gg1 := Grow.of u1 w1
 have bbi1 := w1
 refine Opl.alloc T42 rfl rfl rfl ?_
 rintro i2 S h2 u2 w2
 have gg2 := gg1.trans (Grow.of u2 w2)
 have bbi2 := w2.mono gg1
 have ap1 := w2.box h1
 have h3 := u2.box h1 ap1
 refine Opl.nil (Evr.sr rfl (Opl.alloc T42 rfl rfl rfl ?_))
 rintro i3 S h4 u3 w3
 have gg3 := gg2.trans (Grow.of u3 w3)
 have bbi3 := w3.mono gg2
 have ap2 := w3.box h3
 have h5 := u3.box h3 ap2
 have ap3 := w3.box h2
 have h6 := u3.box h2 ap3
 refine Opl.nil (Evr.sr rfl (Opl.p1 (v := .ptr i1 0) (n := Opl.ldb (v := .lit (.int .i64 a0_0)) h5 rfl T3 rfl rfl rfl rfl (Opl.p1 (v := .ptr i3 0) (n := Opl.stb (vs := [.lit (.int .i64 a0_0)]) h4 rfl rfl Z3 rfl (Nat.le_of_ble_eq_true rfl) rfl rfl rfl rfl ?_)))))
 rintro S (h7 : Box (.ptr i3 0) [.lit (.int .i64 a0_0), .lit (.slice none 0 0)] _) u4
 have gg4 := gg3.up u4 bbi3
 have h8 := u4.box h5 ap2
 have h9 := u4.box h6 ap3
 refine Opl.nil (Evr.sr rfl (Opl.p1 (v := .ptr i1 1) (n := Opl.ldb (v := v0_1) h8 rfl T31 rfl rfl rfl rfl ?_)))
 obtain ⟨t400, h_t400, H⟩ := Option.bind_eq_some_iff.1 H
 refine Opl.calla (laws_toAndS.ev hv0_1 h_t400) rfl rfl rfl rfl ⟨hv0_1.plain, trivial⟩ rfl ?_
 rintro pv1 S hV uV wV
 obtain ⟨ids0, h10, ff0⟩ : ∃ ids, (oRow (oPl cIAnd oIAnd)).R S ids _ [pv1] ∧ Fresh _ ids := ⟨_, hV.tree oIAnd, wV.fresh⟩
 have gj := Grow.of uV wV
 have ati10 := ff0.box h8
 have h8 := gj.box h8
 have ati20 := ff0.box h9
 have h9 := gj.box h9
 have ati30 := ff0.box h7
 have h7 := gj.box h7
 have fz0 := ff0.mono gg4
 have gg5 := gg4.trans gj
 refine Opl.p1 (v := .ptr i3 1) (n := Opl.stb (vs := [pv1]) h7 rfl (by exact oRow_cells h10) Z40 rfl (Nat.le_of_ble_eq_true rfl) (by simp only [List.all_cons, List.all_nil, oRow_p1 h10, Bool.and_true, Bool.true_and] <;> rfl) rfl rfl rfl ?_)
 rintro S (h11 : Box (.ptr i3 0) [.lit (.int .i64 a0_0), pv1] _) u5
 have h10 := u5.tree h10 ati30
 have gg6 := gg5.up u5 bbi3
 have h12 := u5.box h8 ap2
 have h13 := u5.box h9 ap3
 refine Opl.nil (Evr.sr rfl (Opl.ldb (v := .agg [.lit (.int .i64 a0_0), pv1]) h11 rfl T42 rfl rfl rfl rfl (Opl.stb (vs := [.lit (.int .i64 a0_0), pv1]) h13 rfl rfl Z42 rfl (Nat.le_of_ble_eq_true rfl) (by simp only [List.all_cons, List.all_nil, oRow_p1 h10, Bool.and_true, Bool.true_and] <;> rfl) rfl rfl rfl ?_)))
 rintro S (h14 : Box (.ptr i2 0) [.lit (.int .i64 a0_0), pv1] _) u6
 have h10 := u6.tree h10 ati20
 have gg7 := gg6.up u6 bbi2
 have h15 := u6.box h12 ap1
 have h16 := u6.box h11 ap3.symm
 refine Opl.nil ?_
 obtain rfl := Option.some.inj H
 refine Evr.retb (v := .agg [.lit (.int .i64 a0_0), pv1]) Try.func17 rfl h14 rfl T42 rfl ?_
 exact ⟨[.lit (.int .i64 a0_0), pv1], _, rfl, ⟨[.lit (.int .i64 a0_0)], [pv1], [], _, rfl, rfl, .nil, ⟨rfl, rfl⟩, h10⟩, fz0, gg7⟩
theorem laws_markAndS.mks : Mks Try.prog 59 (oRow (oPl cIAnd oIAnd)) (leaves fun _ => 2) okAny first := by
 intro S0 ids l c k h hok h0 hb
 obtain ⟨p, rfl⟩ := oRow_one h
 show RetS _ _ [p, _] _ _
 refine RetS.intro Try.func59 rfl (Nat.le_of_ble_eq_true rfl) rfl ?_
 rw [tm2]
 obtain ⟨hv, rfl⟩ := tree_vec h
 rw [leaves_const] at hb ⊢
 have hlen := hv.len
 refine Evr.seq (Evr.regionN rfl (Opl.one rfl rfl (by simp only [go_sem]; rfl) (Opl.nil (Evr.seq (Evr.seq (Evr.regionN rfl (Opl.one rfl rfl (by simp only [go_sem]; rfl) (Opl.nil (Evr.block ?_)))))))))
 refine Evr.loop (Evr.rounds (n := l.length + 1) (Inv := fun n tm S => ∃ (k1 i : Int), Has tm [(0, p), (1, .lit (.int .i64 k1)), (5, .lit (.int .i64 i))] ∧ 0 ≤ i ∧ i ≤ l.length ∧ i + n = l.length + 1 ∧ k1 = k + i * 2 ∧ Flat S0 S p l.length 2) ?_ ?_ ?_)
 · exact ⟨k, 0, ⟨rfl, rfl, rfl, trivial⟩, by omega, by omega, by omega, by omega, Flat.of (ints_iso (ints_pair ints_int ints_int) (fun x => ⟨x.1, x.2⟩) (fun _ => rfl)) hv⟩
 · rintro tm S ⟨k1, i, -, h1, h2, h3, -⟩
   omega
 rintro n ih tm S ⟨k1, i, hh, h1, h2, h3, rfl, hf⟩
 rw [hh.eq]
 refine Evr.seq (Evr.seq (Evr.regionN rfl (Opl.one rfl rfl (by simp only [go_sem]; rfl) (Opl.one rfl rfl (by simp only [go_sem]; rfl) (Opl.leno (by exact hlen) K40 rfl rfl rfl rfl (Opl.one rfl rfl (by simp only [go_sem]; rfl) (Opl.nil ?_)))))))
 by_cases c : i < (l.length : Int)
 · have e : (decide (i < (l.length : Int))) = true := by simpa using c
   try rw [e]
   obtain ⟨_, ⟨hz, _⟩ | ⟨d, cs, hp, hl, hc, ha, hs⟩⟩ := hf
   · omega
   refine Evr.condT rfl (Evr.skip (Evr.seq (Evr.block (Evr.seq (Evr.regionN rfl (Opl.one rfl rfl (by simp only [go_sem]; rfl) (Opl.one rfl rfl (by simp only [go_sem]; rfl) (Opl.one rfl rfl (by simp only [go_sem]; rfl) (Opl.ido (d := d) (m := l.length) (j := i) (es := 2) (by exact hp) rfl (by omega) (by omega) K40 Z69 rfl rfl ?_)))))))))
   refine Opl.one (v := .ptr d (i.toNat * 2 + 0)) rfl rfl (by simp only [go_sem]; rfl) ?_
   refine Opl.stoi (off := i.toNat * 2 + 0) hl ha rfl rfl Z3 (by omega) rfl rfl rfl ?_
   rintro cs S hl hc1 ha hs1
   have hs := hs.trans hs1 (fun _ h => h)
   have hc := hc1.trans hc
   refine Opl.nil (Evr.seq (Evr.regionN rfl (Opl.one rfl rfl (by simp only [go_sem]; rfl) (Opl.one rfl rfl (by simp only [go_sem]; rfl) (Opl.one rfl rfl (by simp only [go_sem]; rfl) (Opl.nil ?_))))))
   rw [wrap_of (x := (k + i * 2) + 1) (by omega) (by omega)]
   refine Evr.seq (Evr.regionN rfl (Opl.one rfl rfl (by simp only [go_sem]; rfl) (Opl.one rfl rfl (by simp only [go_sem]; rfl) (Opl.one rfl rfl (by simp only [go_sem]; rfl) (Opl.ido (d := d) (m := l.length) (j := i) (es := 2) (by exact hp) rfl (by omega) (by omega) K40 Z69 rfl rfl ?_)))))
   refine Opl.one (v := .ptr d (i.toNat * 2 + 1)) rfl rfl (by simp only [go_sem]; rfl) ?_
   refine Opl.stoi (off := i.toNat * 2 + 1) hl ha rfl rfl Z3 (by omega) rfl rfl rfl ?_
   rintro cs S hl hc1 ha hs1
   have hs := hs.trans hs1 (fun _ h => h)
   have hc := hc1.trans hc
   refine Opl.nil (Evr.regionN rfl (Opl.one rfl rfl (by simp only [go_sem]; rfl) (Opl.one rfl rfl (by simp only [go_sem]; rfl) (Opl.one rfl rfl (by simp only [go_sem]; rfl) (Opl.nil ?_)))))
   rw [wrap_of (x := ((k + i * 2) + 1) + 1) (by omega) (by omega)]
   refine Evr.inBlock (Evr.regionN rfl (Opl.one rfl rfl (by simp only [go_sem]; rfl) (Opl.one rfl rfl (by simp only [go_sem]; rfl) (Opl.one rfl rfl (by simp only [go_sem]; rfl) (Opl.nil ?_)))))
   rw [wrap_of (x := i + 1) (by omega) (by omega)]
   exact ih n (Nat.le_refl _) _ _ ⟨(((k + i * 2) + 1) + 1), i + 1, ⟨rfl, rfl, rfl, trivial⟩, by omega, by omega, by omega, by omega, hlen, .inr ⟨d, _, hp, hl, hc, ha, hs⟩⟩
 · have e : (decide (i < (l.length : Int))) = false := by simpa using c
   try rw [e]
   refine Evr.condF rfl (Evr.exit rfl (Evr.seq (Evr.regionN rfl (Opl.one rfl rfl (by simp only [go_sem]; rfl) (Opl.one rfl rfl (by simp only [go_sem]; rfl) (Opl.nil ?_))))))
   refine Evr.ret1 Try.func59 rfl ?_
   obtain rfl : i = l.length := by omega
   obtain ⟨ids', a', g1, g2, g3, g4⟩ := Flat.done (ints_iso (ints_pair ints_int ints_int) (fun x => ⟨x.1, x.2⟩) (fun _ => rfl)) oIAnd hv hf
   exact ⟨by rw [show ((l.length * 2 : Nat) : Int) = l.length * 2 by omega]; rfl, ids', a', g1, g2, by rw [leaves_const, g3], trivial, g4⟩
theorem laws_markCircuit.mks : Mks Try.prog 21 (oPr (oPl (cInt .i64) (oInt .i64)) (oRow (oPl cIAnd oIAnd))) (fun x : Int × (List IAnd) => (leaves fun _ : IAnd => 2) x.2) okAny .agg := by
 intro S0 ids a c k h oel h0 hb
 obtain ⟨c0, c1, i0, i1, ec, rfl, ap0, t0, t1⟩ := h
 obtain ⟨rfl, t0⟩ := t0
 obtain rfl := (t0 : c0 = [.lit (.int .i64 a.1)])
 obtain ⟨q1, rfl⟩ := oRow_one t1
 obtain rfl := ec
 have t1 : (oRow (oPl cIAnd oIAnd)).R S0 i1 a.2 [q1] := t1
 have hb : k + (((leaves fun _ : IAnd => 2) a.2 : Nat) : Int) ≤ 9223372036854775807 := hb
 show RetS _ _ [.agg [.lit (.int .i64 a.1), q1], _] _ _
 refine RetS.intro Try.func21 rfl (Nat.le_of_ble_eq_true rfl) rfl ?_
 rw [tm2]
 refine Evr.seq (Evr.regionN rfl (Opl.box (cs := [.lit (.int .i64 a.1), q1]) rfl rfl rfl rfl ?_))
 rintro d S hd ud wd
 have gd := Grow.of ud wd
 have x1 := wd.tree t1
 have t1 := ud.tree t1 x1
 refine Opl.one rfl rfl (by simp only [go_sem]; rfl) (Opl.nil (Evr.seq (Evr.regionN rfl (Opl.one (v := .ptr d 1) rfl rfl (by simp only [go_sem]; rfl) (Opl.ldb (v := q1) hd rfl T40 rfl rfl rfl rfl (Opl.one rfl rfl (by simp only [go_sem]; rfl) (Opl.calls (laws_markAndS.mks _ _ _ _ _ t1 oel (by omega) (by omega)) rfl rfl rfl rfl rfl ?_)))))))
 rintro _ S ⟨rfl, j1, a1, n1, m1, l1, o1, s1⟩
 refine Opl.one rfl rfl (by simp only [go_sem]; rfl) (Opl.nil (Evr.seq (Evr.regionN rfl (Opl.one rfl rfl (by simp only [go_sem]; rfl) (Opl.one rfl rfl (by simp only [go_sem]; rfl) (Opl.nil ?_))))))
 refine Evr.ret1 Try.func21 rfl ?_
 exact ⟨rfl, _, (a.1, a1), ⟨[.lit (.int .i64 a.1)], [q1], [], j1, rfl, rfl, .nil, ⟨rfl, rfl⟩, n1⟩, m1, l1, o1, Same.trans gd.same s1 (fun z hz => hz)⟩
theorem laws_markIntS.evm {k : Nat} {l0 : List Int} {p : PV} {a1 : Int} {S0 : Sto} (hv : Vec (cInt .i64) l0 p S0) {r : Int × List Int} (H : laws_markIntS.f k l0 a1 = some r) : RetS Try.prog 11 [p, .lit (.int .i64 a1)] S0 fun v S => v = .lit (.int .i64 r.1) ∧ Vec (cInt .i64) r.2 p S ∧ Same S0 S p.id?.toList := by
 unfold laws_markIntS.f at H
 refine RetS.intro Try.func11 rfl (Nat.le_of_ble_eq_true rfl) rfl ?_
 rw [tm2]
 refine Evr.seq (Evr.regionN rfl (Opl.one rfl rfl (by simp only [go_sem]; rfl) (Opl.nil (Evr.seq (Evr.seq (Evr.regionN rfl (Opl.one rfl rfl (by simp only [go_sem]; rfl) (Opl.nil (Evr.block ?_)))))))))
 refine Evr.loop (Evr.rounds (n := k) (Inv := fun n tm S => ∃ (x0 : List Int) (x1 x5 : Int), laws_markIntS.l0 n x0 x1 x5 = some r ∧ Has tm [(0, p), (1, .lit (.int .i64 x1)), (5, .lit (.int .i64 x5))] ∧ Vec (cInt .i64) x0 p S ∧ Same S0 S p.id?.toList) ?_ ?_ ?_)
 · exact ⟨_, _, _, H, ⟨rfl, rfl, rfl, trivial⟩, hv, .refl _ _⟩
 · rintro tm S ⟨_, _, _, H, -⟩
   simp [laws_markIntS.l0] at H
 rintro n ih tm S ⟨x0, x1, x5, H, hh, hf, hs⟩
 simp only [laws_markIntS.l0] at H
 rw [hh.eq]
 refine Evr.seq (Evr.seq (Evr.regionN rfl (Opl.one rfl rfl (by simp only [go_sem]; rfl) (Opl.one rfl rfl (by simp only [go_sem]; rfl) (Opl.lenv (by exact hf) K22 rfl rfl rfl rfl (Opl.one rfl rfl (by simp only [go_sem]; rfl) (Opl.nil ?_)))))))
 by_cases c : x5 < (x0.length : Int)
 · rw [if_pos c] at H
   have e : (decide (x5 < (x0.length : Int))) = true := by simpa using c
   try rw [e]
   obtain ⟨c2, H⟩ := peel H
   refine Evr.condT rfl (Evr.skip (Evr.seq (Evr.block (Evr.seq (Evr.regionN rfl (Opl.one rfl rfl (by simp only [go_sem]; rfl) (Opl.one rfl rfl (by simp only [go_sem]; rfl) (Opl.one rfl rfl (by simp only [go_sem]; rfl) (Opl.idv (M := cInt .i64) (xs := x0) (j := x5) (v := p) hf rfl rfl (by omega) (by omega) K22 Z3 rfl rfl ?_)))))))))
   rintro d cs hp hl hr
   refine Opl.stv (M := cInt .i64) (xs := x0) (j := x5) (y := x1) (vs := [.lit (.int .i64 x1)]) hl hr (by omega) (by omega) rfl rfl (by exact rfl) Z3 rfl rfl rfl rfl ?_
   rw [← hp]
   rintro S hf' u
   have hs' := hs.trans u.same (fun _ h => h)
   refine Opl.nil (Evr.regionN rfl (Opl.one rfl rfl (by simp only [go_sem]; rfl) (Opl.one rfl rfl (by simp only [go_sem]; rfl) (Opl.one rfl rfl (by simp only [go_sem]; rfl) (Opl.nil (Evr.inBlock (Evr.regionN rfl (Opl.one rfl rfl (by simp only [go_sem]; rfl) (Opl.one rfl rfl (by simp only [go_sem]; rfl) (Opl.one rfl rfl (by simp only [go_sem]; rfl) (Opl.nil ?_)))))))))))
   exact ih n (Nat.le_refl _) _ _ ⟨_, _, _, H, ⟨rfl, rfl, rfl, trivial⟩, hf', hs'⟩
 · rw [if_neg c] at H
   have e : (decide (x5 < (x0.length : Int))) = false := by simpa using c
   try rw [e]
   refine Evr.condF rfl (Evr.exit rfl (Evr.seq (Evr.regionN rfl (Opl.one rfl rfl (by simp only [go_sem]; rfl) (Opl.one rfl rfl (by simp only [go_sem]; rfl) (Opl.nil ?_))))))
   obtain rfl := Option.some.inj H
   refine Evr.ret1 Try.func11 rfl ?_
   exact ⟨rfl, hf, hs⟩
theorem laws_markIntSS.evm {k : Nat} {l0 : List (List Int)} {p : PV} {a1 : Int} {S0 : Sto} {ids : List Abs.Id} (h : (oRow (oRow (oPl (cInt .i64) (oInt .i64)))).R S0 ids l0 [p]) (hbig : l0.length ≤ 9223372036854775807) {r : Int × List (List Int)} (H : laws_markIntSS.f k l0 a1 = some r) : RetS Try.prog 60 [p, .lit (.int .i64 a1)] S0 fun v S => v = .lit (.int .i64 r.1) ∧ ∃ ids', (oRow (oRow (oPl (cInt .i64) (oInt .i64)))).R S ids' r.2 [p] ∧ (∀ i ∈ ids', i ∈ ids) ∧ Same S0 S ids := by
 refine RetS.intro Try.func60 rfl (Nat.le_of_ble_eq_true rfl) rfl ?_
 rw [tm2]
 have hlen := oRow_len h
 refine Evr.seq (Evr.regionN rfl (Opl.one rfl rfl (by simp only [go_sem]; rfl) (Opl.nil (Evr.seq (Evr.seq (Evr.regionN rfl (Opl.one rfl rfl (by simp only [go_sem]; rfl) (Opl.nil (Evr.block ?_)))))))))
 refine Evr.loop (Evr.rounds (n := l0.length + 1) (Inv := fun n tm S => ∃ (k1 : Int) (i : Nat) (l1 q : List (List Int)) (ids1 : List Abs.Id), Has tm [(0, p), (1, .lit (.int .i64 k1)), (5, .lit (.int .i64 i))] ∧ i ≤ l0.length ∧ i + n = l0.length + 1 ∧ l1.length = l0.length ∧ laws_markIntSS.f k (l1.drop i) k1 = some (r.1, q) ∧ r.2 = l1.take i ++ q ∧ (oRow (oRow (oPl (cInt .i64) (oInt .i64)))).R S ids1 l1 [p] ∧ (∀ i ∈ ids1, i ∈ ids) ∧ Same S0 S ids) ?_ ?_ ?_)
 · exact ⟨a1, 0, l0, r.2, ids, ⟨rfl, rfl, rfl, trivial⟩, by omega, by omega, rfl, by rw [List.drop_zero]; exact H, by simp, h, fun _ h => h, .refl _ _⟩
 · rintro tm S ⟨k1, i, l1, q, ids1, -, h2, h3, -⟩
   omega
 rintro n ih tm S ⟨k1, i, l1, q, ids1, hh, h2, h3, hl1, H, hr, ht, hsub, hs⟩
 rw [hh.eq]
 refine Evr.seq (Evr.seq (Evr.regionN rfl (Opl.one rfl rfl (by simp only [go_sem]; rfl) (Opl.one rfl rfl (by simp only [go_sem]; rfl) (Opl.leno (by exact hlen) K35 rfl rfl rfl rfl (Opl.one rfl rfl (by simp only [go_sem]; rfl) (Opl.nil ?_)))))))
 by_cases c : (i : Int) < (l0.length : Int)
 · have e : (decide ((i : Int) < (l0.length : Int))) = true := by simpa using c
   try rw [e]
   have hi : i < l1.length := by omega
   obtain ⟨d, cs, ij, ce, rr, hp, hl, hdr, hel, hsubj, keep, back⟩ := oRow_mark ht i hi
   rw [List.drop_eq_getElem_cons hi] at H
   simp only [laws_markIntSS.f] at H
   obtain ⟨p1, hp1, H⟩ := Option.bind_eq_some_iff.1 H
   obtain ⟨q1, hq1, H⟩ := Option.bind_eq_some_iff.1 H
   obtain ⟨e1, rfl⟩ := Prod.mk.inj (Option.some.inj H)
   obtain ⟨q0, rfl⟩ := oRow_one hel
   obtain ⟨hv, rfl⟩ := tree_vec hel
   refine Evr.condT rfl (Evr.skip (Evr.seq (Evr.block (Evr.regionN rfl (Opl.one rfl rfl (by simp only [go_sem]; rfl) (Opl.one rfl rfl (by simp only [go_sem]; rfl) (Opl.ido (d := d) (m := l1.length) (j := i) (es := 1) (by exact hp) rfl (by omega) (by omega) K35 Z22 rfl rfl (Opl.ldo (cs := cs) (v := q0) hl rfl T22 ((congrArg _ hdr).trans rfl) rfl rfl rfl (Opl.one rfl rfl (by first | (simp only [go_sem]; done) | (simp only [go_sem]; rfl)) (Opl.calls (laws_markIntS.evm hv hp1) rfl rfl rfl rfl rfl ?_))))))))))
   rintro _ S ⟨rfl, hv1, hs1⟩
   obtain ⟨ids2, ht2, hsub2⟩ := back S _ _ hs1 (hv1.tree (oInt .i64)) (fun _ h => h)
   refine Opl.one rfl rfl (by simp only [go_sem]; rfl) (Opl.nil (Evr.inBlock (Evr.regionN rfl (Opl.one rfl rfl (by simp only [go_sem]; rfl) (Opl.one rfl rfl (by simp only [go_sem]; rfl) (Opl.one rfl rfl (by simp only [go_sem]; rfl) (Opl.nil ?_)))))))
   rw [show wrap64 ((i : Int) + 1) = ((i + 1 : Nat) : Int) by unfold wrap64; have := hbig; omega]
   exact ih n (Nat.le_refl _) _ _ ⟨p1.1, i + 1, l1.set i p1.2, q1.2, ids2, ⟨rfl, rfl, rfl, trivial⟩, by omega, by omega, by simpa using hl1, by rw [List.drop_set_of_lt (by omega), hq1, ← e1], by rw [hr, List.take_succ_eq_append_getElem (by simpa using hi), List.take_set_of_le (Nat.le_refl _)]; simp, ht2, fun i hi => hsub i (hsub2 i hi), hs.trans hs1 fun i hi => hsub i (hsubj i hi)⟩
 · have e : (decide ((i : Int) < (l0.length : Int))) = false := by simpa using c
   try rw [e]
   refine Evr.condF rfl (Evr.exit rfl (Evr.seq (Evr.regionN rfl (Opl.one rfl rfl (by simp only [go_sem]; rfl) (Opl.one rfl rfl (by simp only [go_sem]; rfl) (Opl.nil ?_))))))
   have hi : i = l1.length := by omega
   subst hi
   rw [List.drop_length] at H
   simp only [laws_markIntSS.f] at H
   obtain ⟨e1, rfl⟩ := Prod.mk.inj (Option.some.inj H)
   rw [List.take_length, List.append_nil] at hr
   refine Evr.ret1 Try.func60 rfl ?_
   exact ⟨by rw [← e1]; rfl, ids1, hr ▸ ht, hsub, hs⟩
theorem laws_markClauses.evm {k : Nat} {a0 : Int} {l0 : List (List Int)} {c : List PV} {a1 : Int} {S0 : Sto} {ids : List Abs.Id} (h : (oPr (oPl (cInt .i64) (oInt .i64)) (oRow (oRow (oPl (cInt .i64) (oInt .i64))))).R S0 ids (a0, l0) c) (hbig : l0.length ≤ 9223372036854775807) {r : Int × List (List Int)} (H : laws_markIntSS.f k l0 a1 = some r) : RetS Try.prog 22 [.agg c, .lit (.int .i64 a1)] S0 fun v S => v = .lit (.int .i64 r.1) ∧ ∃ ids', (oPr (oPl (cInt .i64) (oInt .i64)) (oRow (oRow (oPl (cInt .i64) (oInt .i64))))).R S ids' (a0, r.2) c ∧ (∀ i ∈ ids', i ∈ ids) ∧ Same S0 S ids := by
 obtain ⟨c0, c1, i0, i1, ec, rfl, ap0, t0, t1⟩ := h
 obtain ⟨rfl, t0⟩ := t0
 obtain rfl := (t0 : c0 = [.lit (.int .i64 a0)])
 obtain ⟨q1, rfl⟩ := oRow_one t1
 obtain rfl := ec
 have t1 : (oRow (oRow (oPl (cInt .i64) (oInt .i64)))).R S0 i1 l0 [q1] := t1
 refine RetS.intro Try.func22 rfl (Nat.le_of_ble_eq_true rfl) rfl ?_
 show Evr _ _ _ (Tm.of [.agg [.lit (.int .i64 a0), q1], _]) _ _
 rw [tm2]
 refine Evr.seq (Evr.regionN rfl (Opl.box (cs := [.lit (.int .i64 a0), q1]) rfl rfl rfl rfl ?_))
 rintro d S hd ud wd
 have gd := Grow.of ud wd
 have x1 := wd.tree t1
 have t1 := ud.tree t1 x1
 refine Opl.one rfl rfl (by simp only [go_sem]; rfl) (Opl.nil (Evr.seq (Evr.regionN rfl (Opl.one (v := .ptr d 1) rfl rfl (by simp only [go_sem]; rfl) (Opl.ldb (v := q1) hd rfl T35 rfl rfl rfl rfl (Opl.one rfl rfl (by first | (simp only [go_sem]; done) | (simp only [go_sem]; rfl)) (Opl.calls (laws_markIntSS.evm t1 hbig H) rfl rfl rfl rfl rfl ?_)))))))
 rintro _ S ⟨rfl, j1, n1, m1, s1⟩
 refine Opl.one rfl rfl (by simp only [go_sem]; rfl) (Opl.nil (Evr.seq (Evr.regionN rfl (Opl.one rfl rfl (by simp only [go_sem]; rfl) (Opl.one rfl rfl (by simp only [go_sem]; rfl) (Opl.nil ?_))))))
 refine Evr.ret1 Try.func22 rfl ?_
 exact ⟨rfl, _, ⟨[.lit (.int .i64 a0)], [q1], [], j1, rfl, rfl, .nil, ⟨rfl, rfl⟩, n1⟩, m1, Same.trans gd.same s1 (fun z hz => hz)⟩
end Go.Proofs.Ytigbbefdndcmbaa.PA
