/- Walks of Go functions: each is shown to answer as the Lean function beside it tells, under the conditions that its theorem names. -/
import Derived.Test.YtikjlbanfbkhmaaProg
import Derived.KernelRfl
import Derived.Below
import Derived.Deep.Draws
import Derived.Deep.AppendLies
import Derived.Maps.AppendAt
import Derived.OwnWalk
import Derived.Laws.BytesArg
import Derived.Laws.MakeOwn
import Derived.Laws.OwnMore
import Derived.Deep.OwnRows
import Derived.Tactics
import Derived.Lib.ConvBytes
import Derived.Laws.Slices
import Derived.WalkKit
import Derived.RowKit3
import Derived.Deep.LoopGhost
import Derived.Deep.QuietTactic
import Derived.BigQuiet
import Derived.WideLaws
import Derived.Deep.DeepCutAuto
import Derived.Deep.CutBlock
import Derived.Deep.RegionHeld3
import Derived.Laws.Rows
import Derived.Lib.AppendStr
import Derived.ArgAppend
import Derived.Laws.IdiomCopy
import Derived.OrdersHeld
import Derived.Laws.BitsLemmas
import Derived.RowKit
import Derived.Laws.StructEq
import Derived.Lib.SliceRun
import Derived.WalkSpells
import Derived.ChangeArms
import Derived.ChangeSlices
import Derived.Deep.Slices
import Derived.Attr
import Derived.Laws.Append
import Derived.Laws.AppendOwn
import Derived.Laws.Entries
import Derived.Calls
import Derived.Laws.Sem
import Derived.Test.YtikjlbanfbkhmaaKPd2694d6e7e
namespace Go.Proofs.Ytikjlbanfbkhmaa.PA
open Go Go.Abs Go.RowKit Go.Proofs Go.Proofs.YtikjlbanfbkhmaaW.PrintWords Go.Proofs.YtikjlbanfbkhmaaW.PrintLast Go.Proofs.YtikjlbanfbkhmaaW.PrintMore
set_option maxRecDepth 100000
set_option maxHeartbeats 4000000
set_option linter.unusedVariables false
set_option linter.unusedSimpArgs false
theorem laws_eqIntS.ev {k : Nat} {l0 : List Int} {v0 : PV} (hv0 : Sl (cInt .i64) l0 v0) {l1 : List Int} {v1 : PV} (hv1 : Sl (cInt .i64) l1 v1) {r : Bool} (H : laws_eqIntS.f k l0 l1 = some r) : Ret Try.prog 12 [v0, v1] fun v S => v = .lit (.bool r) := by
 unfold laws_eqIntS.f at H
 refine Ret.intro Try.func12 rfl (Nat.le_of_ble_eq_true rfl) rfl ?_
 rw [tm2]
 refine Evr.sr rfl (Opl.p1 (n := Opl.nil (Evr.seq (Evr.sr rfl (Opl.p1 (n := Opl.len (xs := l0) (by exact hv0) K26 rfl rfl rfl rfl (Opl.p1 (n := Opl.len (xs := l1) (by exact hv1) K26 rfl rfl rfl rfl (Opl.p1 (n := Opl.nil ?_))))))))))
 by_cases c1 : (l0.length : Int) = (l1.length : Int)
 case neg =>
  rw [if_neg c1] at H
  have e6 : ((l0.length : Int) != (l1.length : Int)) = true := by simpa using c1
  try rw [e6]
  refine Evr.condT rfl (Evr.sr rfl (Opl.p1 (n := Opl.nil ?_)))
  obtain rfl := Option.some.inj H
  refine Evr.ret1 Try.func12 rfl ?_
  show (.lit (.bool false) : PV) = _
  first | rfl | (simp only [go_sem]; rfl)
 rw [if_pos c1] at H
 have e1 : ((l0.length : Int) != (l1.length : Int)) = false := by simpa using c1
 try rw [e1]
 refine Evr.condF rfl (Evr.skip (Evr.seq (Evr.sr rfl (Opl.p1 (n := Opl.nil (Evr.block ?_))))))
 refine Evr.loop (Evr.rounds (n := k) (Inv := fun n tm S => n ≤ k ∧ ∃ (x5_1 : Int), laws_eqIntS.l0 n l0 l1 x5_1 = some r ∧ Has tm [(0, v0), (1, v1), (5, .lit (.int .i64 x5_1))]) ?_ ?_ ?_)
 · exact ⟨Nat.le_refl _, _, H, ⟨rfl, rfl, rfl, trivial⟩⟩
 ·
  rintro tm S ⟨_, _, H, -⟩
  simp [laws_eqIntS.l0] at H
 ·
  rintro n1 ih1 tm S ⟨hle, x5_1, H, hh⟩
  simp only [laws_eqIntS.l0] at H
  rw [hh.eq]
  refine Evr.seq (Evr.sr rfl (Opl.p1 (n := Opl.p1 (n := Opl.len (xs := l0) (by exact hv0) K26 rfl rfl rfl rfl (Opl.p1 (n := Opl.nil ?_))))))
  by_cases c2 : x5_1 < (l0.length : Int)
  case neg =>
   rw [if_neg c2] at H
   have e5 : (decide (x5_1 < (l0.length : Int))) = false := by simpa using c2
   try rw [e5]
   refine Evr.condF rfl (Evr.exit rfl (Evr.sr rfl (Opl.p1 (n := Opl.nil ?_))))
   obtain rfl := Option.some.inj H
   refine Evr.ret1 Try.func12 rfl ?_
   show (.lit (.bool true) : PV) = _
   first | rfl | (simp only [go_sem]; rfl)
  rw [if_pos c2] at H
  have e2 : (decide (x5_1 < (l0.length : Int))) = true := by simpa using c2
  try rw [e2]
  refine Evr.condT rfl (Evr.skip (Evr.seq (Evr.block (Evr.seq (Evr.regionD rfl (by kernel_rfl) (Opl.p1 (n := Opl.p1 (n := ?_))))))))
  obtain ⟨c3, H⟩ := peel H
  obtain ⟨c4, H⟩ := peel H
  refine Opl.idx (M := (cInt .i64)) (xs := l0) (j := x5_1) (0 : Int) (by exact hv0) rfl (by omega) (by omega) K26 Z3 rfl rfl ?_
  rintro p1 q1 h1
  obtain rfl : p1 = [.lit (.int .i64 (rd l0 x5_1))] := h1
  refine Opl.lda (.lit (.int .i64 (rd l0 x5_1))) rfl T3 rfl rfl rfl rfl (Opl.p1 (n := Opl.p1 (n := Opl.idx (M := (cInt .i64)) (xs := l1) (j := x5_1) (0 : Int) (by exact hv1) rfl (by omega) (by omega) K26 Z3 rfl rfl ?_)))
  rintro p2 q2 h2
  obtain rfl : p2 = [.lit (.int .i64 (rd l1 x5_1))] := h2
  refine Opl.lda (.lit (.int .i64 (rd l1 x5_1))) rfl T3 rfl rfl rfl rfl (Opl.p1 (n := Opl.nil ?_))
  by_cases c5 : (rd l0 x5_1) = (rd l1 x5_1)
  case pos =>
   rw [if_pos c5] at H
   have e3 : ((rd l0 x5_1) != (rd l1 x5_1)) = false := by simpa using c5
   try rw [e3]
   refine Evr.condF rfl (Evr.skip (Evr.inBlock (Evr.regionN rfl (Opl.p1 (n := Opl.p1 (n := Opl.p1 (n := Opl.nil ?_)))))))
   exact ih1 _ (by omega) _ _ ⟨by omega, _, H, ⟨rfl, rfl, rfl, trivial⟩⟩
  rw [if_neg c5] at H
  have e4 : ((rd l0 x5_1) != (rd l1 x5_1)) = true := by simpa using c5
  try rw [e4]
  refine Evr.condT rfl (Evr.sr rfl (Opl.p1 (n := Opl.nil ?_)))
  obtain rfl := Option.some.inj H
  refine Evr.ret1 Try.func12 rfl ?_
  show (.lit (.bool false) : PV) = _
  first | rfl | (simp only [go_sem]; rfl)
theorem laws_eqIntSS.ev {k : Nat} {l0 : List (List Int)} {v0 : PV} (hv0 : Sl (cSl (cInt .i64)) l0 v0) {l1 : List (List Int)} {v1 : PV} (hv1 : Sl (cSl (cInt .i64)) l1 v1) {r : Bool} (H : laws_eqIntSS.f k l0 l1 = some r) : Ret Try.prog 14 [v0, v1] fun v S => v = .lit (.bool r) := by
 unfold laws_eqIntSS.f at H
 refine Ret.intro Try.func14 rfl (Nat.le_of_ble_eq_true rfl) rfl ?_
 rw [tm2]
 refine Evr.sr rfl (Opl.p1 (n := Opl.nil (Evr.seq (Evr.sr rfl (Opl.p1 (n := Opl.len (xs := l0) (by exact hv0) K23 rfl rfl rfl rfl (Opl.p1 (n := Opl.len (xs := l1) (by exact hv1) K23 rfl rfl rfl rfl (Opl.p1 (n := Opl.nil ?_))))))))))
 by_cases c1 : (l0.length : Int) = (l1.length : Int)
 case neg =>
  rw [if_neg c1] at H
  have e6 : ((l0.length : Int) != (l1.length : Int)) = true := by simpa using c1
  try rw [e6]
  refine Evr.condT rfl (Evr.sr rfl (Opl.p1 (n := Opl.nil ?_)))
  obtain rfl := Option.some.inj H
  refine Evr.ret1 Try.func14 rfl ?_
  show (.lit (.bool false) : PV) = _
  first | rfl | (simp only [go_sem]; rfl)
 rw [if_pos c1] at H
 have e1 : ((l0.length : Int) != (l1.length : Int)) = false := by simpa using c1
 try rw [e1]
 refine Evr.condF rfl (Evr.skip (Evr.seq (Evr.sr rfl (Opl.p1 (n := Opl.nil (Evr.block ?_))))))
 refine Evr.loop (Evr.rounds (n := k) (Inv := fun n tm S => n ≤ k ∧ ∃ (x5_1 : Int), laws_eqIntSS.l0 n l0 l1 x5_1 = some r ∧ Has tm [(0, v0), (1, v1), (5, .lit (.int .i64 x5_1))]) ?_ ?_ ?_)
 · exact ⟨Nat.le_refl _, _, H, ⟨rfl, rfl, rfl, trivial⟩⟩
 ·
  rintro tm S ⟨_, _, H, -⟩
  simp [laws_eqIntSS.l0] at H
 ·
  rintro n1 ih1 tm S ⟨hle, x5_1, H, hh⟩
  simp only [laws_eqIntSS.l0] at H
  rw [hh.eq]
  refine Evr.seq (Evr.sr rfl (Opl.p1 (n := Opl.p1 (n := Opl.len (xs := l0) (by exact hv0) K23 rfl rfl rfl rfl (Opl.p1 (n := Opl.nil ?_))))))
  by_cases c2 : x5_1 < (l0.length : Int)
  case neg =>
   rw [if_neg c2] at H
   have e5 : (decide (x5_1 < (l0.length : Int))) = false := by simpa using c2
   try rw [e5]
   refine Evr.condF rfl (Evr.exit rfl (Evr.sr rfl (Opl.p1 (n := Opl.nil ?_))))
   obtain rfl := Option.some.inj H
   refine Evr.ret1 Try.func14 rfl ?_
   show (.lit (.bool true) : PV) = _
   first | rfl | (simp only [go_sem]; rfl)
  rw [if_pos c2] at H
  have e2 : (decide (x5_1 < (l0.length : Int))) = true := by simpa using c2
  try rw [e2]
  refine Evr.condT rfl (Evr.skip (Evr.seq (Evr.block (Evr.seq (Evr.regionD rfl (by kernel_rfl) (Opl.p1 (n := Opl.p1 (n := ?_))))))))
  obtain ⟨c3, H⟩ := peel H
  obtain ⟨c4, H⟩ := peel H
  refine Opl.idx (M := (cSl (cInt .i64))) (xs := l0) (j := x5_1) ([] : List Int) (by exact hv0) rfl (by omega) (by omega) K23 Z26 rfl rfl ?_
  rintro p1 q1 h1
  obtain ⟨pv1, rfl, h2⟩ := h1
  refine Opl.lda (pv1) rfl T26 rfl rfl rfl rfl (Opl.p1 (n := Opl.p1 (n := Opl.idx (M := (cSl (cInt .i64))) (xs := l1) (j := x5_1) ([] : List Int) (by exact hv1) rfl (by omega) (by omega) K23 Z26 rfl rfl ?_)))
  rintro p2 q2 h3
  obtain ⟨pv2, rfl, h4⟩ := h3
  refine Opl.lda (pv2) rfl T26 rfl rfl rfl rfl ?_
  obtain ⟨t315, h_t315, H⟩ := Option.bind_eq_some_iff.1 H
  refine Opl.callc (laws_eqIntS.ev h2 h4 h_t315) rfl rfl rfl rfl ⟨h2.plain, h4.plain, trivial⟩ (by decide) (Opl.p1 (n := Opl.nil ?_))
  by_cases c5 : t315 = true
  case pos =>
   rw [if_pos c5] at H
   have e3 : (!t315) = false := by simpa using c5
   try rw [e3]
   refine Evr.condF rfl (Evr.skip (Evr.inBlock (Evr.regionN rfl (Opl.p1 (n := Opl.p1 (n := Opl.p1 (n := Opl.nil ?_)))))))
   exact ih1 _ (by omega) _ _ ⟨by omega, _, H, ⟨rfl, rfl, rfl, trivial⟩⟩
  rw [if_neg c5] at H
  have e4 : (!t315) = true := by simpa using c5
  try rw [e4]
  refine Evr.condT rfl (Evr.sr rfl (Opl.p1 (n := Opl.nil ?_)))
  obtain rfl := Option.some.inj H
  refine Evr.ret1 Try.func14 rfl ?_
  show (.lit (.bool false) : PV) = _
  first | rfl | (simp only [go_sem]; rfl)
theorem laws_eqGraph.ev {k : Nat} {l0_0 : List (List Int)} {v0_0 : PV} (hv0_0 : Sl (cSl (cInt .i64)) l0_0 v0_0) {a0_1 : Int} {l0_2 : List (List Int)} {v0_2 : PV} (hv0_2 : Sl (cSl (cInt .i64)) l0_2 v0_2) {l1_0 : List (List Int)} {v1_0 : PV} (hv1_0 : Sl (cSl (cInt .i64)) l1_0 v1_0) {a1_1 : Int} {l1_2 : List (List Int)} {v1_2 : PV} (hv1_2 : Sl (cSl (cInt .i64)) l1_2 v1_2) {r : Bool} (H : laws_eqGraph.f k l0_0 a0_1 l0_2 l1_0 a1_1 l1_2 = some r) : Ret Try.prog 25 [.agg [v0_0, .lit (.int .i64 a0_1), v0_2], .agg [v1_0, .lit (.int .i64 a1_1), v1_2]] fun v S => v = .lit (.bool r) := by
 unfold laws_eqGraph.f at H
 refine Ret.intro Try.func25 rfl (Nat.le_of_ble_eq_true rfl) rfl ?_
 rw [tm2]
 refine Evr.sr rfl (Opl.box (cs := [v0_0, .lit (.int .i64 a0_1), v0_2]) rfl rfl rfl rfl ?_)
 rintro i1 S h1 u1 w1
 refine Opl.box (cs := [v1_0, .lit (.int .i64 a1_1), v1_2]) rfl rfl rfl rfl ?_
 rintro i2 S h2 u2 w2
 have ap1 := w2.box h1
 have h3 := u2.box h1 ap1
 refine Opl.p1 (n := Opl.nil (Evr.seq (Evr.sr rfl (Opl.p1 (v := .ptr i1 0) (n := Opl.ldb (v := v0_0) h3 rfl T23 rfl rfl rfl rfl (Opl.p1 (v := .ptr i2 0) (n := Opl.ldb (v := v1_0) h2 rfl T23 rfl rfl rfl rfl ?_)))))))
 obtain ⟨t606, h_t606, H⟩ := Option.bind_eq_some_iff.1 H
 refine Opl.callc (laws_eqIntSS.ev hv0_0 hv1_0 h_t606) rfl rfl rfl rfl ⟨hv0_0.plain, hv1_0.plain, trivial⟩ (by decide) (Opl.p1 (n := Opl.nil ?_))
 by_cases c1 : t606 = true
 case neg =>
  rw [if_neg c1] at H
  have e6 : (!t606) = true := by simpa using c1
  try rw [e6]
  refine Evr.condT rfl (Evr.sr rfl (Opl.p1 (n := Opl.nil ?_)))
  obtain rfl := Option.some.inj H
  refine Evr.ret1 Try.func25 rfl ?_
  show (.lit (.bool false) : PV) = _
  first | rfl | (simp only [go_sem]; rfl)
 rw [if_pos c1] at H
 have e1 : (!t606) = false := by simpa using c1
 try rw [e1]
 refine Evr.condF rfl (Evr.skip (Evr.seq (Evr.sr rfl (Opl.p1 (v := .ptr i1 1) (n := Opl.ldb (v := .lit (.int .i64 a0_1)) h3 rfl T3 rfl rfl rfl rfl (Opl.p1 (v := .ptr i2 1) (n := Opl.ldb (v := .lit (.int .i64 a1_1)) h2 rfl T3 rfl rfl rfl rfl (Opl.p1 (n := Opl.nil ?_)))))))))
 by_cases c2 : a0_1 = a1_1
 case neg =>
  rw [if_neg c2] at H
  have e5 : (a0_1 != a1_1) = true := by simpa using c2
  try rw [e5]
  refine Evr.condT rfl (Evr.sr rfl (Opl.p1 (n := Opl.nil ?_)))
  obtain rfl := Option.some.inj H
  refine Evr.ret1 Try.func25 rfl ?_
  show (.lit (.bool false) : PV) = _
  first | rfl | (simp only [go_sem]; rfl)
 rw [if_pos c2] at H
 have e2 : (a0_1 != a1_1) = false := by simpa using c2
 try rw [e2]
 refine Evr.condF rfl (Evr.skip (Evr.seq (Evr.sr rfl (Opl.p1 (v := .ptr i1 2) (n := Opl.ldb (v := v0_2) h3 rfl T23 rfl rfl rfl rfl (Opl.p1 (v := .ptr i2 2) (n := Opl.ldb (v := v1_2) h2 rfl T23 rfl rfl rfl rfl ?_)))))))
 obtain ⟨t607, h_t607, H⟩ := Option.bind_eq_some_iff.1 H
 refine Opl.callc (laws_eqIntSS.ev hv0_2 hv1_2 h_t607) rfl rfl rfl rfl ⟨hv0_2.plain, hv1_2.plain, trivial⟩ (by decide) (Opl.p1 (n := Opl.nil ?_))
 by_cases c3 : t607 = true
 case neg =>
  rw [if_neg c3] at H
  have e4 : (!t607) = true := by simpa using c3
  try rw [e4]
  refine Evr.condT rfl (Evr.sr rfl (Opl.p1 (n := Opl.nil ?_)))
  obtain rfl := Option.some.inj H
  refine Evr.ret1 Try.func25 rfl ?_
  show (.lit (.bool false) : PV) = _
  first | rfl | (simp only [go_sem]; rfl)
 rw [if_pos c3] at H
 have e3 : (!t607) = false := by simpa using c3
 try rw [e3]
 refine Evr.condF rfl (Evr.skip (Evr.sr rfl (Opl.p1 (n := Opl.nil ?_))))
 obtain rfl := Option.some.inj H
 refine Evr.ret1 Try.func25 rfl ?_
 show (.lit (.bool true) : PV) = _
 first | rfl | (simp only [go_sem]; rfl)
theorem laws_eqTree.ev {a0_0 : Int} {a0_1 : Int} {a0_2 : Int} {a0_3 : Int} {a1_0 : Int} {a1_1 : Int} {a1_2 : Int} {a1_3 : Int} {r : Bool} (H : laws_eqTree.f a0_0 a0_1 a0_2 a0_3 a1_0 a1_1 a1_2 a1_3 = some r) : Ret Try.prog 61 [.agg [.lit (.int .i64 a0_0), .lit (.int .i64 a0_1), .lit (.int .i64 a0_2), .lit (.int .i64 a0_3)], .agg [.lit (.int .i64 a1_0), .lit (.int .i64 a1_1), .lit (.int .i64 a1_2), .lit (.int .i64 a1_3)]] fun v S => v = .lit (.bool r) := by
 unfold laws_eqTree.f at H
 refine Ret.intro Try.func61 rfl (Nat.le_of_ble_eq_true rfl) rfl ?_
 rw [tm2]
 refine Evr.sr rfl (Opl.box (cs := [.lit (.int .i64 a0_0), .lit (.int .i64 a0_1), .lit (.int .i64 a0_2), .lit (.int .i64 a0_3)]) rfl rfl rfl rfl ?_)
 rintro i1 S h1 u1 w1
 refine Opl.box (cs := [.lit (.int .i64 a1_0), .lit (.int .i64 a1_1), .lit (.int .i64 a1_2), .lit (.int .i64 a1_3)]) rfl rfl rfl rfl ?_
 rintro i2 S h2 u2 w2
 have ap1 := w2.box h1
 have h3 := u2.box h1 ap1
 refine Opl.p1 (n := Opl.nil (Evr.seq (Evr.sr rfl (Opl.p1 (v := .ptr i1 0) (n := Opl.ldb (v := .lit (.int .i64 a0_0)) h3 rfl T3 rfl rfl rfl rfl (Opl.p1 (v := .ptr i2 0) (n := Opl.ldb (v := .lit (.int .i64 a1_0)) h2 rfl T3 rfl rfl rfl rfl (Opl.p1 (n := Opl.nil ?_)))))))))
 by_cases c1 : a0_0 = a1_0
 case neg =>
  rw [if_neg c1] at H
  have e8 : (a0_0 != a1_0) = true := by simpa using c1
  try rw [e8]
  refine Evr.condT rfl (Evr.sr rfl (Opl.p1 (n := Opl.nil ?_)))
  obtain rfl := Option.some.inj H
  refine Evr.ret1 Try.func61 rfl ?_
  show (.lit (.bool false) : PV) = _
  first | rfl | (simp only [go_sem]; rfl)
 rw [if_pos c1] at H
 have e1 : (a0_0 != a1_0) = false := by simpa using c1
 try rw [e1]
 refine Evr.condF rfl (Evr.skip (Evr.seq (Evr.sr rfl (Opl.p1 (v := .ptr i1 1) (n := Opl.ldb (v := .lit (.int .i64 a0_1)) h3 rfl T3 rfl rfl rfl rfl (Opl.p1 (v := .ptr i2 1) (n := Opl.ldb (v := .lit (.int .i64 a1_1)) h2 rfl T3 rfl rfl rfl rfl (Opl.p1 (n := Opl.nil ?_)))))))))
 by_cases c2 : a0_1 = a1_1
 case neg =>
  rw [if_neg c2] at H
  have e7 : (a0_1 != a1_1) = true := by simpa using c2
  try rw [e7]
  refine Evr.condT rfl (Evr.sr rfl (Opl.p1 (n := Opl.nil ?_)))
  obtain rfl := Option.some.inj H
  refine Evr.ret1 Try.func61 rfl ?_
  show (.lit (.bool false) : PV) = _
  first | rfl | (simp only [go_sem]; rfl)
 rw [if_pos c2] at H
 have e2 : (a0_1 != a1_1) = false := by simpa using c2
 try rw [e2]
 refine Evr.condF rfl (Evr.skip (Evr.seq (Evr.sr rfl (Opl.p1 (v := .ptr i1 2) (n := Opl.ldb (v := .lit (.int .i64 a0_2)) h3 rfl T3 rfl rfl rfl rfl (Opl.p1 (v := .ptr i2 2) (n := Opl.ldb (v := .lit (.int .i64 a1_2)) h2 rfl T3 rfl rfl rfl rfl (Opl.p1 (n := Opl.nil ?_)))))))))
 by_cases c3 : a0_2 = a1_2
 case neg =>
  rw [if_neg c3] at H
  have e6 : (a0_2 != a1_2) = true := by simpa using c3
  try rw [e6]
  refine Evr.condT rfl (Evr.sr rfl (Opl.p1 (n := Opl.nil ?_)))
  obtain rfl := Option.some.inj H
  refine Evr.ret1 Try.func61 rfl ?_
  show (.lit (.bool false) : PV) = _
  first | rfl | (simp only [go_sem]; rfl)
 rw [if_pos c3] at H
 have e3 : (a0_2 != a1_2) = false := by simpa using c3
 try rw [e3]
 refine Evr.condF rfl (Evr.skip (Evr.seq (Evr.sr rfl (Opl.p1 (v := .ptr i1 3) (n := Opl.ldb (v := .lit (.int .i64 a0_3)) h3 rfl T3 rfl rfl rfl rfl (Opl.p1 (v := .ptr i2 3) (n := Opl.ldb (v := .lit (.int .i64 a1_3)) h2 rfl T3 rfl rfl rfl rfl (Opl.p1 (n := Opl.nil ?_)))))))))
 by_cases c4 : a0_3 = a1_3
 case neg =>
  rw [if_neg c4] at H
  have e5 : (a0_3 != a1_3) = true := by simpa using c4
  try rw [e5]
  refine Evr.condT rfl (Evr.sr rfl (Opl.p1 (n := Opl.nil ?_)))
  obtain rfl := Option.some.inj H
  refine Evr.ret1 Try.func61 rfl ?_
  show (.lit (.bool false) : PV) = _
  first | rfl | (simp only [go_sem]; rfl)
 rw [if_pos c4] at H
 have e4 : (a0_3 != a1_3) = false := by simpa using c4
 try rw [e4]
 refine Evr.condF rfl (Evr.skip (Evr.sr rfl (Opl.p1 (n := Opl.nil ?_))))
 obtain rfl := Option.some.inj H
 refine Evr.ret1 Try.func61 rfl ?_
 show (.lit (.bool true) : PV) = _
 first | rfl | (simp only [go_sem]; rfl)
theorem laws_eqTreeS.ev {k : Nat} {l0 : List ITree} {v0 : PV} (hv0 : Sl cITree l0 v0) {l1 : List ITree} {v1 : PV} (hv1 : Sl cITree l1 v1) {r : Bool} (H : laws_eqTreeS.f k l0 l1 = some r) : Ret Try.prog 26 [v0, v1] fun v S => v = .lit (.bool r) := by
 unfold laws_eqTreeS.f at H
 refine Ret.intro Try.func26 rfl (Nat.le_of_ble_eq_true rfl) rfl ?_
 rw [tm2]
 refine Evr.sr rfl (Opl.p1 (n := Opl.nil (Evr.seq (Evr.sr rfl (Opl.p1 (n := Opl.len (xs := l0) (by exact hv0) K45 rfl rfl rfl rfl (Opl.p1 (n := Opl.len (xs := l1) (by exact hv1) K45 rfl rfl rfl rfl (Opl.p1 (n := Opl.nil ?_))))))))))
 by_cases c1 : (l0.length : Int) = (l1.length : Int)
 case neg =>
  rw [if_neg c1] at H
  have e6 : ((l0.length : Int) != (l1.length : Int)) = true := by simpa using c1
  try rw [e6]
  refine Evr.condT rfl (Evr.sr rfl (Opl.p1 (n := Opl.nil ?_)))
  obtain rfl := Option.some.inj H
  refine Evr.ret1 Try.func26 rfl ?_
  show (.lit (.bool false) : PV) = _
  first | rfl | (simp only [go_sem]; rfl)
 rw [if_pos c1] at H
 have e1 : ((l0.length : Int) != (l1.length : Int)) = false := by simpa using c1
 try rw [e1]
 refine Evr.condF rfl (Evr.skip (Evr.seq (Evr.sr rfl (Opl.p1 (n := Opl.nil (Evr.block ?_))))))
 refine Evr.loop (Evr.rounds (n := k) (Inv := fun n tm S => n ≤ k ∧ ∃ (x5_1 : Int), laws_eqTreeS.l0 n l0 l1 x5_1 = some r ∧ Has tm [(0, v0), (1, v1), (5, .lit (.int .i64 x5_1))]) ?_ ?_ ?_)
 · exact ⟨Nat.le_refl _, _, H, ⟨rfl, rfl, rfl, trivial⟩⟩
 ·
  rintro tm S ⟨_, _, H, -⟩
  simp [laws_eqTreeS.l0] at H
 ·
  rintro n1 ih1 tm S ⟨hle, x5_1, H, hh⟩
  simp only [laws_eqTreeS.l0] at H
  rw [hh.eq]
  refine Evr.seq (Evr.sr rfl (Opl.p1 (n := Opl.p1 (n := Opl.len (xs := l0) (by exact hv0) K45 rfl rfl rfl rfl (Opl.p1 (n := Opl.nil ?_))))))
  by_cases c2 : x5_1 < (l0.length : Int)
  case neg =>
   rw [if_neg c2] at H
   have e5 : (decide (x5_1 < (l0.length : Int))) = false := by simpa using c2
   try rw [e5]
   refine Evr.condF rfl (Evr.exit rfl (Evr.sr rfl (Opl.p1 (n := Opl.nil ?_))))
   obtain rfl := Option.some.inj H
   refine Evr.ret1 Try.func26 rfl ?_
   show (.lit (.bool true) : PV) = _
   first | rfl | (simp only [go_sem]; rfl)
  rw [if_pos c2] at H
  have e2 : (decide (x5_1 < (l0.length : Int))) = true := by simpa using c2
  try rw [e2]
  refine Evr.condT rfl (Evr.skip (Evr.seq (Evr.block (Evr.seq (Evr.regionD rfl (by kernel_rfl) (Opl.p1 (n := Opl.p1 (n := ?_))))))))
  obtain ⟨c3, H⟩ := peel H
  obtain ⟨c4, H⟩ := peel H
  refine Opl.idx (M := cITree) (xs := l0) (j := x5_1) zITree (by exact hv0) rfl (by omega) (by omega) K45 Z80 rfl rfl ?_
  rintro p1 q1 h1
  obtain rfl := cITree_R (x := (rd_ITree l0 x5_1)) h1
  refine Opl.lda (.agg [.lit (.int .i64 ((rd_ITree l0 x5_1).f0)), .lit (.int .i64 ((rd_ITree l0 x5_1).f1)), .lit (.int .i64 ((rd_ITree l0 x5_1).f2)), .lit (.int .i64 ((rd_ITree l0 x5_1).f3))]) rfl T80 rfl rfl rfl rfl (Opl.p1 (n := Opl.p1 (n := Opl.idx (M := cITree) (xs := l1) (j := x5_1) zITree (by exact hv1) rfl (by omega) (by omega) K45 Z80 rfl rfl ?_)))
  rintro p2 q2 h2
  obtain rfl := cITree_R (x := (rd_ITree l1 x5_1)) h2
  refine Opl.lda (.agg [.lit (.int .i64 ((rd_ITree l1 x5_1).f0)), .lit (.int .i64 ((rd_ITree l1 x5_1).f1)), .lit (.int .i64 ((rd_ITree l1 x5_1).f2)), .lit (.int .i64 ((rd_ITree l1 x5_1).f3))]) rfl T80 rfl rfl rfl rfl ?_
  obtain ⟨t612, h_t612, H⟩ := Option.bind_eq_some_iff.1 H
  refine Opl.callc (laws_eqTree.ev h_t612) rfl rfl rfl rfl ⟨(.aggL ⟨(.lit _), (.lit _), (.lit _), (.lit _), trivial⟩), (.aggL ⟨(.lit _), (.lit _), (.lit _), (.lit _), trivial⟩), trivial⟩ (by decide) (Opl.p1 (n := Opl.nil ?_))
  by_cases c5 : t612 = true
  case pos =>
   rw [if_pos c5] at H
   have e3 : (!t612) = false := by simpa using c5
   try rw [e3]
   refine Evr.condF rfl (Evr.skip (Evr.inBlock (Evr.regionN rfl (Opl.p1 (n := Opl.p1 (n := Opl.p1 (n := Opl.nil ?_)))))))
   exact ih1 _ (by omega) _ _ ⟨by omega, _, H, ⟨rfl, rfl, rfl, trivial⟩⟩
  rw [if_neg c5] at H
  have e4 : (!t612) = true := by simpa using c5
  try rw [e4]
  refine Evr.condT rfl (Evr.sr rfl (Opl.p1 (n := Opl.nil ?_)))
  obtain rfl := Option.some.inj H
  refine Evr.ret1 Try.func26 rfl ?_
  show (.lit (.bool false) : PV) = _
  first | rfl | (simp only [go_sem]; rfl)
theorem laws_heldIntS.ev {k : Nat} {l0 : List Int} {v0 : PV} (hv0 : Sl (cInt .i64) l0 v0) {a1 : Int} {r : Int} (H : laws_heldIntS.f k l0 a1 = some r) : Ret Try.prog 18 [v0, .lit (.int .i64 a1)] fun v S => v = .lit (.int .i64 r) := by
 unfold laws_heldIntS.f at H
 refine Ret.intro Try.func18 rfl (Nat.le_of_ble_eq_true rfl) rfl ?_
 rw [tm2]
 refine Evr.sr rfl (Opl.p1 (n := Opl.nil (Evr.seq (Evr.sr rfl (Opl.p1 (n := Opl.nil (Evr.block ?_)))))))
 refine Evr.loop (Evr.rounds (n := k) (Inv := fun n tm S => n ≤ k ∧ ∃ (x1_1 : Int) (x5_1 : Int), laws_heldIntS.l0 n l0 x1_1 x5_1 = some r ∧ Has tm [(0, v0), (1, .lit (.int .i64 x1_1)), (5, .lit (.int .i64 x5_1))]) ?_ ?_ ?_)
 · exact ⟨Nat.le_refl _, _, _, H, ⟨rfl, rfl, rfl, trivial⟩⟩
 ·
  rintro tm S ⟨_, _, _, H, -⟩
  simp [laws_heldIntS.l0] at H
 ·
  rintro n1 ih1 tm S ⟨hle, x1_1, x5_1, H, hh⟩
  simp only [laws_heldIntS.l0] at H
  rw [hh.eq]
  refine Evr.seq (Evr.sr rfl (Opl.p1 (n := Opl.p1 (n := Opl.len (xs := l0) (by exact hv0) K26 rfl rfl rfl rfl (Opl.p1 (n := Opl.nil ?_))))))
  by_cases c1 : x5_1 < (l0.length : Int)
  case neg =>
   rw [if_neg c1] at H
   have e4 : (decide (x5_1 < (l0.length : Int))) = false := by simpa using c1
   try rw [e4]
   refine Evr.condF rfl (Evr.exit rfl (Evr.sr rfl (Opl.p1 (n := Opl.p1 (n := Opl.nil ?_)))))
   obtain rfl := Option.some.inj H
   refine Evr.ret1 Try.func18 rfl ?_
   show (.lit (.int .i64 x1_1) : PV) = _
   first | rfl | (simp only [go_sem]; rfl)
  rw [if_pos c1] at H
  have e1 : (decide (x5_1 < (l0.length : Int))) = true := by simpa using c1
  try rw [e1]
  refine Evr.condT rfl (Evr.skip (Evr.seq (Evr.block (Evr.seq (Evr.sr rfl (Opl.p1 (n := Opl.p1 (n := ?_))))))))
  obtain ⟨c2, H⟩ := peel H
  refine Opl.idx (M := (cInt .i64)) (xs := l0) (j := x5_1) (0 : Int) (by exact hv0) rfl (by omega) (by omega) K26 Z3 rfl rfl ?_
  rintro p1 q1 h1
  obtain rfl : p1 = [.lit (.int .i64 (rd l0 x5_1))] := h1
  refine Opl.lda (.lit (.int .i64 (rd l0 x5_1))) rfl T3 rfl rfl rfl rfl (Opl.p1 (n := Opl.p1 (n := Opl.nil ?_)))
  by_cases c3 : (rd l0 x5_1) = x1_1
  case neg =>
   rw [if_neg c3] at H
   have e3 : ((rd l0 x5_1) != x1_1) = true := by simpa using c3
   try rw [e3]
   refine Evr.condT rfl (Evr.sr rfl (Opl.p1 (n := Opl.nil ?_)))
   obtain rfl := Option.some.inj H
   refine Evr.ret1 Try.func18 rfl ?_
   show (.lit (.int .i64 (-1)) : PV) = _
   first | rfl | (simp only [go_sem]; rfl)
  rw [if_pos c3] at H
  have e2 : ((rd l0 x5_1) != x1_1) = false := by simpa using c3
  try rw [e2]
  refine Evr.condF rfl (Evr.skip (Evr.regionN rfl (Opl.p1 (n := Opl.p1 (n := Opl.p1 (n := Opl.nil (Evr.inBlock (Evr.regionN rfl (Opl.p1 (n := Opl.p1 (n := Opl.p1 (n := Opl.nil ?_))))))))))))
  exact ih1 _ (by omega) _ _ ⟨by omega, _, _, H, ⟨rfl, rfl, rfl, trivial⟩⟩
theorem laws_szIntS.ev {l0 : List Int} {v0 : PV} (hv0 : Sl (cInt .i64) l0 v0) {a1 : Int} {r : Int} (H : laws_szIntS.f l0 a1 = some r) : Ret Try.prog 37 [v0, .lit (.int .i64 a1)] fun v S => v = .lit (.int .i64 r) := by
 unfold laws_szIntS.f at H
 refine Ret.intro Try.func37 rfl (Nat.le_of_ble_eq_true rfl) rfl ?_
 rw [tm2]
 refine Evr.sr rfl (Opl.p1 (n := Opl.nil (Evr.sr rfl (Opl.p1 (n := Opl.p1 (n := Opl.len (xs := l0) (by exact hv0) K26 rfl rfl rfl rfl (Opl.p1 (n := Opl.p1 (n := Opl.nil (Evr.seq (Evr.sr rfl (Opl.p1 (n := Opl.lss (a := (wrap64 (a1 - (l0.length : Int)))) (b := 0) K3 rfl rfl rfl rfl (Opl.nil ?_))))))))))))))
 by_cases c1 : (wrap64 (a1 - (l0.length : Int))) < 0
 case pos =>
  rw [if_pos c1] at H
  have e1 : (decide ((wrap64 (a1 - (l0.length : Int))) < 0)) = true := by simpa using c1
  try rw [e1]
  refine Evr.condT rfl (Evr.sr rfl (Opl.p1 (n := Opl.nil ?_)))
  obtain rfl := Option.some.inj H
  refine Evr.ret1 Try.func37 rfl ?_
  show (.lit (.int .i64 (-1)) : PV) = _
  first | rfl | (simp only [go_sem]; rfl)
 rw [if_neg c1] at H
 have e2 : (decide ((wrap64 (a1 - (l0.length : Int))) < 0)) = false := by simpa using c1
 try rw [e2]
 refine Evr.condF rfl (Evr.skip (Evr.sr rfl (Opl.p1 (n := Opl.p1 (n := Opl.nil ?_)))))
 obtain rfl := Option.some.inj H
 refine Evr.ret1 Try.func37 rfl ?_
 show (.lit (.int .i64 (wrap64 (a1 - (l0.length : Int)))) : PV) = _
 first | rfl | (simp only [go_sem]; rfl)
theorem laws_szIntSS.ev {k : Nat} {l0 : List (List Int)} {v0 : PV} (hv0 : Sl (cSl (cInt .i64)) l0 v0) {a1 : Int} {r : Int} (H : laws_szIntSS.f k l0 a1 = some r) : Ret Try.prog 7 [v0, .lit (.int .i64 a1)] fun v S => v = .lit (.int .i64 r) := by
 unfold laws_szIntSS.f at H
 refine Ret.intro Try.func7 rfl (Nat.le_of_ble_eq_true rfl) rfl ?_
 rw [tm2]
 refine Evr.sr rfl (Opl.p1 (n := Opl.nil (Evr.sr rfl (Opl.p1 (n := Opl.p1 (n := Opl.len (xs := l0) (by exact hv0) K23 rfl rfl rfl rfl (Opl.p1 (n := Opl.p1 (n := Opl.nil (Evr.seq (Evr.sr rfl (Opl.p1 (n := Opl.lss (a := (wrap64 (a1 - (l0.length : Int)))) (b := 0) K3 rfl rfl rfl rfl (Opl.nil ?_))))))))))))))
 by_cases c1 : (wrap64 (a1 - (l0.length : Int))) < 0
 case pos =>
  rw [if_pos c1] at H
  have e1 : (decide ((wrap64 (a1 - (l0.length : Int))) < 0)) = true := by simpa using c1
  try rw [e1]
  refine Evr.condT rfl (Evr.sr rfl (Opl.p1 (n := Opl.nil ?_)))
  obtain rfl := Option.some.inj H
  refine Evr.ret1 Try.func7 rfl ?_
  show (.lit (.int .i64 (-1)) : PV) = _
  first | rfl | (simp only [go_sem]; rfl)
 rw [if_neg c1] at H
 have e2 : (decide ((wrap64 (a1 - (l0.length : Int))) < 0)) = false := by simpa using c1
 try rw [e2]
 refine Evr.condF rfl (Evr.skip (Evr.seq (Evr.sr rfl (Opl.p1 (n := Opl.nil (Evr.block ?_))))))
 refine Evr.loop (Evr.rounds (n := k) (Inv := fun n tm S => n ≤ k ∧ ∃ (x1_1 : Int) (x5_1 : Int), laws_szIntSS.l0 n l0 x1_1 x5_1 = some r ∧ Has tm [(0, v0), (1, .lit (.int .i64 x1_1)), (5, .lit (.int .i64 x5_1))]) ?_ ?_ ?_)
 · exact ⟨Nat.le_refl _, _, _, H, ⟨rfl, rfl, rfl, trivial⟩⟩
 ·
  rintro tm S ⟨_, _, _, H, -⟩
  simp [laws_szIntSS.l0] at H
 ·
  rintro n1 ih1 tm S ⟨hle, x1_1, x5_1, H, hh⟩
  simp only [laws_szIntSS.l0] at H
  rw [hh.eq]
  refine Evr.seq (Evr.sr rfl (Opl.p1 (n := Opl.p1 (n := Opl.len (xs := l0) (by exact hv0) K23 rfl rfl rfl rfl (Opl.p1 (n := Opl.nil ?_))))))
  by_cases c2 : x5_1 < (l0.length : Int)
  case neg =>
   rw [if_neg c2] at H
   have e6 : (decide (x5_1 < (l0.length : Int))) = false := by simpa using c2
   try rw [e6]
   refine Evr.condF rfl (Evr.exit rfl (Evr.sr rfl (Opl.p1 (n := Opl.p1 (n := Opl.nil ?_)))))
   obtain rfl := Option.some.inj H
   refine Evr.ret1 Try.func7 rfl ?_
   show (.lit (.int .i64 x1_1) : PV) = _
   first | rfl | (simp only [go_sem]; rfl)
  rw [if_pos c2] at H
  have e3 : (decide (x5_1 < (l0.length : Int))) = true := by simpa using c2
  try rw [e3]
  refine Evr.condT rfl (Evr.skip (Evr.seq (Evr.block (Evr.sr rfl (Opl.p1 (n := Opl.p1 (n := ?_)))))))
  obtain ⟨c3, H⟩ := peel H
  refine Opl.idx (M := (cSl (cInt .i64))) (xs := l0) (j := x5_1) ([] : List Int) (by exact hv0) rfl (by omega) (by omega) K23 Z26 rfl rfl ?_
  rintro p1 q1 h1
  obtain ⟨pv1, rfl, h2⟩ := h1
  refine Opl.lda (pv1) rfl T26 rfl rfl rfl rfl (Opl.p1 (n := ?_))
  obtain ⟨t102, h_t102, H⟩ := Option.bind_eq_some_iff.1 H
  refine Opl.callc (laws_szIntS.ev h2 h_t102) rfl rfl rfl rfl ⟨h2.plain, (.lit _), trivial⟩ (by decide) (Opl.p1 (n := Opl.nil (Evr.sr rfl (Opl.p1 (n := Opl.p1 (n := Opl.nil ?_))))))
  by_cases c4 : t102 < 0
  case neg =>
   rw [if_neg c4] at H
   have e5 : (decide (t102 < 0)) = false := by simpa using c4
   try rw [e5]
   refine Evr.condF rfl (Evr.skip (Evr.inBlock (Evr.regionN rfl (Opl.p1 (n := Opl.p1 (n := Opl.p1 (n := Opl.nil ?_)))))))
   exact ih1 _ (by omega) _ _ ⟨by omega, _, _, H, ⟨rfl, rfl, rfl, trivial⟩⟩
  rw [if_pos c4] at H
  have e4 : (decide (t102 < 0)) = true := by simpa using c4
  try rw [e4]
  refine Evr.condT rfl (Evr.sr rfl (Opl.p1 (n := Opl.nil ?_)))
  obtain rfl := Option.some.inj H
  refine Evr.ret1 Try.func7 rfl ?_
  show (.lit (.int .i64 (-1)) : PV) = _
  first | rfl | (simp only [go_sem]; rfl)
theorem laws_szGraph.ev {k : Nat} {l0_0 : List (List Int)} {v0_0 : PV} (hv0_0 : Sl (cSl (cInt .i64)) l0_0 v0_0) {a0_1 : Int} {l0_2 : List (List Int)} {v0_2 : PV} (hv0_2 : Sl (cSl (cInt .i64)) l0_2 v0_2) {a1 : Int} {r : Int} (H : laws_szGraph.f k l0_0 a0_1 l0_2 a1 = some r) : Ret Try.prog 19 [.agg [v0_0, .lit (.int .i64 a0_1), v0_2], .lit (.int .i64 a1)] fun v S => v = .lit (.int .i64 r) := by
 unfold laws_szGraph.f at H
 refine Ret.intro Try.func19 rfl (Nat.le_of_ble_eq_true rfl) rfl ?_
 rw [tm2]
 refine Evr.sr rfl (Opl.box (cs := [v0_0, .lit (.int .i64 a0_1), v0_2]) rfl rfl rfl rfl ?_)
 rintro i1 S h1 u1 w1
 refine Opl.p1 (n := Opl.nil (Evr.sr rfl (Opl.p1 (v := .ptr i1 0) (n := Opl.ldb (v := v0_0) h1 rfl T23 rfl rfl rfl rfl (Opl.p1 (n := ?_))))))
 obtain ⟨t347, h_t347, H⟩ := Option.bind_eq_some_iff.1 H
 refine Opl.callc (laws_szIntSS.ev hv0_0 h_t347) rfl rfl rfl rfl ⟨hv0_0.plain, (.lit _), trivial⟩ (by decide) (Opl.p1 (n := Opl.nil (Evr.seq (Evr.sr rfl (Opl.p1 (n := Opl.p1 (n := Opl.nil ?_)))))))
 by_cases c1 : t347 < 0
 case pos =>
  rw [if_pos c1] at H
  have e1 : (decide (t347 < 0)) = true := by simpa using c1
  try rw [e1]
  refine Evr.condT rfl (Evr.sr rfl (Opl.p1 (n := Opl.nil ?_)))
  obtain rfl := Option.some.inj H
  refine Evr.ret1 Try.func19 rfl ?_
  show (.lit (.int .i64 (-1)) : PV) = _
  first | rfl | (simp only [go_sem]; rfl)
 rw [if_neg c1] at H
 have e2 : (decide (t347 < 0)) = false := by simpa using c1
 try rw [e2]
 refine Evr.condF rfl (Evr.skip (Evr.sr rfl (Opl.p1 (v := .ptr i1 2) (n := Opl.ldb (v := v0_2) h1 rfl T23 rfl rfl rfl rfl (Opl.p1 (n := ?_))))))
 obtain ⟨t348, h_t348, H⟩ := Option.bind_eq_some_iff.1 H
 refine Opl.callc (laws_szIntSS.ev hv0_2 h_t348) rfl rfl rfl rfl ⟨hv0_2.plain, (.lit _), trivial⟩ (by decide) (Opl.p1 (n := Opl.nil (Evr.seq (Evr.sr rfl (Opl.p1 (n := Opl.p1 (n := Opl.nil ?_)))))))
 by_cases c2 : t348 < 0
 case pos =>
  rw [if_pos c2] at H
  have e3 : (decide (t348 < 0)) = true := by simpa using c2
  try rw [e3]
  refine Evr.condT rfl (Evr.sr rfl (Opl.p1 (n := Opl.nil ?_)))
  obtain rfl := Option.some.inj H
  refine Evr.ret1 Try.func19 rfl ?_
  show (.lit (.int .i64 (-1)) : PV) = _
  first | rfl | (simp only [go_sem]; rfl)
 rw [if_neg c2] at H
 have e4 : (decide (t348 < 0)) = false := by simpa using c2
 try rw [e4]
 refine Evr.condF rfl (Evr.skip (Evr.sr rfl (Opl.p1 (n := Opl.p1 (n := Opl.nil ?_)))))
 obtain rfl := Option.some.inj H
 refine Evr.ret1 Try.func19 rfl ?_
 show (.lit (.int .i64 t348) : PV) = _
 first | rfl | (simp only [go_sem]; rfl)
theorem laws_szTreeS.ev {l0 : List LTree} {v0 : PV} (hv0 : Sl cLTree l0 v0) {a1 : Int} {r : Int} (H : laws_szTreeS.f l0 a1 = some r) : Ret Try.prog 20 [v0, .lit (.int .i64 a1)] fun v S => v = .lit (.int .i64 r) := by
 unfold laws_szTreeS.f at H
 refine Ret.intro Try.func20 rfl (Nat.le_of_ble_eq_true rfl) rfl ?_
 rw [tm2]
 refine Evr.sr rfl (Opl.p1 (n := Opl.nil (Evr.sr rfl (Opl.p1 (n := Opl.p1 (n := Opl.len (xs := l0) (by exact hv0) K39 rfl rfl rfl rfl (Opl.p1 (n := Opl.p1 (n := Opl.nil (Evr.seq (Evr.sr rfl (Opl.p1 (n := Opl.lss (a := (wrap64 (a1 - (l0.length : Int)))) (b := 0) K3 rfl rfl rfl rfl (Opl.nil ?_))))))))))))))
 by_cases c1 : (wrap64 (a1 - (l0.length : Int))) < 0
 case pos =>
  rw [if_pos c1] at H
  have e1 : (decide ((wrap64 (a1 - (l0.length : Int))) < 0)) = true := by simpa using c1
  try rw [e1]
  refine Evr.condT rfl (Evr.sr rfl (Opl.p1 (n := Opl.nil ?_)))
  obtain rfl := Option.some.inj H
  refine Evr.ret1 Try.func20 rfl ?_
  show (.lit (.int .i64 (-1)) : PV) = _
  first | rfl | (simp only [go_sem]; rfl)
 rw [if_neg c1] at H
 have e2 : (decide ((wrap64 (a1 - (l0.length : Int))) < 0)) = false := by simpa using c1
 try rw [e2]
 refine Evr.condF rfl (Evr.skip (Evr.sr rfl (Opl.p1 (n := Opl.p1 (n := Opl.nil ?_)))))
 obtain rfl := Option.some.inj H
 refine Evr.ret1 Try.func20 rfl ?_
 show (.lit (.int .i64 (wrap64 (a1 - (l0.length : Int)))) : PV) = _
 first | rfl | (simp only [go_sem]; rfl)
theorem laws_toIntS.ev {k : Nat} {l0 : List Int} {v0 : PV} (hv0 : Sl (cInt .i64) l0 v0) {r : (List Int)} (H : laws_toIntS.f k l0 = some r) : Ret Try.prog 43 [v0] fun v S => Vec (cInt .i64) r v S := by
 unfold laws_toIntS.f at H
 refine Ret.intro Try.func43 rfl (Nat.le_of_ble_eq_true rfl) rfl ?_
 rw [tm1]
 refine Evr.sr rfl (Opl.p1 (n := Opl.nil (Evr.sr rfl (Opl.p1 (n := Opl.len (xs := l0) (by exact hv0) K26 rfl rfl rfl rfl ?_)))))
 obtain ⟨c1, H⟩ := peel H
 obtain ⟨c2, H⟩ := peel H
 refine Opl.make (M := (cInt .i64)) (m := (l0.length : Int)) (0 : Int) (by exact rfl) rfl rfl K26 T3 rfl (by omega) (by show ((l0.length : Int)).toNat * 8 ≤ 281474976710656; omega) (by omega) rfl rfl rfl ?_
 rintro pv1 S h1 u1 w1
 refine Opl.p1 (n := Opl.nil (Evr.seq (Evr.sr rfl (Opl.p1 (n := Opl.nil (Evr.block ?_))))))
 refine Evr.loop (Evr.rounds (n := k) (Inv := fun n tm S => n ≤ k ∧ ∃ (x3_1 : List Int) (x4_1 : Int) (pv2 : PV), laws_toIntS.l0 n l0 x3_1 x4_1 = some r ∧ Has tm [(0, v0), (3, pv2), (4, .lit (.int .i64 x4_1))] ∧ Vec (cInt .i64) x3_1 pv2 S) ?_ ?_ ?_)
 · exact ⟨Nat.le_refl _, _, _, _, H, ⟨rfl, rfl, rfl, trivial⟩, h1⟩
 ·
  rintro tm S ⟨_, _, _, _, H, -⟩
  simp [laws_toIntS.l0] at H
 ·
  rintro n1 ih1 tm S ⟨hle, x3_1, x4_1, pv2, H, hh, h2⟩
  simp only [laws_toIntS.l0] at H
  rw [hh.eq]
  refine Evr.seq (Evr.sr rfl (Opl.p1 (n := Opl.p1 (n := Opl.len (xs := l0) (by exact hv0) K26 rfl rfl rfl rfl (Opl.p1 (n := Opl.nil ?_))))))
  by_cases c3 : x4_1 < (l0.length : Int)
  case neg =>
   rw [if_neg c3] at H
   have e2 : (decide (x4_1 < (l0.length : Int))) = false := by simpa using c3
   try rw [e2]
   refine Evr.condF rfl (Evr.exit rfl (Evr.sr rfl (Opl.p1 (n := Opl.p1 (n := Opl.nil ?_)))))
   obtain rfl := Option.some.inj H
   refine Evr.ret1 Try.func43 rfl ?_
   show Vec _ _ pv2 _
   exact h2
  rw [if_pos c3] at H
  have e1 : (decide (x4_1 < (l0.length : Int))) = true := by simpa using c3
  try rw [e1]
  refine Evr.condT rfl (Evr.skip (Evr.seq (Evr.block (Evr.regionN rfl (Opl.p1 (n := Opl.p1 (n := Opl.p1 (n := Opl.p1 (n := ?_)))))))))
  obtain ⟨c4, H⟩ := peel H
  obtain ⟨c5, H⟩ := peel H
  refine Opl.idx (M := (cInt .i64)) (xs := l0) (j := x4_1) (0 : Int) (by exact hv0) rfl (by omega) (by omega) K26 Z3 rfl rfl ?_
  rintro p1 q1 h3
  obtain rfl : p1 = [.lit (.int .i64 (rd l0 x4_1))] := h3
  refine Opl.lda (.lit (.int .i64 (rd l0 x4_1))) rfl T3 rfl rfl rfl rfl (Opl.idv (M := (cInt .i64)) (xs := x3_1) (j := x4_1) (v := pv2) h2 rfl rfl (by omega) (by omega) K26 Z3 rfl rfl ?_)
  rintro d1 z1 q2 h4 h5
  refine Opl.stv (M := (cInt .i64)) (xs := x3_1) (j := x4_1) (y := (rd l0 x4_1)) (vs := [.lit (.int .i64 (rd l0 x4_1))]) h4 h5 (by omega) (by omega) rfl rfl (by exact rfl) Z3 rfl rfl rfl rfl ?_
  rw [← q2]
  rintro S h6 u2
  refine Opl.nil (Evr.inBlock (Evr.regionN rfl (Opl.p1 (n := Opl.p1 (n := Opl.p1 (n := Opl.nil ?_))))))
  exact ih1 _ (by omega) _ _ ⟨by omega, _, _, _, H, ⟨rfl, rfl, rfl, trivial⟩, h6⟩
theorem laws_toIntSS.ev {k : Nat} {l0 : List (List Int)} {v0 : PV} (hv0 : Sl (cSl (cInt .i64)) l0 v0) {r : (List (List Int))} (H : laws_toIntSS.f k l0 = some r) : Ret Try.prog 10 [v0] fun v S => Vec (cSl (cInt .i64)) r v S := by
 unfold laws_toIntSS.f at H
 refine Ret.intro Try.func10 rfl (Nat.le_of_ble_eq_true rfl) rfl ?_
 rw [tm1]
 refine Evr.sr rfl (Opl.p1 (n := Opl.nil (Evr.sr rfl (Opl.p1 (n := Opl.len (xs := l0) (by exact hv0) K23 rfl rfl rfl rfl ?_)))))
 obtain ⟨c1, H⟩ := peel H
 obtain ⟨c2, H⟩ := peel H
 refine Opl.make (M := (cSl (cInt .i64))) (m := (l0.length : Int)) ([] : List Int) (by exact ⟨_, rfl, .nil⟩) rfl rfl K23 T26 rfl (by omega) (by show ((l0.length : Int)).toNat * 24 ≤ 281474976710656; omega) (by omega) rfl rfl rfl ?_
 rintro pv1 S h1 u1 w1
 refine Opl.p1 (n := Opl.nil (Evr.seq (Evr.sr rfl (Opl.p1 (n := Opl.nil (Evr.block ?_))))))
 refine Evr.loop (Evr.rounds (n := k) (Inv := fun n tm S => n ≤ k ∧ ∃ (x3_1 : List (List Int)) (x4_1 : Int) (pv2 : PV), laws_toIntSS.l0 n l0 x3_1 x4_1 = some r ∧ Has tm [(0, v0), (3, pv2), (4, .lit (.int .i64 x4_1))] ∧ Vec (cSl (cInt .i64)) x3_1 pv2 S) ?_ ?_ ?_)
 · exact ⟨Nat.le_refl _, _, _, _, H, ⟨rfl, rfl, rfl, trivial⟩, h1⟩
 ·
  rintro tm S ⟨_, _, _, _, H, -⟩
  simp [laws_toIntSS.l0] at H
 ·
  rintro n1 ih1 tm S ⟨hle, x3_1, x4_1, pv2, H, hh, h2⟩
  simp only [laws_toIntSS.l0] at H
  rw [hh.eq]
  refine Evr.seq (Evr.sr rfl (Opl.p1 (n := Opl.p1 (n := Opl.len (xs := l0) (by exact hv0) K23 rfl rfl rfl rfl (Opl.p1 (n := Opl.nil ?_))))))
  by_cases c3 : x4_1 < (l0.length : Int)
  case neg =>
   rw [if_neg c3] at H
   have e2 : (decide (x4_1 < (l0.length : Int))) = false := by simpa using c3
   try rw [e2]
   refine Evr.condF rfl (Evr.exit rfl (Evr.sr rfl (Opl.p1 (n := Opl.p1 (n := Opl.nil ?_)))))
   obtain rfl := Option.some.inj H
   refine Evr.ret1 Try.func10 rfl ?_
   show Vec _ _ pv2 _
   exact h2
  rw [if_pos c3] at H
  have e1 : (decide (x4_1 < (l0.length : Int))) = true := by simpa using c3
  try rw [e1]
  refine Evr.condT rfl (Evr.skip (Evr.seq (Evr.block (Evr.regionN rfl (Opl.p1 (n := Opl.p1 (n := Opl.p1 (n := Opl.p1 (n := ?_)))))))))
  obtain ⟨c4, H⟩ := peel H
  refine Opl.idx (M := (cSl (cInt .i64))) (xs := l0) (j := x4_1) ([] : List Int) (by exact hv0) rfl (by omega) (by omega) K23 Z26 rfl rfl ?_
  rintro p1 q1 h3
  obtain ⟨pv3, rfl, h4⟩ := h3
  refine Opl.lda (pv3) rfl T26 rfl rfl rfl rfl ?_
  obtain ⟨t273, h_t273, H⟩ := Option.bind_eq_some_iff.1 H
  refine Opl.call ((laws_toIntS.ev h4 h_t273).mono fun _ _ h => Out.vec h) rfl rfl rfl rfl ⟨h4.plain, trivial⟩ (by decide) ?_
  rintro pv4 h5
  obtain ⟨c5, H⟩ := peel H
  refine Opl.idv (M := (cSl (cInt .i64))) (xs := x3_1) (j := x4_1) (v := pv2) h2 rfl rfl (by omega) (by omega) K23 Z26 rfl rfl ?_
  rintro d1 z1 q2 h6 h7
  refine Opl.stv (M := (cSl (cInt .i64))) (xs := x3_1) (j := x4_1) (y := t273) (vs := [pv4]) h6 h7 (by omega) (by omega) rfl (by exact h5.cells) (by exact ⟨_, by first | rfl | exact h5.cells, h5⟩) Z26 (by simp only [List.all_cons, List.all_nil, h5.one, Bool.and_true, Bool.true_and] <;> rfl) rfl rfl rfl ?_
  rw [← q2]
  rintro S h8 u2
  refine Opl.nil (Evr.inBlock (Evr.regionN rfl (Opl.p1 (n := Opl.p1 (n := Opl.p1 (n := Opl.nil ?_))))))
  exact ih1 _ (by omega) _ _ ⟨by omega, _, _, _, H, ⟨rfl, rfl, rfl, trivial⟩, h8⟩
theorem laws_toGraph.ev {k : Nat} {l0_0 : List (List Int)} {v0_0 : PV} (hv0_0 : Sl (cSl (cInt .i64)) l0_0 v0_0) {a0_1 : Int} {l0_2 : List (List Int)} {v0_2 : PV} (hv0_2 : Sl (cSl (cInt .i64)) l0_2 v0_2) {r : (List (List Int) × Int × List (List Int))} (H : laws_toGraph.f k l0_0 a0_1 l0_2 = some r) : Ret Try.prog 22 [.agg [v0_0, .lit (.int .i64 a0_1), v0_2]] fun v S => Out (fun q => ∃ q1 q2 q3, q = .agg [q1, q2, q3] ∧ Sl (cSl (cInt .i64)) r.1 q1 ∧ q2 = .lit (.int .i64 r.2.1) ∧ Sl (cSl (cInt .i64)) r.2.2 q3) v S := by
 unfold laws_toGraph.f at H
 refine Ret.intro Try.func22 rfl (Nat.le_of_ble_eq_true rfl) rfl ?_
 rw [tm1]
 refine Evr.sr rfl (Opl.box (cs := [v0_0, .lit (.int .i64 a0_1), v0_2]) rfl rfl rfl rfl ?_)
 rintro i1 S h1 u1 w1
 refine Opl.alloc T43 rfl rfl rfl ?_
 rintro i2 S h2 u2 w2
 have ap1 := w2.box h1
 have h3 := u2.box h1 ap1
 refine Opl.nil (Evr.sr rfl (Opl.alloc T43 rfl rfl rfl ?_))
 rintro i3 S h4 u3 w3
 have ap2 := w3.box h3
 have h5 := u3.box h3 ap2
 have ap3 := w3.box h2
 have h6 := u3.box h2 ap3
 refine Opl.nil (Evr.sr rfl (Opl.p1 (v := .ptr i1 0) (n := Opl.ldb (v := v0_0) h5 rfl T23 rfl rfl rfl rfl ?_)))
 obtain ⟨t530, h_t530, H⟩ := Option.bind_eq_some_iff.1 H
 refine Opl.call ((laws_toIntSS.ev hv0_0 h_t530).mono fun _ _ h => Out.vec h) rfl rfl rfl rfl ⟨hv0_0.plain, trivial⟩ (by decide) ?_
 rintro pv1 h7
 refine Opl.p1 (v := .ptr i3 0) (n := Opl.stb (vs := [pv1]) h4 rfl (by exact h7.cells) Z23 rfl (Nat.le_of_ble_eq_true rfl) (by simp only [List.all_cons, List.all_nil, h7.one, Bool.and_true, Bool.true_and] <;> rfl) rfl rfl rfl ?_)
 rintro S (h8 : Box (.ptr i3 0) [pv1, .lit (.int .i64 0), .lit (.slice none 0 0)] _) u4
 have h9 := u4.box h5 ap2
 have h10 := u4.box h6 ap3
 refine Opl.nil (Evr.sr rfl (Opl.p1 (v := .ptr i1 1) (n := Opl.ldb (v := .lit (.int .i64 a0_1)) h9 rfl T3 rfl rfl rfl rfl (Opl.p1 (v := .ptr i3 1) (n := Opl.stb (vs := [.lit (.int .i64 a0_1)]) h8 rfl rfl Z3 rfl (Nat.le_of_ble_eq_true rfl) rfl rfl rfl rfl ?_)))))
 rintro S (h11 : Box (.ptr i3 0) [pv1, .lit (.int .i64 a0_1), .lit (.slice none 0 0)] _) u5
 have h12 := u5.box h9 ap2
 have h13 := u5.box h10 ap3
 refine Opl.nil (Evr.sr rfl (Opl.p1 (v := .ptr i1 2) (n := Opl.ldb (v := v0_2) h12 rfl T23 rfl rfl rfl rfl ?_)))
 obtain ⟨t533, h_t533, H⟩ := Option.bind_eq_some_iff.1 H
 refine Opl.call ((laws_toIntSS.ev hv0_2 h_t533).mono fun _ _ h => Out.vec h) rfl rfl rfl rfl ⟨hv0_2.plain, trivial⟩ (by decide) ?_
 rintro pv2 h14
 refine Opl.p1 (v := .ptr i3 2) (n := Opl.stb (vs := [pv2]) h11 rfl (by exact h14.cells) Z23 rfl (Nat.le_of_ble_eq_true rfl) (by simp only [List.all_cons, List.all_nil, h14.one, Bool.and_true, Bool.true_and] <;> rfl) rfl rfl rfl ?_)
 rintro S (h15 : Box (.ptr i3 0) [pv1, .lit (.int .i64 a0_1), pv2] _) u6
 have h16 := u6.box h12 ap2
 have h17 := u6.box h13 ap3
 refine Opl.nil (Evr.sr rfl (Opl.ldb (v := .agg [pv1, .lit (.int .i64 a0_1), pv2]) h15 rfl T43 rfl rfl rfl rfl (Opl.stb (vs := [pv1, .lit (.int .i64 a0_1), pv2]) h17 rfl rfl Z43 rfl (Nat.le_of_ble_eq_true rfl) (by simp only [List.all_cons, List.all_nil, h7.one, h14.one, Bool.and_true, Bool.true_and] <;> rfl) rfl rfl rfl ?_)))
 rintro S (h18 : Box (.ptr i2 0) [pv1, .lit (.int .i64 a0_1), pv2] _) u7
 have h19 := u7.box h16 ap1
 have h20 := u7.box h15 ap3.symm
 refine Opl.nil ?_
 obtain rfl := Option.some.inj H
 refine Evr.retb (v := .agg [pv1, .lit (.int .i64 a0_1), pv2]) Try.func22 rfl h18 rfl T43 rfl ?_
 show Out _ (.agg [pv1, .lit (.int .i64 a0_1), pv2]) _
 exact (.agg3 (.sl h7) .lit (.sl h14))
theorem laws_toTree.ev {a0_0 : Int} {a0_1 : Int} {a0_2 : Int} {a0_3 : Int} {r : (Int × Int × Int × Int)} (H : laws_toTree.f a0_0 a0_1 a0_2 a0_3 = some r) : Ret Try.prog 56 [.agg [.lit (.int .i64 a0_0), .lit (.int .i64 a0_1), .lit (.int .i64 a0_2), .lit (.int .i64 a0_3)]] fun v S => Out (fun q => ∃ q1 q2 q3 q4, q = .agg [q1, q2, q3, q4] ∧ q1 = .lit (.int .i64 r.1) ∧ q2 = .lit (.int .i64 r.2.1) ∧ q3 = .lit (.int .i64 r.2.2.1) ∧ q4 = .lit (.int .i64 r.2.2.2)) v S := by
 unfold laws_toTree.f at H
 refine Ret.intro Try.func56 rfl (Nat.le_of_ble_eq_true rfl) rfl ?_
 rw [tm1]
 refine Evr.sr rfl (Opl.box (cs := [.lit (.int .i64 a0_0), .lit (.int .i64 a0_1), .lit (.int .i64 a0_2), .lit (.int .i64 a0_3)]) rfl rfl rfl rfl ?_)
 rintro i1 S h1 u1 w1
 refine Opl.alloc T80 rfl rfl rfl ?_
 rintro i2 S h2 u2 w2
 have ap1 := w2.box h1
 have h3 := u2.box h1 ap1
 refine Opl.nil (Evr.sr rfl (Opl.alloc T80 rfl rfl rfl ?_))
 rintro i3 S h4 u3 w3
 have ap2 := w3.box h3
 have h5 := u3.box h3 ap2
 have ap3 := w3.box h2
 have h6 := u3.box h2 ap3
 refine Opl.nil (Evr.sr rfl (Opl.p1 (v := .ptr i1 0) (n := Opl.ldb (v := .lit (.int .i64 a0_0)) h5 rfl T3 rfl rfl rfl rfl (Opl.p1 (v := .ptr i3 0) (n := Opl.stb (vs := [.lit (.int .i64 a0_0)]) h4 rfl rfl Z3 rfl (Nat.le_of_ble_eq_true rfl) rfl rfl rfl rfl ?_)))))
 rintro S (h7 : Box (.ptr i3 0) [.lit (.int .i64 a0_0), .lit (.int .i64 0), .lit (.int .i64 0), .lit (.int .i64 0)] _) u4
 have h8 := u4.box h5 ap2
 have h9 := u4.box h6 ap3
 refine Opl.nil (Evr.sr rfl (Opl.p1 (v := .ptr i1 1) (n := Opl.ldb (v := .lit (.int .i64 a0_1)) h8 rfl T3 rfl rfl rfl rfl (Opl.p1 (v := .ptr i3 1) (n := Opl.stb (vs := [.lit (.int .i64 a0_1)]) h7 rfl rfl Z3 rfl (Nat.le_of_ble_eq_true rfl) rfl rfl rfl rfl ?_)))))
 rintro S (h10 : Box (.ptr i3 0) [.lit (.int .i64 a0_0), .lit (.int .i64 a0_1), .lit (.int .i64 0), .lit (.int .i64 0)] _) u5
 have h11 := u5.box h8 ap2
 have h12 := u5.box h9 ap3
 refine Opl.nil (Evr.sr rfl (Opl.p1 (v := .ptr i1 2) (n := Opl.ldb (v := .lit (.int .i64 a0_2)) h11 rfl T3 rfl rfl rfl rfl (Opl.p1 (v := .ptr i3 2) (n := Opl.stb (vs := [.lit (.int .i64 a0_2)]) h10 rfl rfl Z3 rfl (Nat.le_of_ble_eq_true rfl) rfl rfl rfl rfl ?_)))))
 rintro S (h13 : Box (.ptr i3 0) [.lit (.int .i64 a0_0), .lit (.int .i64 a0_1), .lit (.int .i64 a0_2), .lit (.int .i64 0)] _) u6
 have h14 := u6.box h11 ap2
 have h15 := u6.box h12 ap3
 refine Opl.nil (Evr.sr rfl (Opl.p1 (v := .ptr i1 3) (n := Opl.ldb (v := .lit (.int .i64 a0_3)) h14 rfl T3 rfl rfl rfl rfl (Opl.p1 (v := .ptr i3 3) (n := Opl.stb (vs := [.lit (.int .i64 a0_3)]) h13 rfl rfl Z3 rfl (Nat.le_of_ble_eq_true rfl) rfl rfl rfl rfl ?_)))))
 rintro S (h16 : Box (.ptr i3 0) [.lit (.int .i64 a0_0), .lit (.int .i64 a0_1), .lit (.int .i64 a0_2), .lit (.int .i64 a0_3)] _) u7
 have h17 := u7.box h14 ap2
 have h18 := u7.box h15 ap3
 refine Opl.nil (Evr.sr rfl (Opl.ldb (v := .agg [.lit (.int .i64 a0_0), .lit (.int .i64 a0_1), .lit (.int .i64 a0_2), .lit (.int .i64 a0_3)]) h16 rfl T80 rfl rfl rfl rfl (Opl.stb (vs := [.lit (.int .i64 a0_0), .lit (.int .i64 a0_1), .lit (.int .i64 a0_2), .lit (.int .i64 a0_3)]) h18 rfl rfl Z80 rfl (Nat.le_of_ble_eq_true rfl) rfl rfl rfl rfl ?_)))
 rintro S (h19 : Box (.ptr i2 0) [.lit (.int .i64 a0_0), .lit (.int .i64 a0_1), .lit (.int .i64 a0_2), .lit (.int .i64 a0_3)] _) u8
 have h20 := u8.box h17 ap1
 have h21 := u8.box h16 ap3.symm
 refine Opl.nil ?_
 obtain rfl := Option.some.inj H
 refine Evr.retb (v := .agg [.lit (.int .i64 a0_0), .lit (.int .i64 a0_1), .lit (.int .i64 a0_2), .lit (.int .i64 a0_3)]) Try.func56 rfl h19 rfl T80 rfl ?_
 show Out _ (.agg [.lit (.int .i64 a0_0), .lit (.int .i64 a0_1), .lit (.int .i64 a0_2), .lit (.int .i64 a0_3)]) _
 exact (.agg4 .lit .lit .lit .lit)
theorem laws_toTreeS.ev {k : Nat} {l0 : List LTree} {v0 : PV} (hv0 : Sl cLTree l0 v0) {r : (List ITree)} (H : laws_toTreeS.f k l0 = some r) : Ret Try.prog 23 [v0] fun v S => Vec cITree r v S := by
 unfold laws_toTreeS.f at H
 refine Ret.intro Try.func23 rfl (Nat.le_of_ble_eq_true rfl) rfl ?_
 rw [tm1]
 refine Evr.sr rfl (Opl.p1 (n := Opl.nil (Evr.sr rfl (Opl.p1 (n := Opl.len (xs := l0) (by exact hv0) K39 rfl rfl rfl rfl ?_)))))
 obtain ⟨c1, H⟩ := peel H
 obtain ⟨c2, H⟩ := peel H
 refine Opl.make (M := cITree) (m := (l0.length : Int)) zITree (by exact cITree_z) rfl rfl K45 T80 rfl (by omega) (by show ((l0.length : Int)).toNat * 32 ≤ 281474976710656; omega) (by omega) rfl rfl rfl ?_
 rintro pv1 S h1 u1 w1
 refine Opl.p1 (n := Opl.nil (Evr.seq (Evr.sr rfl (Opl.p1 (n := Opl.nil (Evr.block ?_))))))
 refine Evr.loop (Evr.rounds (n := k) (Inv := fun n tm S => n ≤ k ∧ ∃ (x3_1 : List (ITree)) (x4_1 : Int) (pv2 : PV), laws_toTreeS.l0 n l0 x3_1 x4_1 = some r ∧ Has tm [(0, v0), (3, pv2), (4, .lit (.int .i64 x4_1))] ∧ Vec cITree x3_1 pv2 S) ?_ ?_ ?_)
 · exact ⟨Nat.le_refl _, _, _, _, H, ⟨rfl, rfl, rfl, trivial⟩, h1⟩
 ·
  rintro tm S ⟨_, _, _, _, H, -⟩
  simp [laws_toTreeS.l0] at H
 ·
  rintro n1 ih1 tm S ⟨hle, x3_1, x4_1, pv2, H, hh, h2⟩
  simp only [laws_toTreeS.l0] at H
  rw [hh.eq]
  refine Evr.seq (Evr.sr rfl (Opl.p1 (n := Opl.p1 (n := Opl.len (xs := l0) (by exact hv0) K39 rfl rfl rfl rfl (Opl.p1 (n := Opl.nil ?_))))))
  by_cases c3 : x4_1 < (l0.length : Int)
  case neg =>
   rw [if_neg c3] at H
   have e2 : (decide (x4_1 < (l0.length : Int))) = false := by simpa using c3
   try rw [e2]
   refine Evr.condF rfl (Evr.exit rfl (Evr.sr rfl (Opl.p1 (n := Opl.p1 (n := Opl.nil ?_)))))
   obtain rfl := Option.some.inj H
   refine Evr.ret1 Try.func23 rfl ?_
   show Vec _ _ pv2 _
   exact h2
  rw [if_pos c3] at H
  have e1 : (decide (x4_1 < (l0.length : Int))) = true := by simpa using c3
  try rw [e1]
  refine Evr.condT rfl (Evr.skip (Evr.seq (Evr.block (Evr.regionN rfl (Opl.p1 (n := Opl.p1 (n := Opl.p1 (n := Opl.p1 (n := ?_)))))))))
  obtain ⟨c4, H⟩ := peel H
  refine Opl.idx (M := cLTree) (xs := l0) (j := x4_1) zLTree (by exact hv0) rfl (by omega) (by omega) K39 Z83 rfl rfl ?_
  rintro p1 q1 h3
  obtain rfl := cLTree_R (x := (rd_LTree l0 x4_1)) h3
  refine Opl.lda (.agg [.lit (.int .i64 ((rd_LTree l0 x4_1).f0)), .lit (.int .i64 ((rd_LTree l0 x4_1).f1)), .lit (.int .i64 ((rd_LTree l0 x4_1).f2)), .lit (.int .i64 ((rd_LTree l0 x4_1).f3))]) rfl T83 rfl rfl rfl rfl ?_
  obtain ⟨bt543, h_bt543, H⟩ := Option.bind_eq_some_iff.1 H
  refine Opl.call (laws_toTree.ev h_bt543) rfl rfl rfl rfl ⟨(.aggL ⟨(.lit _), (.lit _), (.lit _), (.lit _), trivial⟩), trivial⟩ (by decide) ?_
  rintro _ ⟨_, _, _, _, rfl, rfl, rfl, rfl, rfl⟩
  obtain ⟨c5, H⟩ := peel H
  refine Opl.idv (M := cITree) (xs := x3_1) (j := x4_1) (v := pv2) h2 rfl rfl (by omega) (by omega) K45 Z80 rfl rfl ?_
  rintro d1 z1 q2 h5 h6
  refine Opl.stv (M := cITree) (xs := x3_1) (j := x4_1) (y := (⟨bt543.1, bt543.2.1, bt543.2.2.1, bt543.2.2.2⟩ : ITree)) (vs := [.lit (.int .i64 bt543.1), .lit (.int .i64 bt543.2.1), .lit (.int .i64 bt543.2.2.1), .lit (.int .i64 bt543.2.2.2)]) h5 h6 (by omega) (by omega) rfl rfl (by exact cITree_mk) Z80 rfl rfl rfl rfl ?_
  rw [← q2]
  rintro S h7 u2
  refine Opl.nil (Evr.inBlock (Evr.regionN rfl (Opl.p1 (n := Opl.p1 (n := Opl.p1 (n := Opl.nil ?_))))))
  exact ih1 _ (by omega) _ _ ⟨by omega, _, _, _, H, ⟨rfl, rfl, rfl, trivial⟩, h7⟩
theorem laws_toIntSS.mk {k : Nat} {l0 : List (List Int)} {v0 : PV} (hv0 : Sl (cSl (cInt .i64)) l0 v0) {r : (List (List Int))} (H : laws_toIntSS.f k l0 = some r) : Makes Try.prog 10 [v0] (oRow (oRow (oPl (cInt .i64) (oInt .i64)))) r first := by
 unfold laws_toIntSS.f at H
 refine Makes.intro Try.func10 rfl (Nat.le_of_ble_eq_true rfl) rfl fun S0 => ?_
 rw [tm1]
 refine Evr.sr rfl (Opl.p1 (n := Opl.nil (Evr.sr rfl (Opl.p1 (n := Opl.len (xs := l0) (by exact hv0) K23 rfl rfl rfl rfl ?_)))))
 obtain ⟨c1, H⟩ := peel H
 obtain ⟨c2, H⟩ := peel H
 refine Opl.maket (N := (oRow (oPl (cInt .i64) (oInt .i64)))) (m := (l0.length : Int)) ([] : List Int) (by intro S; exact .inl ⟨rfl, rfl, rfl⟩) rfl rfl K23 T26 rfl (by omega) (by show ((l0.length : Int)).toNat * 24 ≤ 281474976710656; omega) (by omega) rfl rfl rfl ?_
 rintro pv1 S ids1 h1 f1 g1
 refine Opl.p1 (n := Opl.nil (Evr.seq (Evr.sr rfl (Opl.p1 (n := Opl.nil (Evr.block ?_))))))
 refine Evr.loop (Evr.rounds (n := k) (Inv := fun n tm S => n ≤ k ∧ ∃ (x3_1 : List (List Int)) (x4_1 : Int) (pv2 : PV) (ids2 : List Abs.Id), laws_toIntSS.l0 n l0 x3_1 x4_1 = some r ∧ Has tm [(0, v0), (3, pv2), (4, .lit (.int .i64 x4_1))] ∧ (oRow (oRow (oPl (cInt .i64) (oInt .i64)))).R S ids2 x3_1 [pv2] ∧ Fresh S0 ids2 ∧ Grow S0 S) ?_ ?_ ?_)
 · exact ⟨Nat.le_refl _, _, _, _, _, H, ⟨rfl, rfl, rfl, trivial⟩, h1, f1, g1⟩
 ·
  rintro tm S ⟨_, _, _, _, _, H, -⟩
  simp [laws_toIntSS.l0] at H
 ·
  rintro n1 ih1 tm S ⟨hle, x3_1, x4_1, pv2, ids2, H, hh, h2, f2, g2⟩
  simp only [laws_toIntSS.l0] at H
  rw [hh.eq]
  refine Evr.seq (Evr.sr rfl (Opl.p1 (n := Opl.p1 (n := Opl.len (xs := l0) (by exact hv0) K23 rfl rfl rfl rfl (Opl.p1 (n := Opl.nil ?_))))))
  by_cases c3 : x4_1 < (l0.length : Int)
  case neg =>
   rw [if_neg c3] at H
   have e2 : (decide (x4_1 < (l0.length : Int))) = false := by simpa using c3
   try rw [e2]
   refine Evr.condF rfl (Evr.exit rfl (Evr.sr rfl (Opl.p1 (n := Opl.p1 (n := Opl.nil ?_)))))
   obtain rfl := Option.some.inj H
   refine Evr.ret1 Try.func10 rfl ?_
   exact ⟨[pv2], ids2, rfl, h2, f2, g2⟩
  rw [if_pos c3] at H
  have e1 : (decide (x4_1 < (l0.length : Int))) = true := by simpa using c3
  try rw [e1]
  refine Evr.condT rfl (Evr.skip (Evr.seq (Evr.block (Evr.regionN rfl (Opl.p1 (n := Opl.p1 (n := Opl.p1 (n := Opl.p1 (n := ?_)))))))))
  obtain ⟨c4, H⟩ := peel H
  refine Opl.idx (M := (cSl (cInt .i64))) (xs := l0) (j := x4_1) ([] : List Int) (by exact hv0) rfl (by omega) (by omega) K23 Z26 rfl rfl ?_
  rintro p1 q1 h3
  obtain ⟨pv3, rfl, h4⟩ := h3
  refine Opl.lda (pv3) rfl T26 rfl rfl rfl rfl ?_
  obtain ⟨t273, h_t273, H⟩ := Option.bind_eq_some_iff.1 H
  refine Opl.calla (laws_toIntS.ev h4 h_t273) rfl rfl rfl rfl ⟨h4.plain, trivial⟩ rfl ?_
  rintro pe S hV uV wV
  have h5 := hV.tree (oInt .i64)
  have f3 := wV.fresh
  have g3 := Grow.of uV wV
  have ap := f3.tree h2
  have h2' := g3.tree h2
  obtain ⟨c5, H⟩ := peel H
  refine Opl.idt (N := (oRow (oPl (cInt .i64) (oInt .i64)))) (xs := x3_1) (j := x4_1) (v := pv2) h2' rfl rfl (by omega) (by omega) K23 Z26 rfl rfl ?_
  rintro d1 q2
  refine Opl.stt (N := (oRow (oPl (cInt .i64) (oInt .i64)))) (xs := x3_1) (j := x4_1) (ids := ids2) (y := t273) (vs := [pe]) (by rw [← q2]; exact h2') (by omega) (by omega) rfl (by exact oRow_cells h5) (by exact h5) ap Z26 rfl rfl rfl ?_
  rw [← q2]
  rintro S ids4 h8 m4 u2
  have g4 := (g2.trans g3).up u2 (oRow_new h2' f2)
  have f4 := Fresh.or m4 f2 (f3.mono g2)
  refine Opl.nil (Evr.inBlock (Evr.regionN rfl (Opl.p1 (n := Opl.p1 (n := Opl.p1 (n := Opl.nil ?_))))))
  exact ih1 _ (by omega) _ _ ⟨by omega, _, _, _, _, H, ⟨rfl, rfl, rfl, trivial⟩, h8, f4, g4⟩
theorem laws_toGraph.mk {k : Nat} {l0_0 : List (List Int)} {v0_0 : PV} (hv0_0 : Sl (cSl (cInt .i64)) l0_0 v0_0) {a0_1 : Int} {l0_2 : List (List Int)} {v0_2 : PV} (hv0_2 : Sl (cSl (cInt .i64)) l0_2 v0_2) {r : (List (List Int) × Int × List (List Int))} (H : laws_toGraph.f k l0_0 a0_1 l0_2 = some r) : Makes Try.prog 22 [.agg [v0_0, .lit (.int .i64 a0_1), v0_2]] (oPr (oRow (oRow (oPl (cInt .i64) (oInt .i64)))) (oPr (oPl (cInt .i64) (oInt .i64)) (oRow (oRow (oPl (cInt .i64) (oInt .i64)))))) r .agg := by
 unfold laws_toGraph.f at H
 refine Makes.intro Try.func22 rfl (Nat.le_of_ble_eq_true rfl) rfl fun S0 => ?_
 rw [tm1]
 refine Evr.sr rfl (Opl.box (cs := [v0_0, .lit (.int .i64 a0_1), v0_2]) rfl rfl rfl rfl ?_)
 rintro i1 S h1 u1 w1
 have gg1 := Grow.of u1 w1
 have bbi1 := w1
 refine Opl.alloc T43 rfl rfl rfl ?_
 rintro i2 S h2 u2 w2
 have gg2 := gg1.trans (Grow.of u2 w2)
 have bbi2 := w2.mono gg1
 have ap1 := w2.box h1
 have h3 := u2.box h1 ap1
 refine Opl.nil (Evr.sr rfl (Opl.alloc T43 rfl rfl rfl ?_))
 rintro i3 S h4 u3 w3
 have gg3 := gg2.trans (Grow.of u3 w3)
 have bbi3 := w3.mono gg2
 have ap2 := w3.box h3
 have h5 := u3.box h3 ap2
 have ap3 := w3.box h2
 have h6 := u3.box h2 ap3
 refine Opl.nil (Evr.sr rfl (Opl.p1 (v := .ptr i1 0) (n := Opl.ldb (v := v0_0) h5 rfl T23 rfl rfl rfl rfl ?_)))
 obtain ⟨t530, h_t530, H⟩ := Option.bind_eq_some_iff.1 H
 refine Opl.callr (laws_toIntSS.mk hv0_0 h_t530) rfl rfl rfl rfl rfl ?_
 rintro pv1 S ids0 h7 ff0 gj
 have ati10 := ff0.box h5
 have h5 := gj.box h5
 have ati20 := ff0.box h6
 have h6 := gj.box h6
 have ati30 := ff0.box h4
 have h4 := gj.box h4
 have fz0 := ff0.mono gg3
 have gg4 := gg3.trans gj
 refine Opl.p1 (v := .ptr i3 0) (n := Opl.stb (vs := [pv1]) h4 rfl (by exact oRow_cells h7) Z23 rfl (Nat.le_of_ble_eq_true rfl) (by simp only [List.all_cons, List.all_nil, oRow_p1 h7, Bool.and_true, Bool.true_and] <;> rfl) rfl rfl rfl ?_)
 rintro S (h8 : Box (.ptr i3 0) [pv1, .lit (.int .i64 0), .lit (.slice none 0 0)] _) u4
 have h7 := u4.tree h7 ati30
 have gg5 := gg4.up u4 bbi3
 have h9 := u4.box h5 ap2
 have h10 := u4.box h6 ap3
 refine Opl.nil (Evr.sr rfl (Opl.p1 (v := .ptr i1 1) (n := Opl.ldb (v := .lit (.int .i64 a0_1)) h9 rfl T3 rfl rfl rfl rfl (Opl.p1 (v := .ptr i3 1) (n := Opl.stb (vs := [.lit (.int .i64 a0_1)]) h8 rfl rfl Z3 rfl (Nat.le_of_ble_eq_true rfl) rfl rfl rfl rfl ?_)))))
 rintro S (h11 : Box (.ptr i3 0) [pv1, .lit (.int .i64 a0_1), .lit (.slice none 0 0)] _) u5
 have h7 := u5.tree h7 ati30
 have gg6 := gg5.up u5 bbi3
 have h12 := u5.box h9 ap2
 have h13 := u5.box h10 ap3
 refine Opl.nil (Evr.sr rfl (Opl.p1 (v := .ptr i1 2) (n := Opl.ldb (v := v0_2) h12 rfl T23 rfl rfl rfl rfl ?_)))
 obtain ⟨t533, h_t533, H⟩ := Option.bind_eq_some_iff.1 H
 refine Opl.callr (laws_toIntSS.mk hv0_2 h_t533) rfl rfl rfl rfl rfl ?_
 rintro pv2 S ids1 h14 ff1 gj
 have ati11 := ff1.box h12
 have h12 := gj.box h12
 have ati21 := ff1.box h13
 have h13 := gj.box h13
 have ati31 := ff1.box h11
 have h11 := gj.box h11
 have apt01 := ff1.tree h7
 have h7 := gj.tree h7
 have fz1 := ff1.mono gg6
 have gg7 := gg6.trans gj
 refine Opl.p1 (v := .ptr i3 2) (n := Opl.stb (vs := [pv2]) h11 rfl (by exact oRow_cells h14) Z23 rfl (Nat.le_of_ble_eq_true rfl) (by simp only [List.all_cons, List.all_nil, oRow_p1 h14, Bool.and_true, Bool.true_and] <;> rfl) rfl rfl rfl ?_)
 rintro S (h15 : Box (.ptr i3 0) [pv1, .lit (.int .i64 a0_1), pv2] _) u6
 have h7 := u6.tree h7 ati30
 have h14 := u6.tree h14 ati31
 have gg8 := gg7.up u6 bbi3
 have h16 := u6.box h12 ap2
 have h17 := u6.box h13 ap3
 refine Opl.nil (Evr.sr rfl (Opl.ldb (v := .agg [pv1, .lit (.int .i64 a0_1), pv2]) h15 rfl T43 rfl rfl rfl rfl (Opl.stb (vs := [pv1, .lit (.int .i64 a0_1), pv2]) h17 rfl rfl Z43 rfl (Nat.le_of_ble_eq_true rfl) (by simp only [List.all_cons, List.all_nil, oRow_p1 h7, oRow_p1 h14, Bool.and_true, Bool.true_and] <;> rfl) rfl rfl rfl ?_)))
 rintro S (h18 : Box (.ptr i2 0) [pv1, .lit (.int .i64 a0_1), pv2] _) u7
 have h7 := u7.tree h7 ati20
 have h14 := u7.tree h14 ati21
 have gg9 := gg8.up u7 bbi2
 have h19 := u7.box h16 ap1
 have h20 := u7.box h15 ap3.symm
 refine Opl.nil ?_
 obtain rfl := Option.some.inj H
 refine Evr.retb (v := .agg [pv1, .lit (.int .i64 a0_1), pv2]) Try.func22 rfl h18 rfl T43 rfl ?_
 exact ⟨[pv1, .lit (.int .i64 a0_1), pv2], _, rfl, ⟨[pv1], [.lit (.int .i64 a0_1), pv2], _, _, rfl, rfl, apt01, h7, ⟨[.lit (.int .i64 a0_1)], [pv2], [], _, rfl, rfl, .nil, ⟨rfl, rfl⟩, h14⟩⟩, (fz0.append fz1), gg9⟩
theorem laws_markIntS.mks : Mks Try.prog 17 (oRow (oPl (cInt .i64) (oInt .i64))) (leaves fun _ => 1) okAny first := by
 intro S0 ids l c k h hok h0 hb
 obtain ⟨p, rfl⟩ := oRow_one h
 show RetS _ _ [p, _] _ _
 refine RetS.intro Try.func17 rfl (Nat.le_of_ble_eq_true rfl) rfl ?_
 rw [tm2]
 obtain ⟨hv, rfl⟩ := tree_vec h
 rw [leaves_const] at hb ⊢
 have hlen := hv.len
 refine Evr.seq (Evr.regionN rfl (Opl.one rfl rfl (by simp only [go_sem]; rfl) (Opl.nil (Evr.seq (Evr.seq (Evr.regionN rfl (Opl.one rfl rfl (by simp only [go_sem]; rfl) (Opl.nil (Evr.block ?_)))))))))
 refine Evr.loop (Evr.rounds (n := l.length + 1) (Inv := fun n tm S => ∃ (k1 i : Int), Has tm [(0, p), (1, .lit (.int .i64 k1)), (5, .lit (.int .i64 i))] ∧ 0 ≤ i ∧ i ≤ l.length ∧ i + n = l.length + 1 ∧ k1 = k + i * 1 ∧ Flat S0 S p l.length 1) ?_ ?_ ?_)
 · exact ⟨k, 0, ⟨rfl, rfl, rfl, trivial⟩, by omega, by omega, by omega, by omega, Flat.of ints_int hv⟩
 · rintro tm S ⟨k1, i, -, h1, h2, h3, -⟩
   omega
 rintro n ih tm S ⟨k1, i, hh, h1, h2, h3, rfl, hf⟩
 rw [hh.eq]
 refine Evr.seq (Evr.seq (Evr.regionN rfl (Opl.one rfl rfl (by simp only [go_sem]; rfl) (Opl.one rfl rfl (by simp only [go_sem]; rfl) (Opl.leno (by exact hlen) K26 rfl rfl rfl rfl (Opl.one rfl rfl (by simp only [go_sem]; rfl) (Opl.nil ?_)))))))
 by_cases c : i < (l.length : Int)
 · have e : (decide (i < (l.length : Int))) = true := by simpa using c
   try rw [e]
   obtain ⟨_, ⟨hz, _⟩ | ⟨d, cs, hp, hl, hc, ha, hs⟩⟩ := hf
   · omega
   refine Evr.condT rfl (Evr.skip (Evr.seq (Evr.block (Evr.seq (Evr.regionN rfl (Opl.one rfl rfl (by simp only [go_sem]; rfl) (Opl.one rfl rfl (by simp only [go_sem]; rfl) (Opl.one rfl rfl (by simp only [go_sem]; rfl) (Opl.ido (d := d) (m := l.length) (j := i) (es := 1) (by exact hp) rfl (by omega) (by omega) K26 Z3 rfl rfl ?_)))))))))
   refine Opl.stoi (off := i.toNat * 1) hl ha rfl rfl Z3 (by omega) rfl rfl rfl ?_
   rintro cs S hl hc1 ha hs1
   have hs := hs.trans hs1 (fun _ h => h)
   have hc := hc1.trans hc
   refine Opl.nil (Evr.regionN rfl (Opl.one rfl rfl (by simp only [go_sem]; rfl) (Opl.one rfl rfl (by simp only [go_sem]; rfl) (Opl.one rfl rfl (by simp only [go_sem]; rfl) (Opl.nil ?_)))))
   rw [wrap_of (x := (k + i * 1) + 1) (by omega) (by omega)]
   refine Evr.inBlock (Evr.regionN rfl (Opl.one rfl rfl (by simp only [go_sem]; rfl) (Opl.one rfl rfl (by simp only [go_sem]; rfl) (Opl.one rfl rfl (by simp only [go_sem]; rfl) (Opl.nil ?_)))))
   rw [wrap_of (x := i + 1) (by omega) (by omega)]
   exact ih n (Nat.le_refl _) _ _ ⟨((k + i * 1) + 1), i + 1, ⟨rfl, rfl, rfl, trivial⟩, by omega, by omega, by omega, by omega, hlen, .inr ⟨d, _, hp, hl, hc, ha, hs⟩⟩
 · have e : (decide (i < (l.length : Int))) = false := by simpa using c
   try rw [e]
   refine Evr.condF rfl (Evr.exit rfl (Evr.seq (Evr.regionN rfl (Opl.one rfl rfl (by simp only [go_sem]; rfl) (Opl.one rfl rfl (by simp only [go_sem]; rfl) (Opl.nil ?_))))))
   refine Evr.ret1 Try.func17 rfl ?_
   obtain rfl : i = l.length := by omega
   obtain ⟨ids', a', g1, g2, g3, g4⟩ := Flat.done ints_int (oInt .i64) hv hf
   exact ⟨by rw [show ((l.length * 1 : Nat) : Int) = l.length * 1 by omega]; rfl, ids', a', g1, g2, by rw [leaves_const, g3], trivial, g4⟩
theorem laws_markIntS.evm {k : Nat} {l0 : List Int} {p : PV} {a1 : Int} {S0 : Sto} (hv : Vec (cInt .i64) l0 p S0) {r : Int × List Int} (H : laws_markIntS.f k l0 a1 = some r) : RetS Try.prog 17 [p, .lit (.int .i64 a1)] S0 fun v S => v = .lit (.int .i64 r.1) ∧ Vec (cInt .i64) r.2 p S ∧ Same S0 S p.id?.toList := by
 unfold laws_markIntS.f at H
 refine RetS.intro Try.func17 rfl (Nat.le_of_ble_eq_true rfl) rfl ?_
 rw [tm2]
 refine Evr.seq (Evr.regionN rfl (Opl.one rfl rfl (by simp only [go_sem]; rfl) (Opl.nil (Evr.seq (Evr.seq (Evr.regionN rfl (Opl.one rfl rfl (by simp only [go_sem]; rfl) (Opl.nil (Evr.block ?_)))))))))
 refine Evr.loop (Evr.rounds (n := k) (Inv := fun n tm S => ∃ (x0 : List Int) (x1 x5 : Int), laws_markIntS.l0 n x0 x1 x5 = some r ∧ Has tm [(0, p), (1, .lit (.int .i64 x1)), (5, .lit (.int .i64 x5))] ∧ Vec (cInt .i64) x0 p S ∧ Same S0 S p.id?.toList) ?_ ?_ ?_)
 · exact ⟨_, _, _, H, ⟨rfl, rfl, rfl, trivial⟩, hv, .refl _ _⟩
 · rintro tm S ⟨_, _, _, H, -⟩
   simp [laws_markIntS.l0] at H
 rintro n ih tm S ⟨x0, x1, x5, H, hh, hf, hs⟩
 simp only [laws_markIntS.l0] at H
 rw [hh.eq]
 refine Evr.seq (Evr.seq (Evr.regionN rfl (Opl.one rfl rfl (by simp only [go_sem]; rfl) (Opl.one rfl rfl (by simp only [go_sem]; rfl) (Opl.lenv (by exact hf) K26 rfl rfl rfl rfl (Opl.one rfl rfl (by simp only [go_sem]; rfl) (Opl.nil ?_)))))))
 by_cases c : x5 < (x0.length : Int)
 · rw [if_pos c] at H
   have e : (decide (x5 < (x0.length : Int))) = true := by simpa using c
   try rw [e]
   obtain ⟨c2, H⟩ := peel H
   refine Evr.condT rfl (Evr.skip (Evr.seq (Evr.block (Evr.seq (Evr.regionN rfl (Opl.one rfl rfl (by simp only [go_sem]; rfl) (Opl.one rfl rfl (by simp only [go_sem]; rfl) (Opl.one rfl rfl (by simp only [go_sem]; rfl) (Opl.idv (M := cInt .i64) (xs := x0) (j := x5) (v := p) hf rfl rfl (by omega) (by omega) K26 Z3 rfl rfl ?_)))))))))
   rintro d cs hp hl hr
   refine Opl.stv (M := cInt .i64) (xs := x0) (j := x5) (y := x1) (vs := [.lit (.int .i64 x1)]) hl hr (by omega) (by omega) rfl rfl (by exact rfl) Z3 rfl rfl rfl rfl ?_
   rw [← hp]
   rintro S hf' u
   have hs' := hs.trans u.same (fun _ h => h)
   refine Opl.nil (Evr.regionN rfl (Opl.one rfl rfl (by simp only [go_sem]; rfl) (Opl.one rfl rfl (by simp only [go_sem]; rfl) (Opl.one rfl rfl (by simp only [go_sem]; rfl) (Opl.nil (Evr.inBlock (Evr.regionN rfl (Opl.one rfl rfl (by simp only [go_sem]; rfl) (Opl.one rfl rfl (by simp only [go_sem]; rfl) (Opl.one rfl rfl (by simp only [go_sem]; rfl) (Opl.nil ?_)))))))))))
   exact ih n (Nat.le_refl _) _ _ ⟨_, _, _, H, ⟨rfl, rfl, rfl, trivial⟩, hf', hs'⟩
 · rw [if_neg c] at H
   have e : (decide (x5 < (x0.length : Int))) = false := by simpa using c
   try rw [e]
   refine Evr.condF rfl (Evr.exit rfl (Evr.seq (Evr.regionN rfl (Opl.one rfl rfl (by simp only [go_sem]; rfl) (Opl.one rfl rfl (by simp only [go_sem]; rfl) (Opl.nil ?_))))))
   obtain rfl := Option.some.inj H
   refine Evr.ret1 Try.func17 rfl ?_
   exact ⟨rfl, hf, hs⟩
theorem laws_markIntSS.mks : Mks Try.prog 16 (oRow (oRow (oPl (cInt .i64) (oInt .i64)))) (leaves (leaves fun _ : Int => 1)) (okRow okAny) first := by
 intro S0 ids l c k h hok h0 hb
 obtain ⟨p, rfl⟩ := oRow_one h
 show RetS _ _ [p, _] _ _
 refine RetS.intro Try.func16 rfl (Nat.le_of_ble_eq_true rfl) rfl ?_
 rw [tm2]
 have hlen := oRow_len h
 have hsm := hok.1
 refine Evr.seq (Evr.regionN rfl (Opl.one rfl rfl (by simp only [go_sem]; rfl) (Opl.nil (Evr.seq (Evr.seq (Evr.regionN rfl (Opl.one rfl rfl (by simp only [go_sem]; rfl) (Opl.nil (Evr.block ?_)))))))))
 refine Evr.loop (Evr.rounds (n := l.length + 1) (Inv := fun n tm S => ∃ (k1 i : Int), Has tm [(0, p), (1, .lit (.int .i64 k1)), (5, .lit (.int .i64 i))] ∧ 0 ≤ i ∧ i ≤ l.length ∧ i + n = l.length + 1 ∧ k1 = k + (((l.map (leaves fun _ : Int => 1)).take i.toNat).sum : Nat) ∧ Deep (oRow (oPl (cInt .i64) (oInt .i64))) (leaves fun _ : Int => 1) okAny S0 S ids l p) ?_ ?_ ?_)
 · exact ⟨k, 0, ⟨rfl, rfl, rfl, trivial⟩, by omega, by omega, by omega, by simp, .of h hok.2⟩
 · rintro tm S ⟨k1, i, -, h1, h2, h3, -⟩
   omega
 rintro n ih tm S ⟨k1, i, hh, h1, h2, h3, rfl, hf⟩
 rw [hh.eq]
 refine Evr.seq (Evr.seq (Evr.regionN rfl (Opl.one rfl rfl (by simp only [go_sem]; rfl) (Opl.one rfl rfl (by simp only [go_sem]; rfl) (Opl.leno (by exact hlen) K23 rfl rfl rfl rfl (Opl.one rfl rfl (by simp only [go_sem]; rfl) (Opl.nil ?_)))))))
 by_cases c : i < (l.length : Int)
 · have e : (decide (i < (l.length : Int))) = true := by simpa using c
   try rw [e]
   obtain ⟨d, cs, ij, ce, r, a, hp, hl, hdr, hel, oel, b0, b1, b2, keep, back⟩ := hf.at h1 c h0 hb
   obtain ⟨q0, rfl⟩ := oRow_one hel
   have t0 := hel
   refine Evr.condT rfl (Evr.skip (Evr.seq (Evr.block (Evr.regionN rfl (Opl.one rfl rfl (by simp only [go_sem]; rfl) (Opl.one rfl rfl (by simp only [go_sem]; rfl) (Opl.ido (d := d) (m := l.length) (j := i) (es := 1) (by exact hp) rfl (by omega) (by omega) K23 Z26 rfl rfl (Opl.ldo (cs := cs) (v := q0) hl rfl T26 ((congrArg _ hdr).trans rfl) rfl rfl rfl (Opl.one rfl rfl (by simp only [go_sem]; rfl) (Opl.calls (laws_markIntS.mks _ _ _ _ _ t0 oel (by omega) (by omega)) rfl rfl rfl rfl rfl ?_))))))))))
   rintro _ S ⟨rfl, j0, a0, n0, m0, l0, o0, s0⟩
   refine Opl.one rfl rfl (by simp only [go_sem]; rfl) (Opl.nil (Evr.inBlock (Evr.regionN rfl (Opl.one rfl rfl (by simp only [go_sem]; rfl) (Opl.one rfl rfl (by simp only [go_sem]; rfl) (Opl.one rfl rfl (by simp only [go_sem]; rfl) (Opl.nil ?_)))))))
   rw [wrap_of (x := i + 1) (by omega) (by omega)]
   exact ih n (Nat.le_refl _) _ _ ⟨_, i + 1, ⟨rfl, rfl, rfl, trivial⟩, by omega, by omega, by omega, by omega, back _ _ a0 (s0.sub (fun z hz => hz)) n0 m0 (by exact l0) o0⟩
 · have e : (decide (i < (l.length : Int))) = false := by simpa using c
   try rw [e]
   refine Evr.condF rfl (Evr.exit rfl (Evr.seq (Evr.regionN rfl (Opl.one rfl rfl (by simp only [go_sem]; rfl) (Opl.one rfl rfl (by simp only [go_sem]; rfl) (Opl.nil ?_))))))
   refine Evr.ret1 Try.func16 rfl ?_
   obtain rfl : i = l.length := by omega
   exact ⟨by rw [Int.toNat_natCast, sum_all]; rfl, let ⟨x1, x2, x3, x4, x5, x6, x7⟩ := hf.done; ⟨x1, x2, x3, x4, x5, x6 hsm, x7⟩⟩
theorem laws_markGraph.mks : Mks Try.prog 27 (oPr (oRow (oRow (oPl (cInt .i64) (oInt .i64)))) (oPr (oPl (cInt .i64) (oInt .i64)) (oRow (oRow (oPl (cInt .i64) (oInt .i64)))))) (fun x : (List (List Int)) × Int × (List (List Int)) => (leaves (leaves fun _ : Int => 1)) x.1 + (leaves (leaves fun _ : Int => 1)) x.2.2) (fun x : (List (List Int)) × Int × (List (List Int)) => (okRow okAny) x.1 ∧ (okRow okAny) x.2.2) .agg := by
 intro S0 ids a c k h oel h0 hb
 obtain ⟨_, _, i0, _, rfl, rfl, ap0, t0, c1, _, i1, i2, rfl, rfl, ap1, t1, t2⟩ := h
 obtain ⟨rfl, t1⟩ := t1
 obtain rfl := (t1 : c1 = [.lit (.int .i64 a.2.1)])
 obtain ⟨q0, rfl⟩ := oRow_one t0
 obtain ⟨q2, rfl⟩ := oRow_one t2
 have t0 : (oRow (oRow (oPl (cInt .i64) (oInt .i64)))).R S0 i0 a.1 [q0] := t0
 have t2 : (oRow (oRow (oPl (cInt .i64) (oInt .i64)))).R S0 i2 a.2.2 [q2] := t2
 have ap0 : Apt i0 i2 := ap0
 have hb : k + (((leaves (leaves fun _ : Int => 1)) a.1 + (leaves (leaves fun _ : Int => 1)) a.2.2 : Nat) : Int) ≤ 9223372036854775807 := hb
 show RetS _ _ [.agg [q0, .lit (.int .i64 a.2.1), q2], _] _ _
 refine RetS.intro Try.func27 rfl (Nat.le_of_ble_eq_true rfl) rfl ?_
 rw [tm2]
 refine Evr.seq (Evr.regionN rfl (Opl.box (cs := [q0, .lit (.int .i64 a.2.1), q2]) rfl rfl rfl rfl ?_))
 rintro d S hd ud wd
 have gd := Grow.of ud wd
 have x0 := wd.tree t0
 have t0 := ud.tree t0 x0
 have x2 := wd.tree t2
 have t2 := ud.tree t2 x2
 refine Opl.one rfl rfl (by simp only [go_sem]; rfl) (Opl.nil (Evr.seq (Evr.regionN rfl (Opl.one (v := .ptr d 0) rfl rfl (by simp only [go_sem]; rfl) (Opl.ldb (v := q0) hd rfl T23 rfl rfl rfl rfl (Opl.one rfl rfl (by simp only [go_sem]; rfl) (Opl.calls (laws_markIntSS.mks _ _ _ _ _ t0 oel.1 (by omega) (by omega)) rfl rfl rfl rfl rfl ?_)))))))
 rintro _ S ⟨rfl, j0, a0, n0, m0, l0, o0, s0⟩
 have hd := s0.box hd x0
 have t2 := s0.tree t2 (Apt.symm ap0)
 refine Opl.one rfl rfl (by simp only [go_sem]; rfl) (Opl.nil (Evr.seq (Evr.regionN rfl (Opl.one (v := .ptr d 2) rfl rfl (by simp only [go_sem]; rfl) (Opl.ldb (v := q2) hd rfl T23 rfl rfl rfl rfl (Opl.one rfl rfl (by simp only [go_sem]; rfl) (Opl.calls (laws_markIntSS.mks _ _ _ _ _ t2 oel.2 (by omega) (by omega)) rfl rfl rfl rfl rfl ?_)))))))
 rintro _ S ⟨rfl, j2, a2, n2, m2, l2, o2, s2⟩
 have n0 := s2.tree n0 (fun z hz hm => ap0 z (m0 z hz) hm)
 refine Opl.one rfl rfl (by simp only [go_sem]; rfl) (Opl.nil (Evr.seq (Evr.regionN rfl (Opl.one rfl rfl (by simp only [go_sem]; rfl) (Opl.one rfl rfl (by simp only [go_sem]; rfl) (Opl.nil ?_))))))
 refine Evr.ret1 Try.func27 rfl ?_
 refine ⟨?_, _, (a0, a.2.1, a2), ⟨[q0], [.lit (.int .i64 a.2.1), q2], j0, _, rfl, rfl, (fun z hz hm => ap0 z (m0 z hz) (m2 z hm)), n0, ⟨[.lit (.int .i64 a.2.1)], [q2], [], j2, rfl, rfl, .nil, ⟨rfl, rfl⟩, n2⟩⟩, (fun z hz => (List.mem_append.1 hz).elim (fun hz => List.mem_append_left _ (m0 z hz)) (fun hz => List.mem_append_right _ (m2 z hz))), ?_, ⟨o0, o2⟩, Same.trans (Same.trans gd.same s0 (fun z hz => List.mem_append_left _ hz)) s2 (fun z hz => List.mem_append_right _ hz)⟩
 · show PV.lit (.int .i64 (k + (((leaves (leaves fun _ : Int => 1)) a.1 : Nat) : Int) + (((leaves (leaves fun _ : Int => 1)) a.2.2 : Nat) : Int))) = .lit (.int .i64 (k + (((leaves (leaves fun _ : Int => 1)) a.1 + (leaves (leaves fun _ : Int => 1)) a.2.2 : Nat) : Int)))
   congr 2; omega
 · show (leaves (leaves fun _ : Int => 1)) a0 + (leaves (leaves fun _ : Int => 1)) a2 = (leaves (leaves fun _ : Int => 1)) a.1 + (leaves (leaves fun _ : Int => 1)) a.2.2
   omega
theorem laws_markTreeS.mks : Mks Try.prog 28 (oRow (oPl cITree oITree)) (leaves fun _ => 4) okAny first := by
 intro S0 ids l c k h hok h0 hb
 obtain ⟨p, rfl⟩ := oRow_one h
 show RetS _ _ [p, _] _ _
 refine RetS.intro Try.func28 rfl (Nat.le_of_ble_eq_true rfl) rfl ?_
 rw [tm2]
 obtain ⟨hv, rfl⟩ := tree_vec h
 rw [leaves_const] at hb ⊢
 have hlen := hv.len
 refine Evr.seq (Evr.regionN rfl (Opl.one rfl rfl (by simp only [go_sem]; rfl) (Opl.nil (Evr.seq (Evr.seq (Evr.regionN rfl (Opl.one rfl rfl (by simp only [go_sem]; rfl) (Opl.nil (Evr.block ?_)))))))))
 refine Evr.loop (Evr.rounds (n := l.length + 1) (Inv := fun n tm S => ∃ (k1 i : Int), Has tm [(0, p), (1, .lit (.int .i64 k1)), (5, .lit (.int .i64 i))] ∧ 0 ≤ i ∧ i ≤ l.length ∧ i + n = l.length + 1 ∧ k1 = k + i * 4 ∧ Flat S0 S p l.length 4) ?_ ?_ ?_)
 · exact ⟨k, 0, ⟨rfl, rfl, rfl, trivial⟩, by omega, by omega, by omega, by omega, Flat.of (ints_iso (ints_pair ints_int (ints_pair ints_int (ints_pair ints_int ints_int))) (fun x => ⟨x.1, x.2.1, x.2.2.1, x.2.2.2⟩) (fun _ => rfl)) hv⟩
 · rintro tm S ⟨k1, i, -, h1, h2, h3, -⟩
   omega
 rintro n ih tm S ⟨k1, i, hh, h1, h2, h3, rfl, hf⟩
 rw [hh.eq]
 refine Evr.seq (Evr.seq (Evr.regionN rfl (Opl.one rfl rfl (by simp only [go_sem]; rfl) (Opl.one rfl rfl (by simp only [go_sem]; rfl) (Opl.leno (by exact hlen) K45 rfl rfl rfl rfl (Opl.one rfl rfl (by simp only [go_sem]; rfl) (Opl.nil ?_)))))))
 by_cases c : i < (l.length : Int)
 · have e : (decide (i < (l.length : Int))) = true := by simpa using c
   try rw [e]
   obtain ⟨_, ⟨hz, _⟩ | ⟨d, cs, hp, hl, hc, ha, hs⟩⟩ := hf
   · omega
   refine Evr.condT rfl (Evr.skip (Evr.seq (Evr.block (Evr.seq (Evr.regionN rfl (Opl.one rfl rfl (by simp only [go_sem]; rfl) (Opl.one rfl rfl (by simp only [go_sem]; rfl) (Opl.one rfl rfl (by simp only [go_sem]; rfl) (Opl.ido (d := d) (m := l.length) (j := i) (es := 4) (by exact hp) rfl (by omega) (by omega) K45 Z80 rfl rfl ?_)))))))))
   refine Opl.one (v := .ptr d (i.toNat * 4 + 0)) rfl rfl (by simp only [go_sem]; rfl) ?_
   refine Opl.stoi (off := i.toNat * 4 + 0) hl ha rfl rfl Z3 (by omega) rfl rfl rfl ?_
   rintro cs S hl hc1 ha hs1
   have hs := hs.trans hs1 (fun _ h => h)
   have hc := hc1.trans hc
   refine Opl.nil (Evr.seq (Evr.regionN rfl (Opl.one rfl rfl (by simp only [go_sem]; rfl) (Opl.one rfl rfl (by simp only [go_sem]; rfl) (Opl.one rfl rfl (by simp only [go_sem]; rfl) (Opl.nil ?_))))))
   rw [wrap_of (x := (k + i * 4) + 1) (by omega) (by omega)]
   refine Evr.seq (Evr.regionN rfl (Opl.one rfl rfl (by simp only [go_sem]; rfl) (Opl.one rfl rfl (by simp only [go_sem]; rfl) (Opl.one rfl rfl (by simp only [go_sem]; rfl) (Opl.ido (d := d) (m := l.length) (j := i) (es := 4) (by exact hp) rfl (by omega) (by omega) K45 Z80 rfl rfl ?_)))))
   refine Opl.one (v := .ptr d (i.toNat * 4 + 1)) rfl rfl (by simp only [go_sem]; rfl) ?_
   refine Opl.stoi (off := i.toNat * 4 + 1) hl ha rfl rfl Z3 (by omega) rfl rfl rfl ?_
   rintro cs S hl hc1 ha hs1
   have hs := hs.trans hs1 (fun _ h => h)
   have hc := hc1.trans hc
   refine Opl.nil (Evr.seq (Evr.regionN rfl (Opl.one rfl rfl (by simp only [go_sem]; rfl) (Opl.one rfl rfl (by simp only [go_sem]; rfl) (Opl.one rfl rfl (by simp only [go_sem]; rfl) (Opl.nil ?_))))))
   rw [wrap_of (x := ((k + i * 4) + 1) + 1) (by omega) (by omega)]
   refine Evr.seq (Evr.regionN rfl (Opl.one rfl rfl (by simp only [go_sem]; rfl) (Opl.one rfl rfl (by simp only [go_sem]; rfl) (Opl.one rfl rfl (by simp only [go_sem]; rfl) (Opl.ido (d := d) (m := l.length) (j := i) (es := 4) (by exact hp) rfl (by omega) (by omega) K45 Z80 rfl rfl ?_)))))
   refine Opl.one (v := .ptr d (i.toNat * 4 + 2)) rfl rfl (by simp only [go_sem]; rfl) ?_
   refine Opl.stoi (off := i.toNat * 4 + 2) hl ha rfl rfl Z3 (by omega) rfl rfl rfl ?_
   rintro cs S hl hc1 ha hs1
   have hs := hs.trans hs1 (fun _ h => h)
   have hc := hc1.trans hc
   refine Opl.nil (Evr.seq (Evr.regionN rfl (Opl.one rfl rfl (by simp only [go_sem]; rfl) (Opl.one rfl rfl (by simp only [go_sem]; rfl) (Opl.one rfl rfl (by simp only [go_sem]; rfl) (Opl.nil ?_))))))
   rw [wrap_of (x := (((k + i * 4) + 1) + 1) + 1) (by omega) (by omega)]
   refine Evr.seq (Evr.regionN rfl (Opl.one rfl rfl (by simp only [go_sem]; rfl) (Opl.one rfl rfl (by simp only [go_sem]; rfl) (Opl.one rfl rfl (by simp only [go_sem]; rfl) (Opl.ido (d := d) (m := l.length) (j := i) (es := 4) (by exact hp) rfl (by omega) (by omega) K45 Z80 rfl rfl ?_)))))
   refine Opl.one (v := .ptr d (i.toNat * 4 + 3)) rfl rfl (by simp only [go_sem]; rfl) ?_
   refine Opl.stoi (off := i.toNat * 4 + 3) hl ha rfl rfl Z3 (by omega) rfl rfl rfl ?_
   rintro cs S hl hc1 ha hs1
   have hs := hs.trans hs1 (fun _ h => h)
   have hc := hc1.trans hc
   refine Opl.nil (Evr.regionN rfl (Opl.one rfl rfl (by simp only [go_sem]; rfl) (Opl.one rfl rfl (by simp only [go_sem]; rfl) (Opl.one rfl rfl (by simp only [go_sem]; rfl) (Opl.nil ?_)))))
   rw [wrap_of (x := ((((k + i * 4) + 1) + 1) + 1) + 1) (by omega) (by omega)]
   refine Evr.inBlock (Evr.regionN rfl (Opl.one rfl rfl (by simp only [go_sem]; rfl) (Opl.one rfl rfl (by simp only [go_sem]; rfl) (Opl.one rfl rfl (by simp only [go_sem]; rfl) (Opl.nil ?_)))))
   rw [wrap_of (x := i + 1) (by omega) (by omega)]
   exact ih n (Nat.le_refl _) _ _ ⟨(((((k + i * 4) + 1) + 1) + 1) + 1), i + 1, ⟨rfl, rfl, rfl, trivial⟩, by omega, by omega, by omega, by omega, hlen, .inr ⟨d, _, hp, hl, hc, ha, hs⟩⟩
 · have e : (decide (i < (l.length : Int))) = false := by simpa using c
   try rw [e]
   refine Evr.condF rfl (Evr.exit rfl (Evr.seq (Evr.regionN rfl (Opl.one rfl rfl (by simp only [go_sem]; rfl) (Opl.one rfl rfl (by simp only [go_sem]; rfl) (Opl.nil ?_))))))
   refine Evr.ret1 Try.func28 rfl ?_
   obtain rfl : i = l.length := by omega
   obtain ⟨ids', a', g1, g2, g3, g4⟩ := Flat.done (ints_iso (ints_pair ints_int (ints_pair ints_int (ints_pair ints_int ints_int))) (fun x => ⟨x.1, x.2.1, x.2.2.1, x.2.2.2⟩) (fun _ => rfl)) oITree hv hf
   exact ⟨by rw [show ((l.length * 4 : Nat) : Int) = l.length * 4 by omega]; rfl, ids', a', g1, g2, by rw [leaves_const, g3], trivial, g4⟩
end Go.Proofs.Ytikjlbanfbkhmaa.PA
