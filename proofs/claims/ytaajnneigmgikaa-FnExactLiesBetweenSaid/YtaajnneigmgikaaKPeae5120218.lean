/- Walks of Go functions: each is shown to answer as the Lean function beside it tells, under the conditions that its theorem names. -/
import Derived.Test.YtaajnneigmgikaaProg
import Derived.KernelRfl
import Derived.Below
import Derived.Deep.Draws
import Derived.Deep.AppendLies
import Derived.Maps.AppendAt
import Derived.OwnWalk
import Derived.Laws.BytesArg
import Derived.Laws.MakeOwn
import Derived.Laws.OwnMore
import Derived.Deep.OwnRows
import Derived.Tactics
import Derived.Lib.ConvBytes
import Derived.Laws.Slices
import Derived.WalkKit
import Derived.RowKit3
import Derived.Deep.LoopGhost
import Derived.Deep.QuietTactic
import Derived.BigQuiet
import Derived.WideLaws
import Derived.Deep.DeepCutAuto
import Derived.Deep.CutBlock
import Derived.Deep.RegionHeld3
import Derived.Laws.Rows
import Derived.Lib.AppendStr
import Derived.ArgAppend
import Derived.Laws.IdiomCopy
import Derived.OrdersHeld
import Derived.Laws.BitsLemmas
import Derived.RowKit
import Derived.Laws.StructEq
import Derived.Lib.SliceRun
import Derived.WalkSpells
import Derived.ChangeArms
import Derived.ChangeSlices
import Derived.Deep.Slices
import Derived.Attr
import Derived.Laws.Append
import Derived.Laws.AppendOwn
import Derived.Laws.Entries
import Derived.Calls
import Derived.Laws.Sem
import Derived.Test.YtaajnneigmgikaaKPb0cdcfdf32
namespace Go.Proofs.Ytaajnneigmgikaa.PA
open Go Go.Abs Go.RowKit Go.Proofs Go.Proofs.YtaajnneigmgikaaW.PrintWords Go.Proofs.YtaajnneigmgikaaW.PrintLast Go.Proofs.YtaajnneigmgikaaW.PrintMore
set_option maxRecDepth 100000
set_option maxHeartbeats 4000000
set_option linter.unusedVariables false
set_option linter.unusedSimpArgs false
theorem laws_eqAnd.ev {a0_0 : Int} {a0_1 : Int} {a1_0 : Int} {a1_1 : Int} {r : Bool} (H : laws_eqAnd.f a0_0 a0_1 a1_0 a1_1 = some r) : Ret Try.prog 106 [.agg [.lit (.int .i64 a0_0), .lit (.int .i64 a0_1)], .agg [.lit (.int .i64 a1_0), .lit (.int .i64 a1_1)]] fun v S => v = .lit (.bool r) := by
 unfold laws_eqAnd.f at H
 refine Ret.intro Try.func106 rfl (Nat.le_of_ble_eq_true rfl) rfl ?_
 rw [tm2]
 refine Evr.sr rfl (Opl.box (cs := [.lit (.int .i64 a0_0), .lit (.int .i64 a0_1)]) rfl rfl rfl rfl ?_)
 rintro i1 S h1 u1 w1
 refine Opl.box (cs := [.lit (.int .i64 a1_0), .lit (.int .i64 a1_1)]) rfl rfl rfl rfl ?_
 rintro i2 S h2 u2 w2
 have ap1 := w2.box h1
 have h3 := u2.box h1 ap1
 refine Opl.p1 (n := Opl.nil (Evr.seq (Evr.sr rfl (Opl.p1 (v := .ptr i1 0) (n := Opl.ldb (v := .lit (.int .i64 a0_0)) h3 rfl T3 rfl rfl rfl rfl (Opl.p1 (v := .ptr i2 0) (n := Opl.ldb (v := .lit (.int .i64 a1_0)) h2 rfl T3 rfl rfl rfl rfl (Opl.p1 (n := Opl.nil ?_)))))))))
 by_cases c1 : a0_0 = a1_0
 case neg =>
  rw [if_neg c1] at H
  have e4 : (a0_0 != a1_0) = true := by simpa using c1
  try rw [e4]
  refine Evr.condT rfl (Evr.sr rfl (Opl.p1 (n := Opl.nil ?_)))
  obtain rfl := Option.some.inj H
  refine Evr.ret1 Try.func106 rfl ?_
  show (.lit (.bool false) : PV) = _
  first | rfl | (simp only [go_sem]; rfl)
 rw [if_pos c1] at H
 have e1 : (a0_0 != a1_0) = false := by simpa using c1
 try rw [e1]
 refine Evr.condF rfl (Evr.skip (Evr.seq (Evr.sr rfl (Opl.p1 (v := .ptr i1 1) (n := Opl.ldb (v := .lit (.int .i64 a0_1)) h3 rfl T3 rfl rfl rfl rfl (Opl.p1 (v := .ptr i2 1) (n := Opl.ldb (v := .lit (.int .i64 a1_1)) h2 rfl T3 rfl rfl rfl rfl (Opl.p1 (n := Opl.nil ?_)))))))))
 by_cases c2 : a0_1 = a1_1
 case neg =>
  rw [if_neg c2] at H
  have e3 : (a0_1 != a1_1) = true := by simpa using c2
  try rw [e3]
  refine Evr.condT rfl (Evr.sr rfl (Opl.p1 (n := Opl.nil ?_)))
  obtain rfl := Option.some.inj H
  refine Evr.ret1 Try.func106 rfl ?_
  show (.lit (.bool false) : PV) = _
  first | rfl | (simp only [go_sem]; rfl)
 rw [if_pos c2] at H
 have e2 : (a0_1 != a1_1) = false := by simpa using c2
 try rw [e2]
 refine Evr.condF rfl (Evr.skip (Evr.sr rfl (Opl.p1 (n := Opl.nil ?_))))
 obtain rfl := Option.some.inj H
 refine Evr.ret1 Try.func106 rfl ?_
 show (.lit (.bool true) : PV) = _
 first | rfl | (simp only [go_sem]; rfl)
theorem laws_eqAndS.ev {k : Nat} {l0 : List IAnd} {v0 : PV} (hv0 : Sl cIAnd l0 v0) {l1 : List IAnd} {v1 : PV} (hv1 : Sl cIAnd l1 v1) {r : Bool} (H : laws_eqAndS.f k l0 l1 = some r) : Ret Try.prog 61 [v0, v1] fun v S => v = .lit (.bool r) := by
 unfold laws_eqAndS.f at H
 refine Ret.intro Try.func61 rfl (Nat.le_of_ble_eq_true rfl) rfl ?_
 rw [tm2]
 refine Evr.sr rfl (Opl.p1 (n := Opl.nil (Evr.seq (Evr.sr rfl (Opl.p1 (n := Opl.len (xs := l0) (by exact hv0) K33 rfl rfl rfl rfl (Opl.p1 (n := Opl.len (xs := l1) (by exact hv1) K33 rfl rfl rfl rfl (Opl.p1 (n := Opl.nil ?_))))))))))
 by_cases c1 : (l0.length : Int) = (l1.length : Int)
 case neg =>
  rw [if_neg c1] at H
  have e6 : ((l0.length : Int) != (l1.length : Int)) = true := by simpa using c1
  try rw [e6]
  refine Evr.condT rfl (Evr.sr rfl (Opl.p1 (n := Opl.nil ?_)))
  obtain rfl := Option.some.inj H
  refine Evr.ret1 Try.func61 rfl ?_
  show (.lit (.bool false) : PV) = _
  first | rfl | (simp only [go_sem]; rfl)
 rw [if_pos c1] at H
 have e1 : ((l0.length : Int) != (l1.length : Int)) = false := by simpa using c1
 try rw [e1]
 refine Evr.condF rfl (Evr.skip (Evr.seq (Evr.sr rfl (Opl.p1 (n := Opl.nil (Evr.block ?_))))))
 refine Evr.loop (Evr.rounds (n := k) (Inv := fun n tm S => n ≤ k ∧ ∃ (x5_1 : Int), laws_eqAndS.l0 n l0 l1 x5_1 = some r ∧ Has tm [(0, v0), (1, v1), (5, .lit (.int .i64 x5_1))]) ?_ ?_ ?_)
 · exact ⟨Nat.le_refl _, _, H, ⟨rfl, rfl, rfl, trivial⟩⟩
 ·
  rintro tm S ⟨_, _, H, -⟩
  simp [laws_eqAndS.l0] at H
 ·
  rintro n1 ih1 tm S ⟨hle, x5_1, H, hh⟩
  simp only [laws_eqAndS.l0] at H
  rw [hh.eq]
  refine Evr.seq (Evr.sr rfl (Opl.p1 (n := Opl.p1 (n := Opl.len (xs := l0) (by exact hv0) K33 rfl rfl rfl rfl (Opl.p1 (n := Opl.nil ?_))))))
  by_cases c2 : x5_1 < (l0.length : Int)
  case neg =>
   rw [if_neg c2] at H
   have e5 : (decide (x5_1 < (l0.length : Int))) = false := by simpa using c2
   try rw [e5]
   refine Evr.condF rfl (Evr.exit rfl (Evr.sr rfl (Opl.p1 (n := Opl.nil ?_))))
   obtain rfl := Option.some.inj H
   refine Evr.ret1 Try.func61 rfl ?_
   show (.lit (.bool true) : PV) = _
   first | rfl | (simp only [go_sem]; rfl)
  rw [if_pos c2] at H
  have e2 : (decide (x5_1 < (l0.length : Int))) = true := by simpa using c2
  try rw [e2]
  refine Evr.condT rfl (Evr.skip (Evr.seq (Evr.block (Evr.seq (Evr.regionD rfl (by kernel_rfl) (Opl.p1 (n := Opl.p1 (n := ?_))))))))
  obtain ⟨c3, H⟩ := peel H
  obtain ⟨c4, H⟩ := peel H
  refine Opl.idx (M := cIAnd) (xs := l0) (j := x5_1) zIAnd (by exact hv0) rfl (by omega) (by omega) K33 Z96 rfl rfl ?_
  rintro p1 q1 h1
  obtain rfl := cIAnd_R (x := (rd_IAnd l0 x5_1)) h1
  refine Opl.lda (.agg [.lit (.int .i64 ((rd_IAnd l0 x5_1).f0)), .lit (.int .i64 ((rd_IAnd l0 x5_1).f1))]) rfl T96 rfl rfl rfl rfl (Opl.p1 (n := Opl.p1 (n := Opl.idx (M := cIAnd) (xs := l1) (j := x5_1) zIAnd (by exact hv1) rfl (by omega) (by omega) K33 Z96 rfl rfl ?_)))
  rintro p2 q2 h2
  obtain rfl := cIAnd_R (x := (rd_IAnd l1 x5_1)) h2
  refine Opl.lda (.agg [.lit (.int .i64 ((rd_IAnd l1 x5_1).f0)), .lit (.int .i64 ((rd_IAnd l1 x5_1).f1))]) rfl T96 rfl rfl rfl rfl ?_
  obtain ⟨t421, h_t421, H⟩ := Option.bind_eq_some_iff.1 H
  refine Opl.callc (laws_eqAnd.ev h_t421) rfl rfl rfl rfl ⟨(.aggL ⟨(.lit _), (.lit _), trivial⟩), (.aggL ⟨(.lit _), (.lit _), trivial⟩), trivial⟩ (by decide) (Opl.p1 (n := Opl.nil ?_))
  by_cases c5 : t421 = true
  case pos =>
   rw [if_pos c5] at H
   have e3 : (!t421) = false := by simpa using c5
   try rw [e3]
   refine Evr.condF rfl (Evr.skip (Evr.inBlock (Evr.regionN rfl (Opl.p1 (n := Opl.p1 (n := Opl.p1 (n := Opl.nil ?_)))))))
   exact ih1 _ (by omega) _ _ ⟨by omega, _, H, ⟨rfl, rfl, rfl, trivial⟩⟩
  rw [if_neg c5] at H
  have e4 : (!t421) = true := by simpa using c5
  try rw [e4]
  refine Evr.condT rfl (Evr.sr rfl (Opl.p1 (n := Opl.nil ?_)))
  obtain rfl := Option.some.inj H
  refine Evr.ret1 Try.func61 rfl ?_
  show (.lit (.bool false) : PV) = _
  first | rfl | (simp only [go_sem]; rfl)
theorem laws_eqCircuit.ev {k : Nat} {a0_0 : Int} {l0_1 : List IAnd} {v0_1 : PV} (hv0_1 : Sl cIAnd l0_1 v0_1) {a1_0 : Int} {l1_1 : List IAnd} {v1_1 : PV} (hv1_1 : Sl cIAnd l1_1 v1_1) {r : Bool} (H : laws_eqCircuit.f k a0_0 l0_1 a1_0 l1_1 = some r) : Ret Try.prog 15 [.agg [.lit (.int .i64 a0_0), v0_1], .agg [.lit (.int .i64 a1_0), v1_1]] fun v S => v = .lit (.bool r) := by
 unfold laws_eqCircuit.f at H
 refine Ret.intro Try.func15 rfl (Nat.le_of_ble_eq_true rfl) rfl ?_
 rw [tm2]
 refine Evr.sr rfl (Opl.box (cs := [.lit (.int .i64 a0_0), v0_1]) rfl rfl rfl rfl ?_)
 rintro i1 S h1 u1 w1
 refine Opl.box (cs := [.lit (.int .i64 a1_0), v1_1]) rfl rfl rfl rfl ?_
 rintro i2 S h2 u2 w2
 have ap1 := w2.box h1
 have h3 := u2.box h1 ap1
 refine Opl.p1 (n := Opl.nil (Evr.seq (Evr.sr rfl (Opl.p1 (v := .ptr i1 0) (n := Opl.ldb (v := .lit (.int .i64 a0_0)) h3 rfl T3 rfl rfl rfl rfl (Opl.p1 (v := .ptr i2 0) (n := Opl.ldb (v := .lit (.int .i64 a1_0)) h2 rfl T3 rfl rfl rfl rfl (Opl.p1 (n := Opl.nil ?_)))))))))
 by_cases c1 : a0_0 = a1_0
 case neg =>
  rw [if_neg c1] at H
  have e4 : (a0_0 != a1_0) = true := by simpa using c1
  try rw [e4]
  refine Evr.condT rfl (Evr.sr rfl (Opl.p1 (n := Opl.nil ?_)))
  obtain rfl := Option.some.inj H
  refine Evr.ret1 Try.func15 rfl ?_
  show (.lit (.bool false) : PV) = _
  first | rfl | (simp only [go_sem]; rfl)
 rw [if_pos c1] at H
 have e1 : (a0_0 != a1_0) = false := by simpa using c1
 try rw [e1]
 refine Evr.condF rfl (Evr.skip (Evr.seq (Evr.sr rfl (Opl.p1 (v := .ptr i1 1) (n := Opl.ldb (v := v0_1) h3 rfl T33 rfl rfl rfl rfl (Opl.p1 (v := .ptr i2 1) (n := Opl.ldb (v := v1_1) h2 rfl T33 rfl rfl rfl rfl ?_)))))))
 obtain ⟨t424, h_t424, H⟩ := Option.bind_eq_some_iff.1 H
 refine Opl.callc (laws_eqAndS.ev hv0_1 hv1_1 h_t424) rfl rfl rfl rfl ⟨hv0_1.plain, hv1_1.plain, trivial⟩ (by decide) (Opl.p1 (n := Opl.nil ?_))
 by_cases c2 : t424 = true
 case neg =>
  rw [if_neg c2] at H
  have e3 : (!t424) = true := by simpa using c2
  try rw [e3]
  refine Evr.condT rfl (Evr.sr rfl (Opl.p1 (n := Opl.nil ?_)))
  obtain rfl := Option.some.inj H
  refine Evr.ret1 Try.func15 rfl ?_
  show (.lit (.bool false) : PV) = _
  first | rfl | (simp only [go_sem]; rfl)
 rw [if_pos c2] at H
 have e2 : (!t424) = false := by simpa using c2
 try rw [e2]
 refine Evr.condF rfl (Evr.skip (Evr.sr rfl (Opl.p1 (n := Opl.nil ?_))))
 obtain rfl := Option.some.inj H
 refine Evr.ret1 Try.func15 rfl ?_
 show (.lit (.bool true) : PV) = _
 first | rfl | (simp only [go_sem]; rfl)
theorem laws_eqIntS.ev {k : Nat} {l0 : List Int} {v0 : PV} (hv0 : Sl (cInt .i64) l0 v0) {l1 : List Int} {v1 : PV} (hv1 : Sl (cInt .i64) l1 v1) {r : Bool} (H : laws_eqIntS.f k l0 l1 = some r) : Ret Try.prog 105 [v0, v1] fun v S => v = .lit (.bool r) := by
 unfold laws_eqIntS.f at H
 refine Ret.intro Try.func105 rfl (Nat.le_of_ble_eq_true rfl) rfl ?_
 rw [tm2]
 refine Evr.sr rfl (Opl.p1 (n := Opl.nil (Evr.seq (Evr.sr rfl (Opl.p1 (n := Opl.len (xs := l0) (by exact hv0) K41 rfl rfl rfl rfl (Opl.p1 (n := Opl.len (xs := l1) (by exact hv1) K41 rfl rfl rfl rfl (Opl.p1 (n := Opl.nil ?_))))))))))
 by_cases c1 : (l0.length : Int) = (l1.length : Int)
 case neg =>
  rw [if_neg c1] at H
  have e6 : ((l0.length : Int) != (l1.length : Int)) = true := by simpa using c1
  try rw [e6]
  refine Evr.condT rfl (Evr.sr rfl (Opl.p1 (n := Opl.nil ?_)))
  obtain rfl := Option.some.inj H
  refine Evr.ret1 Try.func105 rfl ?_
  show (.lit (.bool false) : PV) = _
  first | rfl | (simp only [go_sem]; rfl)
 rw [if_pos c1] at H
 have e1 : ((l0.length : Int) != (l1.length : Int)) = false := by simpa using c1
 try rw [e1]
 refine Evr.condF rfl (Evr.skip (Evr.seq (Evr.sr rfl (Opl.p1 (n := Opl.nil (Evr.block ?_))))))
 refine Evr.loop (Evr.rounds (n := k) (Inv := fun n tm S => n ≤ k ∧ ∃ (x5_1 : Int), laws_eqIntS.l0 n l0 l1 x5_1 = some r ∧ Has tm [(0, v0), (1, v1), (5, .lit (.int .i64 x5_1))]) ?_ ?_ ?_)
 · exact ⟨Nat.le_refl _, _, H, ⟨rfl, rfl, rfl, trivial⟩⟩
 ·
  rintro tm S ⟨_, _, H, -⟩
  simp [laws_eqIntS.l0] at H
 ·
  rintro n1 ih1 tm S ⟨hle, x5_1, H, hh⟩
  simp only [laws_eqIntS.l0] at H
  rw [hh.eq]
  refine Evr.seq (Evr.sr rfl (Opl.p1 (n := Opl.p1 (n := Opl.len (xs := l0) (by exact hv0) K41 rfl rfl rfl rfl (Opl.p1 (n := Opl.nil ?_))))))
  by_cases c2 : x5_1 < (l0.length : Int)
  case neg =>
   rw [if_neg c2] at H
   have e5 : (decide (x5_1 < (l0.length : Int))) = false := by simpa using c2
   try rw [e5]
   refine Evr.condF rfl (Evr.exit rfl (Evr.sr rfl (Opl.p1 (n := Opl.nil ?_))))
   obtain rfl := Option.some.inj H
   refine Evr.ret1 Try.func105 rfl ?_
   show (.lit (.bool true) : PV) = _
   first | rfl | (simp only [go_sem]; rfl)
  rw [if_pos c2] at H
  have e2 : (decide (x5_1 < (l0.length : Int))) = true := by simpa using c2
  try rw [e2]
  refine Evr.condT rfl (Evr.skip (Evr.seq (Evr.block (Evr.seq (Evr.regionD rfl (by kernel_rfl) (Opl.p1 (n := Opl.p1 (n := ?_))))))))
  obtain ⟨c3, H⟩ := peel H
  obtain ⟨c4, H⟩ := peel H
  refine Opl.idx (M := (cInt .i64)) (xs := l0) (j := x5_1) (0 : Int) (by exact hv0) rfl (by omega) (by omega) K41 Z3 rfl rfl ?_
  rintro p1 q1 h1
  obtain rfl : p1 = [.lit (.int .i64 (rd l0 x5_1))] := h1
  refine Opl.lda (.lit (.int .i64 (rd l0 x5_1))) rfl T3 rfl rfl rfl rfl (Opl.p1 (n := Opl.p1 (n := Opl.idx (M := (cInt .i64)) (xs := l1) (j := x5_1) (0 : Int) (by exact hv1) rfl (by omega) (by omega) K41 Z3 rfl rfl ?_)))
  rintro p2 q2 h2
  obtain rfl : p2 = [.lit (.int .i64 (rd l1 x5_1))] := h2
  refine Opl.lda (.lit (.int .i64 (rd l1 x5_1))) rfl T3 rfl rfl rfl rfl (Opl.p1 (n := Opl.nil ?_))
  by_cases c5 : (rd l0 x5_1) = (rd l1 x5_1)
  case pos =>
   rw [if_pos c5] at H
   have e3 : ((rd l0 x5_1) != (rd l1 x5_1)) = false := by simpa using c5
   try rw [e3]
   refine Evr.condF rfl (Evr.skip (Evr.inBlock (Evr.regionN rfl (Opl.p1 (n := Opl.p1 (n := Opl.p1 (n := Opl.nil ?_)))))))
   exact ih1 _ (by omega) _ _ ⟨by omega, _, H, ⟨rfl, rfl, rfl, trivial⟩⟩
  rw [if_neg c5] at H
  have e4 : ((rd l0 x5_1) != (rd l1 x5_1)) = true := by simpa using c5
  try rw [e4]
  refine Evr.condT rfl (Evr.sr rfl (Opl.p1 (n := Opl.nil ?_)))
  obtain rfl := Option.some.inj H
  refine Evr.ret1 Try.func105 rfl ?_
  show (.lit (.bool false) : PV) = _
  first | rfl | (simp only [go_sem]; rfl)
theorem laws_eqIntSS.ev {k : Nat} {l0 : List (List Int)} {v0 : PV} (hv0 : Sl (cSl (cInt .i64)) l0 v0) {l1 : List (List Int)} {v1 : PV} (hv1 : Sl (cSl (cInt .i64)) l1 v1) {r : Bool} (H : laws_eqIntSS.f k l0 l1 = some r) : Ret Try.prog 60 [v0, v1] fun v S => v = .lit (.bool r) := by
 unfold laws_eqIntSS.f at H
 refine Ret.intro Try.func60 rfl (Nat.le_of_ble_eq_true rfl) rfl ?_
 rw [tm2]
 refine Evr.sr rfl (Opl.p1 (n := Opl.nil (Evr.seq (Evr.sr rfl (Opl.p1 (n := Opl.len (xs := l0) (by exact hv0) K22 rfl rfl rfl rfl (Opl.p1 (n := Opl.len (xs := l1) (by exact hv1) K22 rfl rfl rfl rfl (Opl.p1 (n := Opl.nil ?_))))))))))
 by_cases c1 : (l0.length : Int) = (l1.length : Int)
 case neg =>
  rw [if_neg c1] at H
  have e6 : ((l0.length : Int) != (l1.length : Int)) = true := by simpa using c1
  try rw [e6]
  refine Evr.condT rfl (Evr.sr rfl (Opl.p1 (n := Opl.nil ?_)))
  obtain rfl := Option.some.inj H
  refine Evr.ret1 Try.func60 rfl ?_
  show (.lit (.bool false) : PV) = _
  first | rfl | (simp only [go_sem]; rfl)
 rw [if_pos c1] at H
 have e1 : ((l0.length : Int) != (l1.length : Int)) = false := by simpa using c1
 try rw [e1]
 refine Evr.condF rfl (Evr.skip (Evr.seq (Evr.sr rfl (Opl.p1 (n := Opl.nil (Evr.block ?_))))))
 refine Evr.loop (Evr.rounds (n := k) (Inv := fun n tm S => n ≤ k ∧ ∃ (x5_1 : Int), laws_eqIntSS.l0 n l0 l1 x5_1 = some r ∧ Has tm [(0, v0), (1, v1), (5, .lit (.int .i64 x5_1))]) ?_ ?_ ?_)
 · exact ⟨Nat.le_refl _, _, H, ⟨rfl, rfl, rfl, trivial⟩⟩
 ·
  rintro tm S ⟨_, _, H, -⟩
  simp [laws_eqIntSS.l0] at H
 ·
  rintro n1 ih1 tm S ⟨hle, x5_1, H, hh⟩
  simp only [laws_eqIntSS.l0] at H
  rw [hh.eq]
  refine Evr.seq (Evr.sr rfl (Opl.p1 (n := Opl.p1 (n := Opl.len (xs := l0) (by exact hv0) K22 rfl rfl rfl rfl (Opl.p1 (n := Opl.nil ?_))))))
  by_cases c2 : x5_1 < (l0.length : Int)
  case neg =>
   rw [if_neg c2] at H
   have e5 : (decide (x5_1 < (l0.length : Int))) = false := by simpa using c2
   try rw [e5]
   refine Evr.condF rfl (Evr.exit rfl (Evr.sr rfl (Opl.p1 (n := Opl.nil ?_))))
   obtain rfl := Option.some.inj H
   refine Evr.ret1 Try.func60 rfl ?_
   show (.lit (.bool true) : PV) = _
   first | rfl | (simp only [go_sem]; rfl)
  rw [if_pos c2] at H
  have e2 : (decide (x5_1 < (l0.length : Int))) = true := by simpa using c2
  try rw [e2]
  refine Evr.condT rfl (Evr.skip (Evr.seq (Evr.block (Evr.seq (Evr.regionD rfl (by kernel_rfl) (Opl.p1 (n := Opl.p1 (n := ?_))))))))
  obtain ⟨c3, H⟩ := peel H
  obtain ⟨c4, H⟩ := peel H
  refine Opl.idx (M := (cSl (cInt .i64))) (xs := l0) (j := x5_1) ([] : List Int) (by exact hv0) rfl (by omega) (by omega) K22 Z41 rfl rfl ?_
  rintro p1 q1 h1
  obtain ⟨pv1, rfl, h2⟩ := h1
  refine Opl.lda (pv1) rfl T41 rfl rfl rfl rfl (Opl.p1 (n := Opl.p1 (n := Opl.idx (M := (cSl (cInt .i64))) (xs := l1) (j := x5_1) ([] : List Int) (by exact hv1) rfl (by omega) (by omega) K22 Z41 rfl rfl ?_)))
  rintro p2 q2 h3
  obtain ⟨pv2, rfl, h4⟩ := h3
  refine Opl.lda (pv2) rfl T41 rfl rfl rfl rfl ?_
  obtain ⟨t413, h_t413, H⟩ := Option.bind_eq_some_iff.1 H
  refine Opl.callc (laws_eqIntS.ev h2 h4 h_t413) rfl rfl rfl rfl ⟨h2.plain, h4.plain, trivial⟩ (by decide) (Opl.p1 (n := Opl.nil ?_))
  by_cases c5 : t413 = true
  case pos =>
   rw [if_pos c5] at H
   have e3 : (!t413) = false := by simpa using c5
   try rw [e3]
   refine Evr.condF rfl (Evr.skip (Evr.inBlock (Evr.regionN rfl (Opl.p1 (n := Opl.p1 (n := Opl.p1 (n := Opl.nil ?_)))))))
   exact ih1 _ (by omega) _ _ ⟨by omega, _, H, ⟨rfl, rfl, rfl, trivial⟩⟩
  rw [if_neg c5] at H
  have e4 : (!t413) = true := by simpa using c5
  try rw [e4]
  refine Evr.condT rfl (Evr.sr rfl (Opl.p1 (n := Opl.nil ?_)))
  obtain rfl := Option.some.inj H
  refine Evr.ret1 Try.func60 rfl ?_
  show (.lit (.bool false) : PV) = _
  first | rfl | (simp only [go_sem]; rfl)
theorem laws_eqClauses.ev {k : Nat} {a0_0 : Int} {l0_1 : List (List Int)} {v0_1 : PV} (hv0_1 : Sl (cSl (cInt .i64)) l0_1 v0_1) {a1_0 : Int} {l1_1 : List (List Int)} {v1_1 : PV} (hv1_1 : Sl (cSl (cInt .i64)) l1_1 v1_1) {r : Bool} (H : laws_eqClauses.f k a0_0 l0_1 a1_0 l1_1 = some r) : Ret Try.prog 14 [.agg [.lit (.int .i64 a0_0), v0_1], .agg [.lit (.int .i64 a1_0), v1_1]] fun v S => v = .lit (.bool r) := by
 unfold laws_eqClauses.f at H
 refine Ret.intro Try.func14 rfl (Nat.le_of_ble_eq_true rfl) rfl ?_
 rw [tm2]
 refine Evr.sr rfl (Opl.box (cs := [.lit (.int .i64 a0_0), v0_1]) rfl rfl rfl rfl ?_)
 rintro i1 S h1 u1 w1
 refine Opl.box (cs := [.lit (.int .i64 a1_0), v1_1]) rfl rfl rfl rfl ?_
 rintro i2 S h2 u2 w2
 have ap1 := w2.box h1
 have h3 := u2.box h1 ap1
 refine Opl.p1 (n := Opl.nil (Evr.seq (Evr.sr rfl (Opl.p1 (v := .ptr i1 0) (n := Opl.ldb (v := .lit (.int .i64 a0_0)) h3 rfl T3 rfl rfl rfl rfl (Opl.p1 (v := .ptr i2 0) (n := Opl.ldb (v := .lit (.int .i64 a1_0)) h2 rfl T3 rfl rfl rfl rfl (Opl.p1 (n := Opl.nil ?_)))))))))
 by_cases c1 : a0_0 = a1_0
 case neg =>
  rw [if_neg c1] at H
  have e4 : (a0_0 != a1_0) = true := by simpa using c1
  try rw [e4]
  refine Evr.condT rfl (Evr.sr rfl (Opl.p1 (n := Opl.nil ?_)))
  obtain rfl := Option.some.inj H
  refine Evr.ret1 Try.func14 rfl ?_
  show (.lit (.bool false) : PV) = _
  first | rfl | (simp only [go_sem]; rfl)
 rw [if_pos c1] at H
 have e1 : (a0_0 != a1_0) = false := by simpa using c1
 try rw [e1]
 refine Evr.condF rfl (Evr.skip (Evr.seq (Evr.sr rfl (Opl.p1 (v := .ptr i1 1) (n := Opl.ldb (v := v0_1) h3 rfl T22 rfl rfl rfl rfl (Opl.p1 (v := .ptr i2 1) (n := Opl.ldb (v := v1_1) h2 rfl T22 rfl rfl rfl rfl ?_)))))))
 obtain ⟨t416, h_t416, H⟩ := Option.bind_eq_some_iff.1 H
 refine Opl.callc (laws_eqIntSS.ev hv0_1 hv1_1 h_t416) rfl rfl rfl rfl ⟨hv0_1.plain, hv1_1.plain, trivial⟩ (by decide) (Opl.p1 (n := Opl.nil ?_))
 by_cases c2 : t416 = true
 case neg =>
  rw [if_neg c2] at H
  have e3 : (!t416) = true := by simpa using c2
  try rw [e3]
  refine Evr.condT rfl (Evr.sr rfl (Opl.p1 (n := Opl.nil ?_)))
  obtain rfl := Option.some.inj H
  refine Evr.ret1 Try.func14 rfl ?_
  show (.lit (.bool false) : PV) = _
  first | rfl | (simp only [go_sem]; rfl)
 rw [if_pos c2] at H
 have e2 : (!t416) = false := by simpa using c2
 try rw [e2]
 refine Evr.condF rfl (Evr.skip (Evr.sr rfl (Opl.p1 (n := Opl.nil ?_))))
 obtain rfl := Option.some.inj H
 refine Evr.ret1 Try.func14 rfl ?_
 show (.lit (.bool true) : PV) = _
 first | rfl | (simp only [go_sem]; rfl)
theorem laws_szAndS.ev {l0 : List LAnd} {v0 : PV} (hv0 : Sl cLAnd l0 v0) {a1 : Int} {r : Int} (H : laws_szAndS.f l0 a1 = some r) : Ret Try.prog 38 [v0, .lit (.int .i64 a1)] fun v S => v = .lit (.int .i64 r) := by
 unfold laws_szAndS.f at H
 refine Ret.intro Try.func38 rfl (Nat.le_of_ble_eq_true rfl) rfl ?_
 rw [tm2]
 refine Evr.sr rfl (Opl.p1 (n := Opl.nil (Evr.sr rfl (Opl.p1 (n := Opl.p1 (n := Opl.len (xs := l0) (by exact hv0) K25 rfl rfl rfl rfl (Opl.p1 (n := Opl.p1 (n := Opl.nil (Evr.seq (Evr.sr rfl (Opl.p1 (n := Opl.lss (a := (wrap64 (a1 - (l0.length : Int)))) (b := 0) K3 rfl rfl rfl rfl (Opl.nil ?_))))))))))))))
 by_cases c1 : (wrap64 (a1 - (l0.length : Int))) < 0
 case pos =>
  rw [if_pos c1] at H
  have e1 : (decide ((wrap64 (a1 - (l0.length : Int))) < 0)) = true := by simpa using c1
  try rw [e1]
  refine Evr.condT rfl (Evr.sr rfl (Opl.p1 (n := Opl.nil ?_)))
  obtain rfl := Option.some.inj H
  refine Evr.ret1 Try.func38 rfl ?_
  show (.lit (.int .i64 (-1)) : PV) = _
  first | rfl | (simp only [go_sem]; rfl)
 rw [if_neg c1] at H
 have e2 : (decide ((wrap64 (a1 - (l0.length : Int))) < 0)) = false := by simpa using c1
 try rw [e2]
 refine Evr.condF rfl (Evr.skip (Evr.sr rfl (Opl.p1 (n := Opl.p1 (n := Opl.nil ?_)))))
 obtain rfl := Option.some.inj H
 refine Evr.ret1 Try.func38 rfl ?_
 show (.lit (.int .i64 (wrap64 (a1 - (l0.length : Int)))) : PV) = _
 first | rfl | (simp only [go_sem]; rfl)
theorem laws_szCircuit.ev {a0_0 : Int} {l0_1 : List LAnd} {v0_1 : PV} (hv0_1 : Sl cLAnd l0_1 v0_1) {a1 : Int} {r : Int} (H : laws_szCircuit.f a0_0 l0_1 a1 = some r) : Ret Try.prog 9 [.agg [.lit (.int .i64 a0_0), v0_1], .lit (.int .i64 a1)] fun v S => v = .lit (.int .i64 r) := by
 unfold laws_szCircuit.f at H
 refine Ret.intro Try.func9 rfl (Nat.le_of_ble_eq_true rfl) rfl ?_
 rw [tm2]
 refine Evr.sr rfl (Opl.box (cs := [.lit (.int .i64 a0_0), v0_1]) rfl rfl rfl rfl ?_)
 rintro i1 S h1 u1 w1
 refine Opl.p1 (n := Opl.nil (Evr.sr rfl (Opl.p1 (v := .ptr i1 1) (n := Opl.ldb (v := v0_1) h1 rfl T25 rfl rfl rfl rfl (Opl.p1 (n := ?_))))))
 obtain ⟨t106, h_t106, H⟩ := Option.bind_eq_some_iff.1 H
 refine Opl.callc (laws_szAndS.ev hv0_1 h_t106) rfl rfl rfl rfl ⟨hv0_1.plain, (.lit _), trivial⟩ (by decide) (Opl.p1 (n := Opl.nil (Evr.seq (Evr.sr rfl (Opl.p1 (n := Opl.p1 (n := Opl.nil ?_)))))))
 by_cases c1 : t106 < 0
 case pos =>
  rw [if_pos c1] at H
  have e1 : (decide (t106 < 0)) = true := by simpa using c1
  try rw [e1]
  refine Evr.condT rfl (Evr.sr rfl (Opl.p1 (n := Opl.nil ?_)))
  obtain rfl := Option.some.inj H
  refine Evr.ret1 Try.func9 rfl ?_
  show (.lit (.int .i64 (-1)) : PV) = _
  first | rfl | (simp only [go_sem]; rfl)
 rw [if_neg c1] at H
 have e2 : (decide (t106 < 0)) = false := by simpa using c1
 try rw [e2]
 refine Evr.condF rfl (Evr.skip (Evr.sr rfl (Opl.p1 (n := Opl.p1 (n := Opl.nil ?_)))))
 obtain rfl := Option.some.inj H
 refine Evr.ret1 Try.func9 rfl ?_
 show (.lit (.int .i64 t106) : PV) = _
 first | rfl | (simp only [go_sem]; rfl)
theorem laws_szIntS.ev {l0 : List Int} {v0 : PV} (hv0 : Sl (cInt .i64) l0 v0) {a1 : Int} {r : Int} (H : laws_szIntS.f l0 a1 = some r) : Ret Try.prog 93 [v0, .lit (.int .i64 a1)] fun v S => v = .lit (.int .i64 r) := by
 unfold laws_szIntS.f at H
 refine Ret.intro Try.func93 rfl (Nat.le_of_ble_eq_true rfl) rfl ?_
 rw [tm2]
 refine Evr.sr rfl (Opl.p1 (n := Opl.nil (Evr.sr rfl (Opl.p1 (n := Opl.p1 (n := Opl.len (xs := l0) (by exact hv0) K41 rfl rfl rfl rfl (Opl.p1 (n := Opl.p1 (n := Opl.nil (Evr.seq (Evr.sr rfl (Opl.p1 (n := Opl.lss (a := (wrap64 (a1 - (l0.length : Int)))) (b := 0) K3 rfl rfl rfl rfl (Opl.nil ?_))))))))))))))
 by_cases c1 : (wrap64 (a1 - (l0.length : Int))) < 0
 case pos =>
  rw [if_pos c1] at H
  have e1 : (decide ((wrap64 (a1 - (l0.length : Int))) < 0)) = true := by simpa using c1
  try rw [e1]
  refine Evr.condT rfl (Evr.sr rfl (Opl.p1 (n := Opl.nil ?_)))
  obtain rfl := Option.some.inj H
  refine Evr.ret1 Try.func93 rfl ?_
  show (.lit (.int .i64 (-1)) : PV) = _
  first | rfl | (simp only [go_sem]; rfl)
 rw [if_neg c1] at H
 have e2 : (decide ((wrap64 (a1 - (l0.length : Int))) < 0)) = false := by simpa using c1
 try rw [e2]
 refine Evr.condF rfl (Evr.skip (Evr.sr rfl (Opl.p1 (n := Opl.p1 (n := Opl.nil ?_)))))
 obtain rfl := Option.some.inj H
 refine Evr.ret1 Try.func93 rfl ?_
 show (.lit (.int .i64 (wrap64 (a1 - (l0.length : Int)))) : PV) = _
 first | rfl | (simp only [go_sem]; rfl)
theorem laws_szIntSS.ev {k : Nat} {l0 : List (List Int)} {v0 : PV} (hv0 : Sl (cSl (cInt .i64)) l0 v0) {a1 : Int} {r : Int} (H : laws_szIntSS.f k l0 a1 = some r) : Ret Try.prog 37 [v0, .lit (.int .i64 a1)] fun v S => v = .lit (.int .i64 r) := by
 unfold laws_szIntSS.f at H
 refine Ret.intro Try.func37 rfl (Nat.le_of_ble_eq_true rfl) rfl ?_
 rw [tm2]
 refine Evr.sr rfl (Opl.p1 (n := Opl.nil (Evr.sr rfl (Opl.p1 (n := Opl.p1 (n := Opl.len (xs := l0) (by exact hv0) K22 rfl rfl rfl rfl (Opl.p1 (n := Opl.p1 (n := Opl.nil (Evr.seq (Evr.sr rfl (Opl.p1 (n := Opl.lss (a := (wrap64 (a1 - (l0.length : Int)))) (b := 0) K3 rfl rfl rfl rfl (Opl.nil ?_))))))))))))))
 by_cases c1 : (wrap64 (a1 - (l0.length : Int))) < 0
 case pos =>
  rw [if_pos c1] at H
  have e1 : (decide ((wrap64 (a1 - (l0.length : Int))) < 0)) = true := by simpa using c1
  try rw [e1]
  refine Evr.condT rfl (Evr.sr rfl (Opl.p1 (n := Opl.nil ?_)))
  obtain rfl := Option.some.inj H
  refine Evr.ret1 Try.func37 rfl ?_
  show (.lit (.int .i64 (-1)) : PV) = _
  first | rfl | (simp only [go_sem]; rfl)
 rw [if_neg c1] at H
 have e2 : (decide ((wrap64 (a1 - (l0.length : Int))) < 0)) = false := by simpa using c1
 try rw [e2]
 refine Evr.condF rfl (Evr.skip (Evr.seq (Evr.sr rfl (Opl.p1 (n := Opl.nil (Evr.block ?_))))))
 refine Evr.loop (Evr.rounds (n := k) (Inv := fun n tm S => n ≤ k ∧ ∃ (x1_1 : Int) (x5_1 : Int), laws_szIntSS.l0 n l0 x1_1 x5_1 = some r ∧ Has tm [(0, v0), (1, .lit (.int .i64 x1_1)), (5, .lit (.int .i64 x5_1))]) ?_ ?_ ?_)
 · exact ⟨Nat.le_refl _, _, _, H, ⟨rfl, rfl, rfl, trivial⟩⟩
 ·
  rintro tm S ⟨_, _, _, H, -⟩
  simp [laws_szIntSS.l0] at H
 ·
  rintro n1 ih1 tm S ⟨hle, x1_1, x5_1, H, hh⟩
  simp only [laws_szIntSS.l0] at H
  rw [hh.eq]
  refine Evr.seq (Evr.sr rfl (Opl.p1 (n := Opl.p1 (n := Opl.len (xs := l0) (by exact hv0) K22 rfl rfl rfl rfl (Opl.p1 (n := Opl.nil ?_))))))
  by_cases c2 : x5_1 < (l0.length : Int)
  case neg =>
   rw [if_neg c2] at H
   have e6 : (decide (x5_1 < (l0.length : Int))) = false := by simpa using c2
   try rw [e6]
   refine Evr.condF rfl (Evr.exit rfl (Evr.sr rfl (Opl.p1 (n := Opl.p1 (n := Opl.nil ?_)))))
   obtain rfl := Option.some.inj H
   refine Evr.ret1 Try.func37 rfl ?_
   show (.lit (.int .i64 x1_1) : PV) = _
   first | rfl | (simp only [go_sem]; rfl)
  rw [if_pos c2] at H
  have e3 : (decide (x5_1 < (l0.length : Int))) = true := by simpa using c2
  try rw [e3]
  refine Evr.condT rfl (Evr.skip (Evr.seq (Evr.block (Evr.sr rfl (Opl.p1 (n := Opl.p1 (n := ?_)))))))
  obtain ⟨c3, H⟩ := peel H
  refine Opl.idx (M := (cSl (cInt .i64))) (xs := l0) (j := x5_1) ([] : List Int) (by exact hv0) rfl (by omega) (by omega) K22 Z41 rfl rfl ?_
  rintro p1 q1 h1
  obtain ⟨pv1, rfl, h2⟩ := h1
  refine Opl.lda (pv1) rfl T41 rfl rfl rfl rfl (Opl.p1 (n := ?_))
  obtain ⟨t102, h_t102, H⟩ := Option.bind_eq_some_iff.1 H
  refine Opl.callc (laws_szIntS.ev h2 h_t102) rfl rfl rfl rfl ⟨h2.plain, (.lit _), trivial⟩ (by decide) (Opl.p1 (n := Opl.nil (Evr.sr rfl (Opl.p1 (n := Opl.p1 (n := Opl.nil ?_))))))
  by_cases c4 : t102 < 0
  case neg =>
   rw [if_neg c4] at H
   have e5 : (decide (t102 < 0)) = false := by simpa using c4
   try rw [e5]
   refine Evr.condF rfl (Evr.skip (Evr.inBlock (Evr.regionN rfl (Opl.p1 (n := Opl.p1 (n := Opl.p1 (n := Opl.nil ?_)))))))
   exact ih1 _ (by omega) _ _ ⟨by omega, _, _, H, ⟨rfl, rfl, rfl, trivial⟩⟩
  rw [if_pos c4] at H
  have e4 : (decide (t102 < 0)) = true := by simpa using c4
  try rw [e4]
  refine Evr.condT rfl (Evr.sr rfl (Opl.p1 (n := Opl.nil ?_)))
  obtain rfl := Option.some.inj H
  refine Evr.ret1 Try.func37 rfl ?_
  show (.lit (.int .i64 (-1)) : PV) = _
  first | rfl | (simp only [go_sem]; rfl)
theorem laws_szClauses.ev {k : Nat} {a0_0 : Int} {l0_1 : List (List Int)} {v0_1 : PV} (hv0_1 : Sl (cSl (cInt .i64)) l0_1 v0_1) {a1 : Int} {r : Int} (H : laws_szClauses.f k a0_0 l0_1 a1 = some r) : Ret Try.prog 8 [.agg [.lit (.int .i64 a0_0), v0_1], .lit (.int .i64 a1)] fun v S => v = .lit (.int .i64 r) := by
 unfold laws_szClauses.f at H
 refine Ret.intro Try.func8 rfl (Nat.le_of_ble_eq_true rfl) rfl ?_
 rw [tm2]
 refine Evr.sr rfl (Opl.box (cs := [.lit (.int .i64 a0_0), v0_1]) rfl rfl rfl rfl ?_)
 rintro i1 S h1 u1 w1
 refine Opl.p1 (n := Opl.nil (Evr.sr rfl (Opl.p1 (v := .ptr i1 1) (n := Opl.ldb (v := v0_1) h1 rfl T22 rfl rfl rfl rfl (Opl.p1 (n := ?_))))))
 obtain ⟨t104, h_t104, H⟩ := Option.bind_eq_some_iff.1 H
 refine Opl.callc (laws_szIntSS.ev hv0_1 h_t104) rfl rfl rfl rfl ⟨hv0_1.plain, (.lit _), trivial⟩ (by decide) (Opl.p1 (n := Opl.nil (Evr.seq (Evr.sr rfl (Opl.p1 (n := Opl.p1 (n := Opl.nil ?_)))))))
 by_cases c1 : t104 < 0
 case pos =>
  rw [if_pos c1] at H
  have e1 : (decide (t104 < 0)) = true := by simpa using c1
  try rw [e1]
  refine Evr.condT rfl (Evr.sr rfl (Opl.p1 (n := Opl.nil ?_)))
  obtain rfl := Option.some.inj H
  refine Evr.ret1 Try.func8 rfl ?_
  show (.lit (.int .i64 (-1)) : PV) = _
  first | rfl | (simp only [go_sem]; rfl)
 rw [if_neg c1] at H
 have e2 : (decide (t104 < 0)) = false := by simpa using c1
 try rw [e2]
 refine Evr.condF rfl (Evr.skip (Evr.sr rfl (Opl.p1 (n := Opl.p1 (n := Opl.nil ?_)))))
 obtain rfl := Option.some.inj H
 refine Evr.ret1 Try.func8 rfl ?_
 show (.lit (.int .i64 t104) : PV) = _
 first | rfl | (simp only [go_sem]; rfl)
theorem laws_toAnd.ev {a0_0 : Int} {a0_1 : Int} {r : (Int × Int)} (H : laws_toAnd.f a0_0 a0_1 = some r) : Ret Try.prog 100 [.agg [.lit (.int .i64 a0_0), .lit (.int .i64 a0_1)]] fun v S => Out (fun q => ∃ q1 q2, q = .agg [q1, q2] ∧ q1 = .lit (.int .i64 r.1) ∧ q2 = .lit (.int .i64 r.2)) v S := by
 unfold laws_toAnd.f at H
 refine Ret.intro Try.func100 rfl (Nat.le_of_ble_eq_true rfl) rfl ?_
 rw [tm1]
 refine Evr.sr rfl (Opl.box (cs := [.lit (.int .i64 a0_0), .lit (.int .i64 a0_1)]) rfl rfl rfl rfl ?_)
 rintro i1 S h1 u1 w1
 refine Opl.alloc T96 rfl rfl rfl ?_
 rintro i2 S h2 u2 w2
 have ap1 := w2.box h1
 have h3 := u2.box h1 ap1
 refine Opl.nil (Evr.sr rfl (Opl.alloc T96 rfl rfl rfl ?_))
 rintro i3 S h4 u3 w3
 have ap2 := w3.box h3
 have h5 := u3.box h3 ap2
 have ap3 := w3.box h2
 have h6 := u3.box h2 ap3
 refine Opl.nil (Evr.sr rfl (Opl.p1 (v := .ptr i1 0) (n := Opl.ldb (v := .lit (.int .i64 a0_0)) h5 rfl T3 rfl rfl rfl rfl (Opl.p1 (v := .ptr i3 0) (n := Opl.stb (vs := [.lit (.int .i64 a0_0)]) h4 rfl rfl Z3 rfl (Nat.le_of_ble_eq_true rfl) rfl rfl rfl rfl ?_)))))
 rintro S (h7 : Box (.ptr i3 0) [.lit (.int .i64 a0_0), .lit (.int .i64 0)] _) u4
 have h8 := u4.box h5 ap2
 have h9 := u4.box h6 ap3
 refine Opl.nil (Evr.sr rfl (Opl.p1 (v := .ptr i1 1) (n := Opl.ldb (v := .lit (.int .i64 a0_1)) h8 rfl T3 rfl rfl rfl rfl (Opl.p1 (v := .ptr i3 1) (n := Opl.stb (vs := [.lit (.int .i64 a0_1)]) h7 rfl rfl Z3 rfl (Nat.le_of_ble_eq_true rfl) rfl rfl rfl rfl ?_)))))
 rintro S (h10 : Box (.ptr i3 0) [.lit (.int .i64 a0_0), .lit (.int .i64 a0_1)] _) u5
 have h11 := u5.box h8 ap2
 have h12 := u5.box h9 ap3
 refine Opl.nil (Evr.sr rfl (Opl.ldb (v := .agg [.lit (.int .i64 a0_0), .lit (.int .i64 a0_1)]) h10 rfl T96 rfl rfl rfl rfl (Opl.stb (vs := [.lit (.int .i64 a0_0), .lit (.int .i64 a0_1)]) h12 rfl rfl Z96 rfl (Nat.le_of_ble_eq_true rfl) rfl rfl rfl rfl ?_)))
 rintro S (h13 : Box (.ptr i2 0) [.lit (.int .i64 a0_0), .lit (.int .i64 a0_1)] _) u6
 have h14 := u6.box h11 ap1
 have h15 := u6.box h10 ap3.symm
 refine Opl.nil ?_
 obtain rfl := Option.some.inj H
 refine Evr.retb (v := .agg [.lit (.int .i64 a0_0), .lit (.int .i64 a0_1)]) Try.func100 rfl h13 rfl T96 rfl ?_
 show Out _ (.agg [.lit (.int .i64 a0_0), .lit (.int .i64 a0_1)]) _
 exact (.agg2 .lit .lit)
theorem laws_toAndS.ev {k : Nat} {l0 : List LAnd} {v0 : PV} (hv0 : Sl cLAnd l0 v0) {r : (List IAnd)} (H : laws_toAndS.f k l0 = some r) : Ret Try.prog 50 [v0] fun v S => Vec cIAnd r v S := by
 unfold laws_toAndS.f at H
 refine Ret.intro Try.func50 rfl (Nat.le_of_ble_eq_true rfl) rfl ?_
 rw [tm1]
 refine Evr.sr rfl (Opl.p1 (n := Opl.nil (Evr.sr rfl (Opl.p1 (n := Opl.len (xs := l0) (by exact hv0) K25 rfl rfl rfl rfl ?_)))))
 obtain ⟨c1, H⟩ := peel H
 obtain ⟨c2, H⟩ := peel H
 refine Opl.make (M := cIAnd) (m := (l0.length : Int)) zIAnd (by exact cIAnd_z) rfl rfl K33 T96 rfl (by omega) (by show ((l0.length : Int)).toNat * 16 ≤ 281474976710656; omega) (by omega) rfl rfl rfl ?_
 rintro pv1 S h1 u1 w1
 refine Opl.p1 (n := Opl.nil (Evr.seq (Evr.sr rfl (Opl.p1 (n := Opl.nil (Evr.block ?_))))))
 refine Evr.loop (Evr.rounds (n := k) (Inv := fun n tm S => n ≤ k ∧ ∃ (x3_1 : List (IAnd)) (x4_1 : Int) (pv2 : PV), laws_toAndS.l0 n l0 x3_1 x4_1 = some r ∧ Has tm [(0, v0), (3, pv2), (4, .lit (.int .i64 x4_1))] ∧ Vec cIAnd x3_1 pv2 S) ?_ ?_ ?_)
 · exact ⟨Nat.le_refl _, _, _, _, H, ⟨rfl, rfl, rfl, trivial⟩, h1⟩
 ·
  rintro tm S ⟨_, _, _, _, H, -⟩
  simp [laws_toAndS.l0] at H
 ·
  rintro n1 ih1 tm S ⟨hle, x3_1, x4_1, pv2, H, hh, h2⟩
  simp only [laws_toAndS.l0] at H
  rw [hh.eq]
  refine Evr.seq (Evr.sr rfl (Opl.p1 (n := Opl.p1 (n := Opl.len (xs := l0) (by exact hv0) K25 rfl rfl rfl rfl (Opl.p1 (n := Opl.nil ?_))))))
  by_cases c3 : x4_1 < (l0.length : Int)
  case neg =>
   rw [if_neg c3] at H
   have e2 : (decide (x4_1 < (l0.length : Int))) = false := by simpa using c3
   try rw [e2]
   refine Evr.condF rfl (Evr.exit rfl (Evr.sr rfl (Opl.p1 (n := Opl.p1 (n := Opl.nil ?_)))))
   obtain rfl := Option.some.inj H
   refine Evr.ret1 Try.func50 rfl ?_
   show Vec _ _ pv2 _
   exact h2
  rw [if_pos c3] at H
  have e1 : (decide (x4_1 < (l0.length : Int))) = true := by simpa using c3
  try rw [e1]
  refine Evr.condT rfl (Evr.skip (Evr.seq (Evr.block (Evr.regionN rfl (Opl.p1 (n := Opl.p1 (n := Opl.p1 (n := Opl.p1 (n := ?_)))))))))
  obtain ⟨c4, H⟩ := peel H
  refine Opl.idx (M := cLAnd) (xs := l0) (j := x4_1) zLAnd (by exact hv0) rfl (by omega) (by omega) K25 Z106 rfl rfl ?_
  rintro p1 q1 h3
  obtain rfl := cLAnd_R (x := (rd_LAnd l0 x4_1)) h3
  refine Opl.lda (.agg [.lit (.int .i64 ((rd_LAnd l0 x4_1).f0)), .lit (.int .i64 ((rd_LAnd l0 x4_1).f1))]) rfl T106 rfl rfl rfl rfl ?_
  obtain ⟨bt287, h_bt287, H⟩ := Option.bind_eq_some_iff.1 H
  refine Opl.call (laws_toAnd.ev h_bt287) rfl rfl rfl rfl ⟨(.aggL ⟨(.lit _), (.lit _), trivial⟩), trivial⟩ (by decide) ?_
  rintro _ ⟨_, _, rfl, rfl, rfl⟩
  obtain ⟨c5, H⟩ := peel H
  refine Opl.idv (M := cIAnd) (xs := x3_1) (j := x4_1) (v := pv2) h2 rfl rfl (by omega) (by omega) K33 Z96 rfl rfl ?_
  rintro d1 z1 q2 h5 h6
  refine Opl.stv (M := cIAnd) (xs := x3_1) (j := x4_1) (y := (⟨bt287.1, bt287.2⟩ : IAnd)) (vs := [.lit (.int .i64 bt287.1), .lit (.int .i64 bt287.2)]) h5 h6 (by omega) (by omega) rfl rfl (by exact cIAnd_mk) Z96 rfl rfl rfl rfl ?_
  rw [← q2]
  rintro S h7 u2
  refine Opl.nil (Evr.inBlock (Evr.regionN rfl (Opl.p1 (n := Opl.p1 (n := Opl.p1 (n := Opl.nil ?_))))))
  exact ih1 _ (by omega) _ _ ⟨by omega, _, _, _, H, ⟨rfl, rfl, rfl, trivial⟩, h7⟩
theorem laws_toCircuit.ev {k : Nat} {a0_0 : Int} {l0_1 : List LAnd} {v0_1 : PV} (hv0_1 : Sl cLAnd l0_1 v0_1) {r : (Int × List IAnd)} (H : laws_toCircuit.f k a0_0 l0_1 = some r) : Ret Try.prog 12 [.agg [.lit (.int .i64 a0_0), v0_1]] fun v S => Out (fun q => ∃ q1 q2, q = .agg [q1, q2] ∧ q1 = .lit (.int .i64 r.1) ∧ Sl cIAnd r.2 q2) v S := by
 unfold laws_toCircuit.f at H
 refine Ret.intro Try.func12 rfl (Nat.le_of_ble_eq_true rfl) rfl ?_
 rw [tm1]
 refine Evr.sr rfl (Opl.box (cs := [.lit (.int .i64 a0_0), v0_1]) rfl rfl rfl rfl ?_)
 rintro i1 S h1 u1 w1
 refine Opl.alloc T35 rfl rfl rfl ?_
 rintro i2 S h2 u2 w2
 have ap1 := w2.box h1
 have h3 := u2.box h1 ap1
 refine Opl.nil (Evr.sr rfl (Opl.alloc T35 rfl rfl rfl ?_))
 rintro i3 S h4 u3 w3
 have ap2 := w3.box h3
 have h5 := u3.box h3 ap2
 have ap3 := w3.box h2
 have h6 := u3.box h2 ap3
 refine Opl.nil (Evr.sr rfl (Opl.p1 (v := .ptr i1 0) (n := Opl.ldb (v := .lit (.int .i64 a0_0)) h5 rfl T3 rfl rfl rfl rfl (Opl.p1 (v := .ptr i3 0) (n := Opl.stb (vs := [.lit (.int .i64 a0_0)]) h4 rfl rfl Z3 rfl (Nat.le_of_ble_eq_true rfl) rfl rfl rfl rfl ?_)))))
 rintro S (h7 : Box (.ptr i3 0) [.lit (.int .i64 a0_0), .lit (.slice none 0 0)] _) u4
 have h8 := u4.box h5 ap2
 have h9 := u4.box h6 ap3
 refine Opl.nil (Evr.sr rfl (Opl.p1 (v := .ptr i1 1) (n := Opl.ldb (v := v0_1) h8 rfl T25 rfl rfl rfl rfl ?_)))
 obtain ⟨t293, h_t293, H⟩ := Option.bind_eq_some_iff.1 H
 refine Opl.call ((laws_toAndS.ev hv0_1 h_t293).mono fun _ _ h => Out.vec h) rfl rfl rfl rfl ⟨hv0_1.plain, trivial⟩ (by decide) ?_
 rintro pv1 h10
 refine Opl.p1 (v := .ptr i3 1) (n := Opl.stb (vs := [pv1]) h7 rfl (by exact h10.cells) Z33 rfl (Nat.le_of_ble_eq_true rfl) (by simp only [List.all_cons, List.all_nil, h10.one, Bool.and_true, Bool.true_and] <;> rfl) rfl rfl rfl ?_)
 rintro S (h11 : Box (.ptr i3 0) [.lit (.int .i64 a0_0), pv1] _) u5
 have h12 := u5.box h8 ap2
 have h13 := u5.box h9 ap3
 refine Opl.nil (Evr.sr rfl (Opl.ldb (v := .agg [.lit (.int .i64 a0_0), pv1]) h11 rfl T35 rfl rfl rfl rfl (Opl.stb (vs := [.lit (.int .i64 a0_0), pv1]) h13 rfl rfl Z35 rfl (Nat.le_of_ble_eq_true rfl) (by simp only [List.all_cons, List.all_nil, h10.one, Bool.and_true, Bool.true_and] <;> rfl) rfl rfl rfl ?_)))
 rintro S (h14 : Box (.ptr i2 0) [.lit (.int .i64 a0_0), pv1] _) u6
 have h15 := u6.box h12 ap1
 have h16 := u6.box h11 ap3.symm
 refine Opl.nil ?_
 obtain rfl := Option.some.inj H
 refine Evr.retb (v := .agg [.lit (.int .i64 a0_0), pv1]) Try.func12 rfl h14 rfl T35 rfl ?_
 show Out _ (.agg [.lit (.int .i64 a0_0), pv1]) _
 exact (.agg2 .lit (.sl h10))
theorem laws_toIntS.ev {k : Nat} {l0 : List Int} {v0 : PV} (hv0 : Sl (cInt .i64) l0 v0) {r : (List Int)} (H : laws_toIntS.f k l0 = some r) : Ret Try.prog 99 [v0] fun v S => Vec (cInt .i64) r v S := by
 unfold laws_toIntS.f at H
 refine Ret.intro Try.func99 rfl (Nat.le_of_ble_eq_true rfl) rfl ?_
 rw [tm1]
 refine Evr.sr rfl (Opl.p1 (n := Opl.nil (Evr.sr rfl (Opl.p1 (n := Opl.len (xs := l0) (by exact hv0) K41 rfl rfl rfl rfl ?_)))))
 obtain ⟨c1, H⟩ := peel H
 obtain ⟨c2, H⟩ := peel H
 refine Opl.make (M := (cInt .i64)) (m := (l0.length : Int)) (0 : Int) (by exact rfl) rfl rfl K41 T3 rfl (by omega) (by show ((l0.length : Int)).toNat * 8 ≤ 281474976710656; omega) (by omega) rfl rfl rfl ?_
 rintro pv1 S h1 u1 w1
 refine Opl.p1 (n := Opl.nil (Evr.seq (Evr.sr rfl (Opl.p1 (n := Opl.nil (Evr.block ?_))))))
 refine Evr.loop (Evr.rounds (n := k) (Inv := fun n tm S => n ≤ k ∧ ∃ (x3_1 : List Int) (x4_1 : Int) (pv2 : PV), laws_toIntS.l0 n l0 x3_1 x4_1 = some r ∧ Has tm [(0, v0), (3, pv2), (4, .lit (.int .i64 x4_1))] ∧ Vec (cInt .i64) x3_1 pv2 S) ?_ ?_ ?_)
 · exact ⟨Nat.le_refl _, _, _, _, H, ⟨rfl, rfl, rfl, trivial⟩, h1⟩
 ·
  rintro tm S ⟨_, _, _, _, H, -⟩
  simp [laws_toIntS.l0] at H
 ·
  rintro n1 ih1 tm S ⟨hle, x3_1, x4_1, pv2, H, hh, h2⟩
  simp only [laws_toIntS.l0] at H
  rw [hh.eq]
  refine Evr.seq (Evr.sr rfl (Opl.p1 (n := Opl.p1 (n := Opl.len (xs := l0) (by exact hv0) K41 rfl rfl rfl rfl (Opl.p1 (n := Opl.nil ?_))))))
  by_cases c3 : x4_1 < (l0.length : Int)
  case neg =>
   rw [if_neg c3] at H
   have e2 : (decide (x4_1 < (l0.length : Int))) = false := by simpa using c3
   try rw [e2]
   refine Evr.condF rfl (Evr.exit rfl (Evr.sr rfl (Opl.p1 (n := Opl.p1 (n := Opl.nil ?_)))))
   obtain rfl := Option.some.inj H
   refine Evr.ret1 Try.func99 rfl ?_
   show Vec _ _ pv2 _
   exact h2
  rw [if_pos c3] at H
  have e1 : (decide (x4_1 < (l0.length : Int))) = true := by simpa using c3
  try rw [e1]
  refine Evr.condT rfl (Evr.skip (Evr.seq (Evr.block (Evr.regionN rfl (Opl.p1 (n := Opl.p1 (n := Opl.p1 (n := Opl.p1 (n := ?_)))))))))
  obtain ⟨c4, H⟩ := peel H
  obtain ⟨c5, H⟩ := peel H
  refine Opl.idx (M := (cInt .i64)) (xs := l0) (j := x4_1) (0 : Int) (by exact hv0) rfl (by omega) (by omega) K41 Z3 rfl rfl ?_
  rintro p1 q1 h3
  obtain rfl : p1 = [.lit (.int .i64 (rd l0 x4_1))] := h3
  refine Opl.lda (.lit (.int .i64 (rd l0 x4_1))) rfl T3 rfl rfl rfl rfl (Opl.idv (M := (cInt .i64)) (xs := x3_1) (j := x4_1) (v := pv2) h2 rfl rfl (by omega) (by omega) K41 Z3 rfl rfl ?_)
  rintro d1 z1 q2 h4 h5
  refine Opl.stv (M := (cInt .i64)) (xs := x3_1) (j := x4_1) (y := (rd l0 x4_1)) (vs := [.lit (.int .i64 (rd l0 x4_1))]) h4 h5 (by omega) (by omega) rfl rfl (by exact rfl) Z3 rfl rfl rfl rfl ?_
  rw [← q2]
  rintro S h6 u2
  refine Opl.nil (Evr.inBlock (Evr.regionN rfl (Opl.p1 (n := Opl.p1 (n := Opl.p1 (n := Opl.nil ?_))))))
  exact ih1 _ (by omega) _ _ ⟨by omega, _, _, _, H, ⟨rfl, rfl, rfl, trivial⟩, h6⟩
theorem laws_toIntSS.ev {k : Nat} {l0 : List (List Int)} {v0 : PV} (hv0 : Sl (cSl (cInt .i64)) l0 v0) {r : (List (List Int))} (H : laws_toIntSS.f k l0 = some r) : Ret Try.prog 49 [v0] fun v S => Vec (cSl (cInt .i64)) r v S := by
 unfold laws_toIntSS.f at H
 refine Ret.intro Try.func49 rfl (Nat.le_of_ble_eq_true rfl) rfl ?_
 rw [tm1]
 refine Evr.sr rfl (Opl.p1 (n := Opl.nil (Evr.sr rfl (Opl.p1 (n := Opl.len (xs := l0) (by exact hv0) K22 rfl rfl rfl rfl ?_)))))
 obtain ⟨c1, H⟩ := peel H
 obtain ⟨c2, H⟩ := peel H
 refine Opl.make (M := (cSl (cInt .i64))) (m := (l0.length : Int)) ([] : List Int) (by exact ⟨_, rfl, .nil⟩) rfl rfl K22 T41 rfl (by omega) (by show ((l0.length : Int)).toNat * 24 ≤ 281474976710656; omega) (by omega) rfl rfl rfl ?_
 rintro pv1 S h1 u1 w1
 refine Opl.p1 (n := Opl.nil (Evr.seq (Evr.sr rfl (Opl.p1 (n := Opl.nil (Evr.block ?_))))))
 refine Evr.loop (Evr.rounds (n := k) (Inv := fun n tm S => n ≤ k ∧ ∃ (x3_1 : List (List Int)) (x4_1 : Int) (pv2 : PV), laws_toIntSS.l0 n l0 x3_1 x4_1 = some r ∧ Has tm [(0, v0), (3, pv2), (4, .lit (.int .i64 x4_1))] ∧ Vec (cSl (cInt .i64)) x3_1 pv2 S) ?_ ?_ ?_)
 · exact ⟨Nat.le_refl _, _, _, _, H, ⟨rfl, rfl, rfl, trivial⟩, h1⟩
 ·
  rintro tm S ⟨_, _, _, _, H, -⟩
  simp [laws_toIntSS.l0] at H
 ·
  rintro n1 ih1 tm S ⟨hle, x3_1, x4_1, pv2, H, hh, h2⟩
  simp only [laws_toIntSS.l0] at H
  rw [hh.eq]
  refine Evr.seq (Evr.sr rfl (Opl.p1 (n := Opl.p1 (n := Opl.len (xs := l0) (by exact hv0) K22 rfl rfl rfl rfl (Opl.p1 (n := Opl.nil ?_))))))
  by_cases c3 : x4_1 < (l0.length : Int)
  case neg =>
   rw [if_neg c3] at H
   have e2 : (decide (x4_1 < (l0.length : Int))) = false := by simpa using c3
   try rw [e2]
   refine Evr.condF rfl (Evr.exit rfl (Evr.sr rfl (Opl.p1 (n := Opl.p1 (n := Opl.nil ?_)))))
   obtain rfl := Option.some.inj H
   refine Evr.ret1 Try.func49 rfl ?_
   show Vec _ _ pv2 _
   exact h2
  rw [if_pos c3] at H
  have e1 : (decide (x4_1 < (l0.length : Int))) = true := by simpa using c3
  try rw [e1]
  refine Evr.condT rfl (Evr.skip (Evr.seq (Evr.block (Evr.regionN rfl (Opl.p1 (n := Opl.p1 (n := Opl.p1 (n := Opl.p1 (n := ?_)))))))))
  obtain ⟨c4, H⟩ := peel H
  refine Opl.idx (M := (cSl (cInt .i64))) (xs := l0) (j := x4_1) ([] : List Int) (by exact hv0) rfl (by omega) (by omega) K22 Z41 rfl rfl ?_
  rintro p1 q1 h3
  obtain ⟨pv3, rfl, h4⟩ := h3
  refine Opl.lda (pv3) rfl T41 rfl rfl rfl rfl ?_
  obtain ⟨t270, h_t270, H⟩ := Option.bind_eq_some_iff.1 H
  refine Opl.call ((laws_toIntS.ev h4 h_t270).mono fun _ _ h => Out.vec h) rfl rfl rfl rfl ⟨h4.plain, trivial⟩ (by decide) ?_
  rintro pv4 h5
  obtain ⟨c5, H⟩ := peel H
  refine Opl.idv (M := (cSl (cInt .i64))) (xs := x3_1) (j := x4_1) (v := pv2) h2 rfl rfl (by omega) (by omega) K22 Z41 rfl rfl ?_
  rintro d1 z1 q2 h6 h7
  refine Opl.stv (M := (cSl (cInt .i64))) (xs := x3_1) (j := x4_1) (y := t270) (vs := [pv4]) h6 h7 (by omega) (by omega) rfl (by exact h5.cells) (by exact ⟨_, by first | rfl | exact h5.cells, h5⟩) Z41 (by simp only [List.all_cons, List.all_nil, h5.one, Bool.and_true, Bool.true_and] <;> rfl) rfl rfl rfl ?_
  rw [← q2]
  rintro S h8 u2
  refine Opl.nil (Evr.inBlock (Evr.regionN rfl (Opl.p1 (n := Opl.p1 (n := Opl.p1 (n := Opl.nil ?_))))))
  exact ih1 _ (by omega) _ _ ⟨by omega, _, _, _, H, ⟨rfl, rfl, rfl, trivial⟩, h8⟩
theorem laws_toClauses.ev {k : Nat} {a0_0 : Int} {l0_1 : List (List Int)} {v0_1 : PV} (hv0_1 : Sl (cSl (cInt .i64)) l0_1 v0_1) {r : (Int × List (List Int))} (H : laws_toClauses.f k a0_0 l0_1 = some r) : Ret Try.prog 11 [.agg [.lit (.int .i64 a0_0), v0_1]] fun v S => Out (fun q => ∃ q1 q2, q = .agg [q1, q2] ∧ q1 = .lit (.int .i64 r.1) ∧ Sl (cSl (cInt .i64)) r.2 q2) v S := by
 unfold laws_toClauses.f at H
 refine Ret.intro Try.func11 rfl (Nat.le_of_ble_eq_true rfl) rfl ?_
 rw [tm1]
 refine Evr.sr rfl (Opl.box (cs := [.lit (.int .i64 a0_0), v0_1]) rfl rfl rfl rfl ?_)
 rintro i1 S h1 u1 w1
 refine Opl.alloc T31 rfl rfl rfl ?_
 rintro i2 S h2 u2 w2
 have ap1 := w2.box h1
 have h3 := u2.box h1 ap1
 refine Opl.nil (Evr.sr rfl (Opl.alloc T31 rfl rfl rfl ?_))
 rintro i3 S h4 u3 w3
 have ap2 := w3.box h3
 have h5 := u3.box h3 ap2
 have ap3 := w3.box h2
 have h6 := u3.box h2 ap3
 refine Opl.nil (Evr.sr rfl (Opl.p1 (v := .ptr i1 0) (n := Opl.ldb (v := .lit (.int .i64 a0_0)) h5 rfl T3 rfl rfl rfl rfl (Opl.p1 (v := .ptr i3 0) (n := Opl.stb (vs := [.lit (.int .i64 a0_0)]) h4 rfl rfl Z3 rfl (Nat.le_of_ble_eq_true rfl) rfl rfl rfl rfl ?_)))))
 rintro S (h7 : Box (.ptr i3 0) [.lit (.int .i64 a0_0), .lit (.slice none 0 0)] _) u4
 have h8 := u4.box h5 ap2
 have h9 := u4.box h6 ap3
 refine Opl.nil (Evr.sr rfl (Opl.p1 (v := .ptr i1 1) (n := Opl.ldb (v := v0_1) h8 rfl T22 rfl rfl rfl rfl ?_)))
 obtain ⟨t277, h_t277, H⟩ := Option.bind_eq_some_iff.1 H
 refine Opl.call ((laws_toIntSS.ev hv0_1 h_t277).mono fun _ _ h => Out.vec h) rfl rfl rfl rfl ⟨hv0_1.plain, trivial⟩ (by decide) ?_
 rintro pv1 h10
 refine Opl.p1 (v := .ptr i3 1) (n := Opl.stb (vs := [pv1]) h7 rfl (by exact h10.cells) Z22 rfl (Nat.le_of_ble_eq_true rfl) (by simp only [List.all_cons, List.all_nil, h10.one, Bool.and_true, Bool.true_and] <;> rfl) rfl rfl rfl ?_)
 rintro S (h11 : Box (.ptr i3 0) [.lit (.int .i64 a0_0), pv1] _) u5
 have h12 := u5.box h8 ap2
 have h13 := u5.box h9 ap3
 refine Opl.nil (Evr.sr rfl (Opl.ldb (v := .agg [.lit (.int .i64 a0_0), pv1]) h11 rfl T31 rfl rfl rfl rfl (Opl.stb (vs := [.lit (.int .i64 a0_0), pv1]) h13 rfl rfl Z31 rfl (Nat.le_of_ble_eq_true rfl) (by simp only [List.all_cons, List.all_nil, h10.one, Bool.and_true, Bool.true_and] <;> rfl) rfl rfl rfl ?_)))
 rintro S (h14 : Box (.ptr i2 0) [.lit (.int .i64 a0_0), pv1] _) u6
 have h15 := u6.box h12 ap1
 have h16 := u6.box h11 ap3.symm
 refine Opl.nil ?_
 obtain rfl := Option.some.inj H
 refine Evr.retb (v := .agg [.lit (.int .i64 a0_0), pv1]) Try.func11 rfl h14 rfl T31 rfl ?_
 show Out _ (.agg [.lit (.int .i64 a0_0), pv1]) _
 exact (.agg2 .lit (.sl h10))
end Go.Proofs.Ytaajnneigmgikaa.PA
