/- Walks of Go functions: each is shown to answer as the Lean function beside it tells, under the conditions that its theorem names. -/
import Derived.Test.YtigbbefdndcmbaaProg
import Derived.KernelRfl
import Derived.Below
import Derived.Deep.Draws
import Derived.Deep.AppendLies
import Derived.Maps.AppendAt
import Derived.OwnWalk
import Derived.Laws.BytesArg
import Derived.Laws.MakeOwn
import Derived.Laws.OwnMore
import Derived.Deep.OwnRows
import Derived.Tactics
import Derived.Lib.ConvBytes
import Derived.Laws.Slices
import Derived.WalkKit
import Derived.RowKit3
import Derived.Deep.LoopGhost
import Derived.Deep.QuietTactic
import Derived.BigQuiet
import Derived.WideLaws
import Derived.Deep.DeepCutAuto
import Derived.Deep.CutBlock
import Derived.Deep.RegionHeld3
import Derived.Laws.Rows
import Derived.Lib.AppendStr
import Derived.ArgAppend
import Derived.Laws.IdiomCopy
import Derived.OrdersHeld
import Derived.Laws.BitsLemmas
import Derived.RowKit
import Derived.Laws.StructEq
import Derived.Lib.SliceRun
import Derived.WalkSpells
import Derived.ChangeArms
import Derived.ChangeSlices
import Derived.Deep.Slices
import Derived.Attr
import Derived.Laws.Append
import Derived.Laws.AppendOwn
import Derived.Laws.Entries
import Derived.Calls
import Derived.Laws.Sem
import Derived.Test.YtigbbefdndcmbaaKP8860966450
namespace Go.Proofs.Ytigbbefdndcmbaa.PA
open Go Go.Abs Go.RowKit Go.Proofs Go.Proofs.YtigbbefdndcmbaaW.PrintWords Go.Proofs.YtigbbefdndcmbaaW.PrintLast Go.Proofs.YtigbbefdndcmbaaW.PrintMore
set_option maxRecDepth 100000
set_option maxHeartbeats 4000000
set_option linter.unusedVariables false
set_option linter.unusedSimpArgs false
theorem laws_eqIntS.ev {k : Nat} {l0 : List Int} {v0 : PV} (hv0 : Sl (cInt .i64) l0 v0) {l1 : List Int} {v1 : PV} (hv1 : Sl (cInt .i64) l1 v1) {r : Bool} (H : laws_eqIntS.f k l0 l1 = some r) : Ret Try.prog 10 [v0, v1] fun v S => v = .lit (.bool r) := by
 unfold laws_eqIntS.f at H
 refine Ret.intro Try.func10 rfl (Nat.le_of_ble_eq_true rfl) rfl ?_
 rw [tm2]
 refine Evr.sr rfl (Opl.p1 (n := Opl.nil (Evr.seq (Evr.sr rfl (Opl.p1 (n := Opl.len (xs := l0) (by exact hv0) K22 rfl rfl rfl rfl (Opl.p1 (n := Opl.len (xs := l1) (by exact hv1) K22 rfl rfl rfl rfl (Opl.p1 (n := Opl.nil ?_))))))))))
 by_cases c1 : (l0.length : Int) = (l1.length : Int)
 case neg =>
  rw [if_neg c1] at H
  have e6 : ((l0.length : Int) != (l1.length : Int)) = true := by simpa using c1
  try rw [e6]
  refine Evr.condT rfl (Evr.sr rfl (Opl.p1 (n := Opl.nil ?_)))
  obtain rfl := Option.some.inj H
  refine Evr.ret1 Try.func10 rfl ?_
  show (.lit (.bool false) : PV) = _
  first | rfl | (simp only [go_sem]; rfl)
 rw [if_pos c1] at H
 have e1 : ((l0.length : Int) != (l1.length : Int)) = false := by simpa using c1
 try rw [e1]
 refine Evr.condF rfl (Evr.skip (Evr.seq (Evr.sr rfl (Opl.p1 (n := Opl.nil (Evr.block ?_))))))
 refine Evr.loop (Evr.rounds (n := k) (Inv := fun n tm S => n ≤ k ∧ ∃ (x5_1 : Int), laws_eqIntS.l0 n l0 l1 x5_1 = some r ∧ Has tm [(0, v0), (1, v1), (5, .lit (.int .i64 x5_1))]) ?_ ?_ ?_)
 · exact ⟨Nat.le_refl _, _, H, ⟨rfl, rfl, rfl, trivial⟩⟩
 ·
  rintro tm S ⟨_, _, H, -⟩
  simp [laws_eqIntS.l0] at H
 ·
  rintro n1 ih1 tm S ⟨hle, x5_1, H, hh⟩
  simp only [laws_eqIntS.l0] at H
  rw [hh.eq]
  refine Evr.seq (Evr.sr rfl (Opl.p1 (n := Opl.p1 (n := Opl.len (xs := l0) (by exact hv0) K22 rfl rfl rfl rfl (Opl.p1 (n := Opl.nil ?_))))))
  by_cases c2 : x5_1 < (l0.length : Int)
  case neg =>
   rw [if_neg c2] at H
   have e5 : (decide (x5_1 < (l0.length : Int))) = false := by simpa using c2
   try rw [e5]
   refine Evr.condF rfl (Evr.exit rfl (Evr.sr rfl (Opl.p1 (n := Opl.nil ?_))))
   obtain rfl := Option.some.inj H
   refine Evr.ret1 Try.func10 rfl ?_
   show (.lit (.bool true) : PV) = _
   first | rfl | (simp only [go_sem]; rfl)
  rw [if_pos c2] at H
  have e2 : (decide (x5_1 < (l0.length : Int))) = true := by simpa using c2
  try rw [e2]
  refine Evr.condT rfl (Evr.skip (Evr.seq (Evr.block (Evr.seq (Evr.regionD rfl (by kernel_rfl) (Opl.p1 (n := Opl.p1 (n := ?_))))))))
  obtain ⟨c3, H⟩ := peel H
  obtain ⟨c4, H⟩ := peel H
  refine Opl.idx (M := (cInt .i64)) (xs := l0) (j := x5_1) (0 : Int) (by exact hv0) rfl (by omega) (by omega) K22 Z3 rfl rfl ?_
  rintro p1 q1 h1
  obtain rfl : p1 = [.lit (.int .i64 (rd l0 x5_1))] := h1
  refine Opl.lda (.lit (.int .i64 (rd l0 x5_1))) rfl T3 rfl rfl rfl rfl (Opl.p1 (n := Opl.p1 (n := Opl.idx (M := (cInt .i64)) (xs := l1) (j := x5_1) (0 : Int) (by exact hv1) rfl (by omega) (by omega) K22 Z3 rfl rfl ?_)))
  rintro p2 q2 h2
  obtain rfl : p2 = [.lit (.int .i64 (rd l1 x5_1))] := h2
  refine Opl.lda (.lit (.int .i64 (rd l1 x5_1))) rfl T3 rfl rfl rfl rfl (Opl.p1 (n := Opl.nil ?_))
  by_cases c5 : (rd l0 x5_1) = (rd l1 x5_1)
  case pos =>
   rw [if_pos c5] at H
   have e3 : ((rd l0 x5_1) != (rd l1 x5_1)) = false := by simpa using c5
   try rw [e3]
   refine Evr.condF rfl (Evr.skip (Evr.inBlock (Evr.regionN rfl (Opl.p1 (n := Opl.p1 (n := Opl.p1 (n := Opl.nil ?_)))))))
   exact ih1 _ (by omega) _ _ ⟨by omega, _, H, ⟨rfl, rfl, rfl, trivial⟩⟩
  rw [if_neg c5] at H
  have e4 : ((rd l0 x5_1) != (rd l1 x5_1)) = true := by simpa using c5
  try rw [e4]
  refine Evr.condT rfl (Evr.sr rfl (Opl.p1 (n := Opl.nil ?_)))
  obtain rfl := Option.some.inj H
  refine Evr.ret1 Try.func10 rfl ?_
  show (.lit (.bool false) : PV) = _
  first | rfl | (simp only [go_sem]; rfl)
theorem laws_heldIntS.ev {k : Nat} {l0 : List Int} {v0 : PV} (hv0 : Sl (cInt .i64) l0 v0) {a1 : Int} {r : Int} (H : laws_heldIntS.f k l0 a1 = some r) : Ret Try.prog 12 [v0, .lit (.int .i64 a1)] fun v S => v = .lit (.int .i64 r) := by
 unfold laws_heldIntS.f at H
 refine Ret.intro Try.func12 rfl (Nat.le_of_ble_eq_true rfl) rfl ?_
 rw [tm2]
 refine Evr.sr rfl (Opl.p1 (n := Opl.nil (Evr.seq (Evr.sr rfl (Opl.p1 (n := Opl.nil (Evr.block ?_)))))))
 refine Evr.loop (Evr.rounds (n := k) (Inv := fun n tm S => n ≤ k ∧ ∃ (x1_1 : Int) (x5_1 : Int), laws_heldIntS.l0 n l0 x1_1 x5_1 = some r ∧ Has tm [(0, v0), (1, .lit (.int .i64 x1_1)), (5, .lit (.int .i64 x5_1))]) ?_ ?_ ?_)
 · exact ⟨Nat.le_refl _, _, _, H, ⟨rfl, rfl, rfl, trivial⟩⟩
 ·
  rintro tm S ⟨_, _, _, H, -⟩
  simp [laws_heldIntS.l0] at H
 ·
  rintro n1 ih1 tm S ⟨hle, x1_1, x5_1, H, hh⟩
  simp only [laws_heldIntS.l0] at H
  rw [hh.eq]
  refine Evr.seq (Evr.sr rfl (Opl.p1 (n := Opl.p1 (n := Opl.len (xs := l0) (by exact hv0) K22 rfl rfl rfl rfl (Opl.p1 (n := Opl.nil ?_))))))
  by_cases c1 : x5_1 < (l0.length : Int)
  case neg =>
   rw [if_neg c1] at H
   have e4 : (decide (x5_1 < (l0.length : Int))) = false := by simpa using c1
   try rw [e4]
   refine Evr.condF rfl (Evr.exit rfl (Evr.sr rfl (Opl.p1 (n := Opl.p1 (n := Opl.nil ?_)))))
   obtain rfl := Option.some.inj H
   refine Evr.ret1 Try.func12 rfl ?_
   show (.lit (.int .i64 x1_1) : PV) = _
   first | rfl | (simp only [go_sem]; rfl)
  rw [if_pos c1] at H
  have e1 : (decide (x5_1 < (l0.length : Int))) = true := by simpa using c1
  try rw [e1]
  refine Evr.condT rfl (Evr.skip (Evr.seq (Evr.block (Evr.seq (Evr.sr rfl (Opl.p1 (n := Opl.p1 (n := ?_))))))))
  obtain ⟨c2, H⟩ := peel H
  refine Opl.idx (M := (cInt .i64)) (xs := l0) (j := x5_1) (0 : Int) (by exact hv0) rfl (by omega) (by omega) K22 Z3 rfl rfl ?_
  rintro p1 q1 h1
  obtain rfl : p1 = [.lit (.int .i64 (rd l0 x5_1))] := h1
  refine Opl.lda (.lit (.int .i64 (rd l0 x5_1))) rfl T3 rfl rfl rfl rfl (Opl.p1 (n := Opl.p1 (n := Opl.nil ?_)))
  by_cases c3 : (rd l0 x5_1) = x1_1
  case neg =>
   rw [if_neg c3] at H
   have e3 : ((rd l0 x5_1) != x1_1) = true := by simpa using c3
   try rw [e3]
   refine Evr.condT rfl (Evr.sr rfl (Opl.p1 (n := Opl.nil ?_)))
   obtain rfl := Option.some.inj H
   refine Evr.ret1 Try.func12 rfl ?_
   show (.lit (.int .i64 (-1)) : PV) = _
   first | rfl | (simp only [go_sem]; rfl)
  rw [if_pos c3] at H
  have e2 : ((rd l0 x5_1) != x1_1) = false := by simpa using c3
  try rw [e2]
  refine Evr.condF rfl (Evr.skip (Evr.regionN rfl (Opl.p1 (n := Opl.p1 (n := Opl.p1 (n := Opl.nil (Evr.inBlock (Evr.regionN rfl (Opl.p1 (n := Opl.p1 (n := Opl.p1 (n := Opl.nil ?_))))))))))))
  exact ih1 _ (by omega) _ _ ⟨by omega, _, _, H, ⟨rfl, rfl, rfl, trivial⟩⟩
theorem laws_toIntS.ev {k : Nat} {l0 : List Int} {v0 : PV} (hv0 : Sl (cInt .i64) l0 v0) {r : (List Int)} (H : laws_toIntS.f k l0 = some r) : Ret Try.prog 8 [v0] fun v S => Vec (cInt .i64) r v S := by
 unfold laws_toIntS.f at H
 refine Ret.intro Try.func8 rfl (Nat.le_of_ble_eq_true rfl) rfl ?_
 rw [tm1]
 refine Evr.sr rfl (Opl.p1 (n := Opl.nil (Evr.sr rfl (Opl.p1 (n := Opl.len (xs := l0) (by exact hv0) K22 rfl rfl rfl rfl ?_)))))
 obtain ⟨c1, H⟩ := peel H
 obtain ⟨c2, H⟩ := peel H
 refine Opl.make (M := (cInt .i64)) (m := (l0.length : Int)) (0 : Int) (by exact rfl) rfl rfl K22 T3 rfl (by omega) (by show ((l0.length : Int)).toNat * 8 ≤ 281474976710656; omega) (by omega) rfl rfl rfl ?_
 rintro pv1 S h1 u1 w1
 refine Opl.p1 (n := Opl.nil (Evr.seq (Evr.sr rfl (Opl.p1 (n := Opl.nil (Evr.block ?_))))))
 refine Evr.loop (Evr.rounds (n := k) (Inv := fun n tm S => n ≤ k ∧ ∃ (x3_1 : List Int) (x4_1 : Int) (pv2 : PV), laws_toIntS.l0 n l0 x3_1 x4_1 = some r ∧ Has tm [(0, v0), (3, pv2), (4, .lit (.int .i64 x4_1))] ∧ Vec (cInt .i64) x3_1 pv2 S) ?_ ?_ ?_)
 · exact ⟨Nat.le_refl _, _, _, _, H, ⟨rfl, rfl, rfl, trivial⟩, h1⟩
 ·
  rintro tm S ⟨_, _, _, _, H, -⟩
  simp [laws_toIntS.l0] at H
 ·
  rintro n1 ih1 tm S ⟨hle, x3_1, x4_1, pv2, H, hh, h2⟩
  simp only [laws_toIntS.l0] at H
  rw [hh.eq]
  refine Evr.seq (Evr.sr rfl (Opl.p1 (n := Opl.p1 (n := Opl.len (xs := l0) (by exact hv0) K22 rfl rfl rfl rfl (Opl.p1 (n := Opl.nil ?_))))))
  by_cases c3 : x4_1 < (l0.length : Int)
  case neg =>
   rw [if_neg c3] at H
   have e2 : (decide (x4_1 < (l0.length : Int))) = false := by simpa using c3
   try rw [e2]
   refine Evr.condF rfl (Evr.exit rfl (Evr.sr rfl (Opl.p1 (n := Opl.p1 (n := Opl.nil ?_)))))
   obtain rfl := Option.some.inj H
   refine Evr.ret1 Try.func8 rfl ?_
   show Vec _ _ pv2 _
   exact h2
  rw [if_pos c3] at H
  have e1 : (decide (x4_1 < (l0.length : Int))) = true := by simpa using c3
  try rw [e1]
  refine Evr.condT rfl (Evr.skip (Evr.seq (Evr.block (Evr.regionN rfl (Opl.p1 (n := Opl.p1 (n := Opl.p1 (n := Opl.p1 (n := ?_)))))))))
  obtain ⟨c4, H⟩ := peel H
  obtain ⟨c5, H⟩ := peel H
  refine Opl.idx (M := (cInt .i64)) (xs := l0) (j := x4_1) (0 : Int) (by exact hv0) rfl (by omega) (by omega) K22 Z3 rfl rfl ?_
  rintro p1 q1 h3
  obtain rfl : p1 = [.lit (.int .i64 (rd l0 x4_1))] := h3
  refine Opl.lda (.lit (.int .i64 (rd l0 x4_1))) rfl T3 rfl rfl rfl rfl (Opl.idv (M := (cInt .i64)) (xs := x3_1) (j := x4_1) (v := pv2) h2 rfl rfl (by omega) (by omega) K22 Z3 rfl rfl ?_)
  rintro d1 z1 q2 h4 h5
  refine Opl.stv (M := (cInt .i64)) (xs := x3_1) (j := x4_1) (y := (rd l0 x4_1)) (vs := [.lit (.int .i64 (rd l0 x4_1))]) h4 h5 (by omega) (by omega) rfl rfl (by exact rfl) Z3 rfl rfl rfl rfl ?_
  rw [← q2]
  rintro S h6 u2
  refine Opl.nil (Evr.inBlock (Evr.regionN rfl (Opl.p1 (n := Opl.p1 (n := Opl.p1 (n := Opl.nil ?_))))))
  exact ih1 _ (by omega) _ _ ⟨by omega, _, _, _, H, ⟨rfl, rfl, rfl, trivial⟩, h6⟩
theorem laws_markIntS.mks : Mks Try.prog 11 (oRow (oPl (cInt .i64) (oInt .i64))) (leaves fun _ => 1) okAny first := by
 intro S0 ids l c k h hok h0 hb
 obtain ⟨p, rfl⟩ := oRow_one h
 show RetS _ _ [p, _] _ _
 refine RetS.intro Try.func11 rfl (Nat.le_of_ble_eq_true rfl) rfl ?_
 rw [tm2]
 obtain ⟨hv, rfl⟩ := tree_vec h
 rw [leaves_const] at hb ⊢
 have hlen := hv.len
 refine Evr.seq (Evr.regionN rfl (Opl.one rfl rfl (by simp only [go_sem]; rfl) (Opl.nil (Evr.seq (Evr.seq (Evr.regionN rfl (Opl.one rfl rfl (by simp only [go_sem]; rfl) (Opl.nil (Evr.block ?_)))))))))
 refine Evr.loop (Evr.rounds (n := l.length + 1) (Inv := fun n tm S => ∃ (k1 i : Int), Has tm [(0, p), (1, .lit (.int .i64 k1)), (5, .lit (.int .i64 i))] ∧ 0 ≤ i ∧ i ≤ l.length ∧ i + n = l.length + 1 ∧ k1 = k + i * 1 ∧ Flat S0 S p l.length 1) ?_ ?_ ?_)
 · exact ⟨k, 0, ⟨rfl, rfl, rfl, trivial⟩, by omega, by omega, by omega, by omega, Flat.of ints_int hv⟩
 · rintro tm S ⟨k1, i, -, h1, h2, h3, -⟩
   omega
 rintro n ih tm S ⟨k1, i, hh, h1, h2, h3, rfl, hf⟩
 rw [hh.eq]
 refine Evr.seq (Evr.seq (Evr.regionN rfl (Opl.one rfl rfl (by simp only [go_sem]; rfl) (Opl.one rfl rfl (by simp only [go_sem]; rfl) (Opl.leno (by exact hlen) K22 rfl rfl rfl rfl (Opl.one rfl rfl (by simp only [go_sem]; rfl) (Opl.nil ?_)))))))
 by_cases c : i < (l.length : Int)
 · have e : (decide (i < (l.length : Int))) = true := by simpa using c
   try rw [e]
   obtain ⟨_, ⟨hz, _⟩ | ⟨d, cs, hp, hl, hc, ha, hs⟩⟩ := hf
   · omega
   refine Evr.condT rfl (Evr.skip (Evr.seq (Evr.block (Evr.seq (Evr.regionN rfl (Opl.one rfl rfl (by simp only [go_sem]; rfl) (Opl.one rfl rfl (by simp only [go_sem]; rfl) (Opl.one rfl rfl (by simp only [go_sem]; rfl) (Opl.ido (d := d) (m := l.length) (j := i) (es := 1) (by exact hp) rfl (by omega) (by omega) K22 Z3 rfl rfl ?_)))))))))
   refine Opl.stoi (off := i.toNat * 1) hl ha rfl rfl Z3 (by omega) rfl rfl rfl ?_
   rintro cs S hl hc1 ha hs1
   have hs := hs.trans hs1 (fun _ h => h)
   have hc := hc1.trans hc
   refine Opl.nil (Evr.regionN rfl (Opl.one rfl rfl (by simp only [go_sem]; rfl) (Opl.one rfl rfl (by simp only [go_sem]; rfl) (Opl.one rfl rfl (by simp only [go_sem]; rfl) (Opl.nil ?_)))))
   rw [wrap_of (x := (k + i * 1) + 1) (by omega) (by omega)]
   refine Evr.inBlock (Evr.regionN rfl (Opl.one rfl rfl (by simp only [go_sem]; rfl) (Opl.one rfl rfl (by simp only [go_sem]; rfl) (Opl.one rfl rfl (by simp only [go_sem]; rfl) (Opl.nil ?_)))))
   rw [wrap_of (x := i + 1) (by omega) (by omega)]
   exact ih n (Nat.le_refl _) _ _ ⟨((k + i * 1) + 1), i + 1, ⟨rfl, rfl, rfl, trivial⟩, by omega, by omega, by omega, by omega, hlen, .inr ⟨d, _, hp, hl, hc, ha, hs⟩⟩
 · have e : (decide (i < (l.length : Int))) = false := by simpa using c
   try rw [e]
   refine Evr.condF rfl (Evr.exit rfl (Evr.seq (Evr.regionN rfl (Opl.one rfl rfl (by simp only [go_sem]; rfl) (Opl.one rfl rfl (by simp only [go_sem]; rfl) (Opl.nil ?_))))))
   refine Evr.ret1 Try.func11 rfl ?_
   obtain rfl : i = l.length := by omega
   obtain ⟨ids', a', g1, g2, g3, g4⟩ := Flat.done ints_int (oInt .i64) hv hf
   exact ⟨by rw [show ((l.length * 1 : Nat) : Int) = l.length * 1 by omega]; rfl, ids', a', g1, g2, by rw [leaves_const, g3], trivial, g4⟩
theorem laws_markIntS.evm {k : Nat} {l0 : List Int} {p : PV} {a1 : Int} {S0 : Sto} (hv : Vec (cInt .i64) l0 p S0) {r : Int × List Int} (H : laws_markIntS.f k l0 a1 = some r) : RetS Try.prog 11 [p, .lit (.int .i64 a1)] S0 fun v S => v = .lit (.int .i64 r.1) ∧ Vec (cInt .i64) r.2 p S ∧ Same S0 S p.id?.toList := by
 unfold laws_markIntS.f at H
 refine RetS.intro Try.func11 rfl (Nat.le_of_ble_eq_true rfl) rfl ?_
 rw [tm2]
 refine Evr.seq (Evr.regionN rfl (Opl.one rfl rfl (by simp only [go_sem]; rfl) (Opl.nil (Evr.seq (Evr.seq (Evr.regionN rfl (Opl.one rfl rfl (by simp only [go_sem]; rfl) (Opl.nil (Evr.block ?_)))))))))
 refine Evr.loop (Evr.rounds (n := k) (Inv := fun n tm S => ∃ (x0 : List Int) (x1 x5 : Int), laws_markIntS.l0 n x0 x1 x5 = some r ∧ Has tm [(0, p), (1, .lit (.int .i64 x1)), (5, .lit (.int .i64 x5))] ∧ Vec (cInt .i64) x0 p S ∧ Same S0 S p.id?.toList) ?_ ?_ ?_)
 · exact ⟨_, _, _, H, ⟨rfl, rfl, rfl, trivial⟩, hv, .refl _ _⟩
 · rintro tm S ⟨_, _, _, H, -⟩
   simp [laws_markIntS.l0] at H
 rintro n ih tm S ⟨x0, x1, x5, H, hh, hf, hs⟩
 simp only [laws_markIntS.l0] at H
 rw [hh.eq]
 refine Evr.seq (Evr.seq (Evr.regionN rfl (Opl.one rfl rfl (by simp only [go_sem]; rfl) (Opl.one rfl rfl (by simp only [go_sem]; rfl) (Opl.lenv (by exact hf) K22 rfl rfl rfl rfl (Opl.one rfl rfl (by simp only [go_sem]; rfl) (Opl.nil ?_)))))))
 by_cases c : x5 < (x0.length : Int)
 · rw [if_pos c] at H
   have e : (decide (x5 < (x0.length : Int))) = true := by simpa using c
   try rw [e]
   obtain ⟨c2, H⟩ := peel H
   refine Evr.condT rfl (Evr.skip (Evr.seq (Evr.block (Evr.seq (Evr.regionN rfl (Opl.one rfl rfl (by simp only [go_sem]; rfl) (Opl.one rfl rfl (by simp only [go_sem]; rfl) (Opl.one rfl rfl (by simp only [go_sem]; rfl) (Opl.idv (M := cInt .i64) (xs := x0) (j := x5) (v := p) hf rfl rfl (by omega) (by omega) K22 Z3 rfl rfl ?_)))))))))
   rintro d cs hp hl hr
   refine Opl.stv (M := cInt .i64) (xs := x0) (j := x5) (y := x1) (vs := [.lit (.int .i64 x1)]) hl hr (by omega) (by omega) rfl rfl (by exact rfl) Z3 rfl rfl rfl rfl ?_
   rw [← hp]
   rintro S hf' u
   have hs' := hs.trans u.same (fun _ h => h)
   refine Opl.nil (Evr.regionN rfl (Opl.one rfl rfl (by simp only [go_sem]; rfl) (Opl.one rfl rfl (by simp only [go_sem]; rfl) (Opl.one rfl rfl (by simp only [go_sem]; rfl) (Opl.nil (Evr.inBlock (Evr.regionN rfl (Opl.one rfl rfl (by simp only [go_sem]; rfl) (Opl.one rfl rfl (by simp only [go_sem]; rfl) (Opl.one rfl rfl (by simp only [go_sem]; rfl) (Opl.nil ?_)))))))))))
   exact ih n (Nat.le_refl _) _ _ ⟨_, _, _, H, ⟨rfl, rfl, rfl, trivial⟩, hf', hs'⟩
 · rw [if_neg c] at H
   have e : (decide (x5 < (x0.length : Int))) = false := by simpa using c
   try rw [e]
   refine Evr.condF rfl (Evr.exit rfl (Evr.seq (Evr.regionN rfl (Opl.one rfl rfl (by simp only [go_sem]; rfl) (Opl.one rfl rfl (by simp only [go_sem]; rfl) (Opl.nil ?_))))))
   obtain rfl := Option.some.inj H
   refine Evr.ret1 Try.func11 rfl ?_
   exact ⟨rfl, hf, hs⟩
end Go.Proofs.Ytigbbefdndcmbaa.PA
