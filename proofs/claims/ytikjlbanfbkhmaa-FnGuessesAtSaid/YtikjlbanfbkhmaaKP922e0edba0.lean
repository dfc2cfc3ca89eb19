/- Walks of Go functions: each is shown to answer as the Lean function beside it tells, under the conditions that its theorem names. -/
import Derived.Test.YtikjlbanfbkhmaaProg
import Derived.KernelRfl
import Derived.Below
import Derived.Deep.Draws
import Derived.Deep.AppendLies
import Derived.Maps.AppendAt
import Derived.OwnWalk
import Derived.Laws.BytesArg
import Derived.Laws.MakeOwn
import Derived.Laws.OwnMore
import Derived.Deep.OwnRows
import Derived.Tactics
import Derived.Lib.ConvBytes
import Derived.Laws.Slices
import Derived.WalkKit
import Derived.RowKit3
import Derived.Deep.LoopGhost
import Derived.Deep.QuietTactic
import Derived.BigQuiet
import Derived.WideLaws
import Derived.Deep.DeepCutAuto
import Derived.Deep.CutBlock
import Derived.Deep.RegionHeld3
import Derived.Laws.Rows
import Derived.Lib.AppendStr
import Derived.ArgAppend
import Derived.Laws.IdiomCopy
import Derived.OrdersHeld
import Derived.Laws.BitsLemmas
import Derived.RowKit
import Derived.Laws.StructEq
import Derived.Lib.SliceRun
import Derived.WalkSpells
import Derived.ChangeArms
import Derived.ChangeSlices
import Derived.Deep.Slices
import Derived.Attr
import Derived.Laws.Append
import Derived.Laws.AppendOwn
import Derived.Laws.Entries
import Derived.Calls
import Derived.Laws.Sem
import Derived.Test.YtikjlbanfbkhmaaKPbcf3152bcc
namespace Go.Proofs.Ytikjlbanfbkhmaa.PA
open Go Go.Abs Go.RowKit Go.Proofs Go.Proofs.YtikjlbanfbkhmaaW.PrintWords Go.Proofs.YtikjlbanfbkhmaaW.PrintLast Go.Proofs.YtikjlbanfbkhmaaW.PrintMore
set_option maxRecDepth 100000
set_option maxHeartbeats 4000000
set_option linter.unusedVariables false
set_option linter.unusedSimpArgs false
theorem spec_l40Rd_pick.evb {k : Nat} {S0 : Sto} {l0_0 : List Int} {a0_1 : Int} {i0 : Abs.Id} {q0 : PV} (hq0 : Sl (cInt .u8) l0_0 q0) (hb0 : Box (.ptr i0 0) [q0, .lit (.int .i64 a0_1)] S0) {a1 : Int} {r : Int × Int} (H : spec_l40Rd_pick.f k l0_0 a0_1 a1 = some r) : RetS Try.prog 110 [.ptr i0 0, .lit (.int .i64 a1)] S0 fun v S => v = .lit (.int .i64 r.2) ∧ Box (.ptr i0 0) [q0, .lit (.int .i64 r.1)] S ∧ Same S0 S [i0] := by
 have hs0 : Same S0 S0 [i0] := .refl _ _
 unfold spec_l40Rd_pick.f at H
 refine RetS.intro Try.func110 rfl (Nat.le_of_ble_eq_true rfl) rfl ?_
 rw [tm2]
 refine Evr.sr rfl (Opl.p1 (n := Opl.nil (Evr.sr rfl (Opl.p1 (n := Opl.p1 (n := Opl.p1 (v := .ptr i0 0) (n := Opl.p1 (v := .ptr i0 1) (n := Opl.ldb (v := .lit (.int .i64 a0_1)) hb0 rfl T3 rfl rfl rfl rfl (Opl.add (k := .i64) (a := a0_1) (b := 1) K3 rfl rfl rfl rfl (Opl.p1 (v := .ptr i0 0) (n := Opl.p1 (v := .ptr i0 1) (n := Opl.stb (vs := [.lit (.int .i64 (wrap64 (a0_1 + 1)))]) hb0 rfl rfl Z3 rfl (Nat.le_of_ble_eq_true rfl) rfl rfl rfl rfl ?_))))))))))))
 rintro S (h1 : Box (.ptr i0 0) [q0, .lit (.int .i64 (wrap64 (a0_1 + 1)))] _) u1
 have h2 := u1.sameP hs0 OutT.box
 refine Opl.nil (Evr.seq (Evr.sr rfl (Opl.one (v := .lit (.int .i64 a1)) rfl rfl rfl (Opl.p1 (n := Opl.one (v := .lit (.bool (decide (a1 < 1)))) rfl rfl rfl ?_)))))
 by_cases c1 : a1 < 1
 case pos =>
  rw [if_pos c1] at H
  have e1 : (decide (a1 < 1)) = true := by simpa using c1
  try rw [e1]
  refine Opl.skp rfl (Opl.skp rfl (Opl.skp rfl (Opl.skp rfl (Opl.skp rfl (Opl.skp rfl (Opl.one (v := .lit (.bool true)) rfl rfl rfl (Opl.nil (Evr.condT rfl (Evr.sr rfl (Opl.one (v := .lit (.int .i64 0)) rfl rfl rfl (Opl.nil ?_)))))))))))
  obtain rfl := Option.some.inj H
  refine Evr.ret1 Try.func110 rfl ?_
  exact ⟨(by first | rfl | (simp only [go_sem]; rfl)), h1, h2⟩
 rw [if_neg c1] at H
 have e2 : (decide (a1 < 1)) = false := by simpa using c1
 try rw [e2]
 refine Opl.one (v := .ptr i0 0) rfl rfl rfl (Opl.p1 (v := .ptr i0 0) (n := Opl.p1 (v := .ptr i0 0) (n := Opl.ldb (v := q0) h1 rfl T52 rfl rfl rfl rfl (Opl.len (xs := l0_0) (by exact hq0) K52 rfl rfl rfl rfl (Opl.p1 (n := Opl.one (v := .lit (.bool ((l0_0.length : Int) == 0))) rfl rfl rfl (Opl.nil ?_)))))))
 by_cases c2 : (l0_0.length : Int) = 0
 case pos =>
  rw [if_pos c2] at H
  have e3 : ((l0_0.length : Int) == 0) = true := by simpa using c2
  try rw [e3]
  refine Evr.condT rfl (Evr.sr rfl (Opl.one (v := .lit (.int .i64 0)) rfl rfl rfl (Opl.nil ?_)))
  obtain rfl := Option.some.inj H
  refine Evr.ret1 Try.func110 rfl ?_
  exact ⟨(by first | rfl | (simp only [go_sem]; rfl)), h1, h2⟩
 rw [if_neg c2] at H
 have e4 : ((l0_0.length : Int) == 0) = false := by simpa using c2
 try rw [e4]
 refine Evr.condF rfl (Evr.skip (Evr.sr rfl (Opl.one (v := .ptr i0 0) rfl rfl rfl (Opl.p1 (v := .ptr i0 0) (n := Opl.p1 (v := .ptr i0 1) (n := Opl.ldb (v := .lit (.int .i64 (wrap64 (a0_1 + 1)))) h1 rfl T3 rfl rfl rfl rfl (Opl.subi (k := .i64) (a := (wrap64 (a0_1 + 1))) (b := 1) K3 rfl rfl rfl rfl (Opl.one (v := .lit (.int .i64 (wrap64 ((wrap64 (a0_1 + 1)) - 1)))) rfl rfl rfl (Opl.nil (Evr.seq (Evr.sr rfl (Opl.one (v := .lit (.int .i64 (wrap64 ((wrap64 (a0_1 + 1)) - 1)))) rfl rfl rfl (Opl.one (v := .ptr i0 0) rfl rfl rfl (Opl.p1 (v := .ptr i0 0) (n := Opl.p1 (v := .ptr i0 0) (n := Opl.ldb (v := q0) h1 rfl T52 rfl rfl rfl rfl (Opl.len (xs := l0_0) (by exact hq0) K52 rfl rfl rfl rfl (Opl.lss (a := (wrap64 ((wrap64 (a0_1 + 1)) - 1))) (b := (l0_0.length : Int)) K3 rfl rfl rfl rfl (Opl.nil ?_)))))))))))))))))))
 by_cases c3 : (wrap64 ((wrap64 (a0_1 + 1)) - 1)) < (l0_0.length : Int)
 case pos =>
  rw [if_pos c3] at H
  have e5 : (decide ((wrap64 ((wrap64 (a0_1 + 1)) - 1)) < (l0_0.length : Int))) = true := by simpa using c3
  try rw [e5]
  refine Evr.condT rfl (Evr.sr rfl (Opl.one (v := .ptr i0 0) rfl rfl rfl (Opl.p1 (v := .ptr i0 0) (n := Opl.p1 (v := .ptr i0 0) (n := Opl.ldb (v := q0) h1 rfl T52 rfl rfl rfl rfl (Opl.one (v := .lit (.int .i64 (wrap64 ((wrap64 (a0_1 + 1)) - 1)))) rfl rfl rfl ?_))))))
  obtain ⟨c4, H⟩ := peel H
  obtain ⟨c5, H⟩ := peel H
  obtain ⟨c6, H⟩ := peel H
  refine Opl.idx (M := (cInt .u8)) (xs := l0_0) (j := (wrap64 ((wrap64 (a0_1 + 1)) - 1))) (0 : Int) (by exact hq0) rfl (by omega) (by omega) K52 Z5 rfl rfl ?_
  rintro p1 q1 h3
  obtain rfl : p1 = [.lit (.int .u8 (rd l0_0 (wrap64 ((wrap64 (a0_1 + 1)) - 1))))] := h3
  refine Opl.lda (.lit (.int .u8 (rd l0_0 (wrap64 ((wrap64 (a0_1 + 1)) - 1))))) rfl T5 rfl rfl rfl rfl (Opl.p1 (v := .lit (.int .i64 (wrap64 (rd l0_0 (wrap64 ((wrap64 (a0_1 + 1)) - 1)))))) (n := Opl.one (v := .lit (.int .i64 a1)) rfl rfl rfl (Opl.one (v := .lit (.int .i64 (Int.tmod (wrap64 (rd l0_0 (wrap64 ((wrap64 (a0_1 + 1)) - 1)))) a1))) rfl rfl (by simp only [go_sem]; rw [if_neg (by first | assumption | decide | omega)]; rfl) (Opl.one (v := .lit (.int .i64 (Int.tmod (wrap64 (rd l0_0 (wrap64 ((wrap64 (a0_1 + 1)) - 1)))) a1))) rfl rfl rfl (Opl.nil ?_)))))
  obtain rfl := Option.some.inj H
  refine Evr.ret1 Try.func110 rfl ?_
  exact ⟨(by first | rfl | (simp only [go_sem]; rfl)), h1, h2⟩
 rw [if_neg c3] at H
 have e6 : (decide ((wrap64 ((wrap64 (a0_1 + 1)) - 1)) < (l0_0.length : Int))) = false := by simpa using c3
 try rw [e6]
 refine Evr.condF rfl (Evr.skip (Evr.seq (Evr.regionD rfl (by kernel_rfl) (Opl.one (v := .ptr i0 0) rfl rfl rfl (Opl.p1 (v := .ptr i0 0) (n := Opl.p1 (v := .ptr i0 0) (n := Opl.ldb (v := q0) h1 rfl T52 rfl rfl rfl rfl (Opl.one (v := .lit (.int .i64 (wrap64 ((wrap64 (a0_1 + 1)) - 1)))) rfl rfl rfl (Opl.one (v := .ptr i0 0) rfl rfl rfl (Opl.p1 (v := .ptr i0 0) (n := Opl.p1 (v := .ptr i0 0) (n := Opl.ldb (v := q0) h1 rfl T52 rfl rfl rfl rfl (Opl.len (xs := l0_0) (by exact hq0) K52 rfl rfl rfl rfl ?_)))))))))))))
 obtain ⟨c7, H⟩ := peel H
 obtain ⟨c8, H⟩ := peel H
 obtain ⟨c9, H⟩ := peel H
 obtain ⟨c10, H⟩ := peel H
 obtain ⟨c11, H⟩ := peel H
 obtain ⟨c12, H⟩ := peel H
 obtain ⟨c13, H⟩ := peel H
 obtain ⟨c14, H⟩ := peel H
 refine Opl.one (v := .lit (.int .i64 (Int.tmod (wrap64 ((wrap64 (a0_1 + 1)) - 1)) (l0_0.length : Int)))) rfl rfl (by simp only [go_sem]; rw [if_neg (by first | assumption | decide | omega)]; rfl) (Opl.idx (M := (cInt .u8)) (xs := l0_0) (j := (Int.tmod (wrap64 ((wrap64 (a0_1 + 1)) - 1)) (l0_0.length : Int))) (0 : Int) (by exact hq0) rfl (by omega) (by omega) K52 Z5 rfl rfl ?_)
 rintro p2 q2 h4
 obtain rfl : p2 = [.lit (.int .u8 (rd l0_0 (Int.tmod (wrap64 ((wrap64 (a0_1 + 1)) - 1)) (l0_0.length : Int))))] := h4
 refine Opl.lda (.lit (.int .u8 (rd l0_0 (Int.tmod (wrap64 ((wrap64 (a0_1 + 1)) - 1)) (l0_0.length : Int))))) rfl T5 rfl rfl rfl rfl (Opl.p1 (v := .lit (.int .i64 (wrap64 (rd l0_0 (Int.tmod (wrap64 ((wrap64 (a0_1 + 1)) - 1)) (l0_0.length : Int)))))) (n := Opl.mul (k := .i64) (a := wrap64 (rd l0_0 (Int.tmod (wrap64 ((wrap64 (a0_1 + 1)) - 1)) (l0_0.length : Int)))) (b := 131) K3 rfl rfl rfl rfl (Opl.one (v := .ptr i0 0) rfl rfl rfl (Opl.p1 (v := .ptr i0 0) (n := Opl.p1 (v := .ptr i0 0) (n := Opl.ldb (v := q0) h1 rfl T52 rfl rfl rfl rfl (Opl.one (v := .lit (.int .i64 (wrap64 ((wrap64 (a0_1 + 1)) - 1)))) rfl rfl rfl (Opl.mul (k := .i64) (a := (wrap64 ((wrap64 (a0_1 + 1)) - 1))) (b := 7) K3 rfl rfl rfl rfl (Opl.add (k := .i64) (a := (wrap64 ((wrap64 ((wrap64 (a0_1 + 1)) - 1)) * 7))) (b := 3) K3 rfl rfl rfl rfl (Opl.one (v := .ptr i0 0) rfl rfl rfl (Opl.p1 (v := .ptr i0 0) (n := Opl.p1 (v := .ptr i0 0) (n := Opl.ldb (v := q0) h1 rfl T52 rfl rfl rfl rfl (Opl.len (xs := l0_0) (by exact hq0) K52 rfl rfl rfl rfl (Opl.one (v := .lit (.int .i64 (Int.tmod (wrap64 ((wrap64 ((wrap64 ((wrap64 (a0_1 + 1)) - 1)) * 7)) + 3)) (l0_0.length : Int)))) rfl rfl (by simp only [go_sem]; rw [if_neg (by first | assumption | decide | omega)]; rfl) (Opl.idx (M := (cInt .u8)) (xs := l0_0) (j := (Int.tmod (wrap64 ((wrap64 ((wrap64 ((wrap64 (a0_1 + 1)) - 1)) * 7)) + 3)) (l0_0.length : Int))) (0 : Int) (by exact hq0) rfl (by omega) (by omega) K52 Z5 rfl rfl ?_))))))))))))))))
 rintro p3 q3 h5
 obtain rfl : p3 = [.lit (.int .u8 (rd l0_0 (Int.tmod (wrap64 ((wrap64 ((wrap64 ((wrap64 (a0_1 + 1)) - 1)) * 7)) + 3)) (l0_0.length : Int))))] := h5
 refine Opl.lda (.lit (.int .u8 (rd l0_0 (Int.tmod (wrap64 ((wrap64 ((wrap64 ((wrap64 (a0_1 + 1)) - 1)) * 7)) + 3)) (l0_0.length : Int))))) rfl T5 rfl rfl rfl rfl (Opl.p1 (v := .lit (.int .i64 (wrap64 (rd l0_0 (Int.tmod (wrap64 ((wrap64 ((wrap64 ((wrap64 (a0_1 + 1)) - 1)) * 7)) + 3)) (l0_0.length : Int)))))) (n := Opl.mul (k := .i64) (a := wrap64 (rd l0_0 (Int.tmod (wrap64 ((wrap64 ((wrap64 ((wrap64 (a0_1 + 1)) - 1)) * 7)) + 3)) (l0_0.length : Int)))) (b := 1117) K3 rfl rfl rfl rfl (Opl.add (k := .i64) (a := (wrap64 ((wrap64 (rd l0_0 (Int.tmod (wrap64 ((wrap64 (a0_1 + 1)) - 1)) (l0_0.length : Int)))) * 131))) (b := (wrap64 ((wrap64 (rd l0_0 (Int.tmod (wrap64 ((wrap64 ((wrap64 ((wrap64 (a0_1 + 1)) - 1)) * 7)) + 3)) (l0_0.length : Int)))) * 1117))) K3 rfl rfl rfl rfl (Opl.one (v := .lit (.int .i64 (wrap64 ((wrap64 (a0_1 + 1)) - 1)))) rfl rfl rfl (Opl.mul (k := .i64) (a := (wrap64 ((wrap64 (a0_1 + 1)) - 1))) (b := 29) K3 rfl rfl rfl rfl (Opl.add (k := .i64) (a := (wrap64 ((wrap64 ((wrap64 (rd l0_0 (Int.tmod (wrap64 ((wrap64 (a0_1 + 1)) - 1)) (l0_0.length : Int)))) * 131)) + (wrap64 ((wrap64 (rd l0_0 (Int.tmod (wrap64 ((wrap64 ((wrap64 ((wrap64 (a0_1 + 1)) - 1)) * 7)) + 3)) (l0_0.length : Int)))) * 1117))))) (b := (wrap64 ((wrap64 ((wrap64 (a0_1 + 1)) - 1)) * 29))) K3 rfl rfl rfl rfl (Opl.one (v := .lit (.int .i64 (wrap64 ((wrap64 (a0_1 + 1)) - 1)))) rfl rfl rfl (Opl.one (v := .ptr i0 0) rfl rfl rfl (Opl.p1 (v := .ptr i0 0) (n := Opl.p1 (v := .ptr i0 0) (n := Opl.ldb (v := q0) h1 rfl T52 rfl rfl rfl rfl (Opl.len (xs := l0_0) (by exact hq0) K52 rfl rfl rfl rfl (Opl.one (v := .lit (.int .i64 (wrap64 (Int.tdiv (wrap64 ((wrap64 (a0_1 + 1)) - 1)) (l0_0.length : Int))))) rfl rfl (by simp only [go_sem]; rw [if_neg (by first | assumption | decide | omega)]; rfl) (Opl.mul (k := .i64) (a := (wrap64 (Int.tdiv (wrap64 ((wrap64 (a0_1 + 1)) - 1)) (l0_0.length : Int)))) (b := 53) K3 rfl rfl rfl rfl (Opl.add (k := .i64) (a := (wrap64 ((wrap64 ((wrap64 ((wrap64 (rd l0_0 (Int.tmod (wrap64 ((wrap64 (a0_1 + 1)) - 1)) (l0_0.length : Int)))) * 131)) + (wrap64 ((wrap64 (rd l0_0 (Int.tmod (wrap64 ((wrap64 ((wrap64 ((wrap64 (a0_1 + 1)) - 1)) * 7)) + 3)) (l0_0.length : Int)))) * 1117)))) + (wrap64 ((wrap64 ((wrap64 (a0_1 + 1)) - 1)) * 29))))) (b := (wrap64 ((wrap64 (Int.tdiv (wrap64 ((wrap64 (a0_1 + 1)) - 1)) (l0_0.length : Int))) * 53))) K3 rfl rfl rfl rfl (Opl.one (v := .lit (.int .i64 (wrap64 ((wrap64 ((wrap64 ((wrap64 ((wrap64 (rd l0_0 (Int.tmod (wrap64 ((wrap64 (a0_1 + 1)) - 1)) (l0_0.length : Int)))) * 131)) + (wrap64 ((wrap64 (rd l0_0 (Int.tmod (wrap64 ((wrap64 ((wrap64 ((wrap64 (a0_1 + 1)) - 1)) * 7)) + 3)) (l0_0.length : Int)))) * 1117)))) + (wrap64 ((wrap64 ((wrap64 (a0_1 + 1)) - 1)) * 29)))) + (wrap64 ((wrap64 (Int.tdiv (wrap64 ((wrap64 (a0_1 + 1)) - 1)) (l0_0.length : Int))) * 53)))))) rfl rfl rfl (Opl.nil (Evr.sr rfl (Opl.one (v := .lit (.int .i64 (wrap64 ((wrap64 ((wrap64 ((wrap64 ((wrap64 (rd l0_0 (Int.tmod (wrap64 ((wrap64 (a0_1 + 1)) - 1)) (l0_0.length : Int)))) * 131)) + (wrap64 ((wrap64 (rd l0_0 (Int.tmod (wrap64 ((wrap64 ((wrap64 ((wrap64 (a0_1 + 1)) - 1)) * 7)) + 3)) (l0_0.length : Int)))) * 1117)))) + (wrap64 ((wrap64 ((wrap64 (a0_1 + 1)) - 1)) * 29)))) + (wrap64 ((wrap64 (Int.tdiv (wrap64 ((wrap64 (a0_1 + 1)) - 1)) (l0_0.length : Int))) * 53)))))) rfl rfl rfl (Opl.one (v := .lit (.int .i64 (wrap64 ((wrap64 ((wrap64 ((wrap64 ((wrap64 (rd l0_0 (Int.tmod (wrap64 ((wrap64 (a0_1 + 1)) - 1)) (l0_0.length : Int)))) * 131)) + (wrap64 ((wrap64 (rd l0_0 (Int.tmod (wrap64 ((wrap64 ((wrap64 ((wrap64 (a0_1 + 1)) - 1)) * 7)) + 3)) (l0_0.length : Int)))) * 1117)))) + (wrap64 ((wrap64 ((wrap64 (a0_1 + 1)) - 1)) * 29)))) + (wrap64 ((wrap64 (Int.tdiv (wrap64 ((wrap64 (a0_1 + 1)) - 1)) (l0_0.length : Int))) * 53)))))) rfl rfl rfl (Opl.one (v := .lit (.int .i64 (wrap64 (Int.tdiv (wrap64 ((wrap64 ((wrap64 ((wrap64 ((wrap64 (rd l0_0 (Int.tmod (wrap64 ((wrap64 (a0_1 + 1)) - 1)) (l0_0.length : Int)))) * 131)) + (wrap64 ((wrap64 (rd l0_0 (Int.tmod (wrap64 ((wrap64 ((wrap64 ((wrap64 (a0_1 + 1)) - 1)) * 7)) + 3)) (l0_0.length : Int)))) * 1117)))) + (wrap64 ((wrap64 ((wrap64 (a0_1 + 1)) - 1)) * 29)))) + (wrap64 ((wrap64 (Int.tdiv (wrap64 ((wrap64 (a0_1 + 1)) - 1)) (l0_0.length : Int))) * 53)))) 64)))) rfl rfl (by simp only [go_sem]; rw [if_neg (by first | assumption | decide | omega)]; rfl) (Opl.one (v := .lit (.int .i64 (Go.bits .xor .i64 (wrap64 ((wrap64 ((wrap64 ((wrap64 ((wrap64 (rd l0_0 (Int.tmod (wrap64 ((wrap64 (a0_1 + 1)) - 1)) (l0_0.length : Int)))) * 131)) + (wrap64 ((wrap64 (rd l0_0 (Int.tmod (wrap64 ((wrap64 ((wrap64 ((wrap64 (a0_1 + 1)) - 1)) * 7)) + 3)) (l0_0.length : Int)))) * 1117)))) + (wrap64 ((wrap64 ((wrap64 (a0_1 + 1)) - 1)) * 29)))) + (wrap64 ((wrap64 (Int.tdiv (wrap64 ((wrap64 (a0_1 + 1)) - 1)) (l0_0.length : Int))) * 53)))) (wrap64 (Int.tdiv (wrap64 ((wrap64 ((wrap64 ((wrap64 ((wrap64 (rd l0_0 (Int.tmod (wrap64 ((wrap64 (a0_1 + 1)) - 1)) (l0_0.length : Int)))) * 131)) + (wrap64 ((wrap64 (rd l0_0 (Int.tmod (wrap64 ((wrap64 ((wrap64 ((wrap64 (a0_1 + 1)) - 1)) * 7)) + 3)) (l0_0.length : Int)))) * 1117)))) + (wrap64 ((wrap64 ((wrap64 (a0_1 + 1)) - 1)) * 29)))) + (wrap64 ((wrap64 (Int.tdiv (wrap64 ((wrap64 (a0_1 + 1)) - 1)) (l0_0.length : Int))) * 53)))) 64))))) rfl rfl (by simp only [go_sem]; simp only [Go.bits, w64]; rfl) (Opl.one (v := .lit (.int .i64 (Go.bits .xor .i64 (wrap64 ((wrap64 ((wrap64 ((wrap64 ((wrap64 (rd l0_0 (Int.tmod (wrap64 ((wrap64 (a0_1 + 1)) - 1)) (l0_0.length : Int)))) * 131)) + (wrap64 ((wrap64 (rd l0_0 (Int.tmod (wrap64 ((wrap64 ((wrap64 ((wrap64 (a0_1 + 1)) - 1)) * 7)) + 3)) (l0_0.length : Int)))) * 1117)))) + (wrap64 ((wrap64 ((wrap64 (a0_1 + 1)) - 1)) * 29)))) + (wrap64 ((wrap64 (Int.tdiv (wrap64 ((wrap64 (a0_1 + 1)) - 1)) (l0_0.length : Int))) * 53)))) (wrap64 (Int.tdiv (wrap64 ((wrap64 ((wrap64 ((wrap64 ((wrap64 (rd l0_0 (Int.tmod (wrap64 ((wrap64 (a0_1 + 1)) - 1)) (l0_0.length : Int)))) * 131)) + (wrap64 ((wrap64 (rd l0_0 (Int.tmod (wrap64 ((wrap64 ((wrap64 ((wrap64 (a0_1 + 1)) - 1)) * 7)) + 3)) (l0_0.length : Int)))) * 1117)))) + (wrap64 ((wrap64 ((wrap64 (a0_1 + 1)) - 1)) * 29)))) + (wrap64 ((wrap64 (Int.tdiv (wrap64 ((wrap64 (a0_1 + 1)) - 1)) (l0_0.length : Int))) * 53)))) 64))))) rfl rfl rfl (Opl.nil (Evr.sr rfl (Opl.one (v := .lit (.int .i64 (Go.bits .xor .i64 (wrap64 ((wrap64 ((wrap64 ((wrap64 ((wrap64 (rd l0_0 (Int.tmod (wrap64 ((wrap64 (a0_1 + 1)) - 1)) (l0_0.length : Int)))) * 131)) + (wrap64 ((wrap64 (rd l0_0 (Int.tmod (wrap64 ((wrap64 ((wrap64 ((wrap64 (a0_1 + 1)) - 1)) * 7)) + 3)) (l0_0.length : Int)))) * 1117)))) + (wrap64 ((wrap64 ((wrap64 (a0_1 + 1)) - 1)) * 29)))) + (wrap64 ((wrap64 (Int.tdiv (wrap64 ((wrap64 (a0_1 + 1)) - 1)) (l0_0.length : Int))) * 53)))) (wrap64 (Int.tdiv (wrap64 ((wrap64 ((wrap64 ((wrap64 ((wrap64 (rd l0_0 (Int.tmod (wrap64 ((wrap64 (a0_1 + 1)) - 1)) (l0_0.length : Int)))) * 131)) + (wrap64 ((wrap64 (rd l0_0 (Int.tmod (wrap64 ((wrap64 ((wrap64 ((wrap64 (a0_1 + 1)) - 1)) * 7)) + 3)) (l0_0.length : Int)))) * 1117)))) + (wrap64 ((wrap64 ((wrap64 (a0_1 + 1)) - 1)) * 29)))) + (wrap64 ((wrap64 (Int.tdiv (wrap64 ((wrap64 (a0_1 + 1)) - 1)) (l0_0.length : Int))) * 53)))) 64))))) rfl rfl rfl (Opl.one (v := .lit (.int .i64 a1)) rfl rfl rfl (Opl.one (v := .lit (.int .i64 (Int.tmod (Go.bits .xor .i64 (wrap64 ((wrap64 ((wrap64 ((wrap64 ((wrap64 (rd l0_0 (Int.tmod (wrap64 ((wrap64 (a0_1 + 1)) - 1)) (l0_0.length : Int)))) * 131)) + (wrap64 ((wrap64 (rd l0_0 (Int.tmod (wrap64 ((wrap64 ((wrap64 ((wrap64 (a0_1 + 1)) - 1)) * 7)) + 3)) (l0_0.length : Int)))) * 1117)))) + (wrap64 ((wrap64 ((wrap64 (a0_1 + 1)) - 1)) * 29)))) + (wrap64 ((wrap64 (Int.tdiv (wrap64 ((wrap64 (a0_1 + 1)) - 1)) (l0_0.length : Int))) * 53)))) (wrap64 (Int.tdiv (wrap64 ((wrap64 ((wrap64 ((wrap64 ((wrap64 (rd l0_0 (Int.tmod (wrap64 ((wrap64 (a0_1 + 1)) - 1)) (l0_0.length : Int)))) * 131)) + (wrap64 ((wrap64 (rd l0_0 (Int.tmod (wrap64 ((wrap64 ((wrap64 ((wrap64 (a0_1 + 1)) - 1)) * 7)) + 3)) (l0_0.length : Int)))) * 1117)))) + (wrap64 ((wrap64 ((wrap64 (a0_1 + 1)) - 1)) * 29)))) + (wrap64 ((wrap64 (Int.tdiv (wrap64 ((wrap64 (a0_1 + 1)) - 1)) (l0_0.length : Int))) * 53)))) 64))) a1))) rfl rfl (by simp only [go_sem]; rw [if_neg (by first | assumption | decide | omega)]; rfl) (Opl.one (v := .lit (.int .i64 (Int.tmod (Go.bits .xor .i64 (wrap64 ((wrap64 ((wrap64 ((wrap64 ((wrap64 (rd l0_0 (Int.tmod (wrap64 ((wrap64 (a0_1 + 1)) - 1)) (l0_0.length : Int)))) * 131)) + (wrap64 ((wrap64 (rd l0_0 (Int.tmod (wrap64 ((wrap64 ((wrap64 ((wrap64 (a0_1 + 1)) - 1)) * 7)) + 3)) (l0_0.length : Int)))) * 1117)))) + (wrap64 ((wrap64 ((wrap64 (a0_1 + 1)) - 1)) * 29)))) + (wrap64 ((wrap64 (Int.tdiv (wrap64 ((wrap64 (a0_1 + 1)) - 1)) (l0_0.length : Int))) * 53)))) (wrap64 (Int.tdiv (wrap64 ((wrap64 ((wrap64 ((wrap64 ((wrap64 (rd l0_0 (Int.tmod (wrap64 ((wrap64 (a0_1 + 1)) - 1)) (l0_0.length : Int)))) * 131)) + (wrap64 ((wrap64 (rd l0_0 (Int.tmod (wrap64 ((wrap64 ((wrap64 ((wrap64 (a0_1 + 1)) - 1)) * 7)) + 3)) (l0_0.length : Int)))) * 1117)))) + (wrap64 ((wrap64 ((wrap64 (a0_1 + 1)) - 1)) * 29)))) + (wrap64 ((wrap64 (Int.tdiv (wrap64 ((wrap64 (a0_1 + 1)) - 1)) (l0_0.length : Int))) * 53)))) 64))) a1))) rfl rfl rfl (Opl.nil ?_))))))))))))))))))))))))))))))
 obtain rfl := Option.some.inj H
 refine Evr.ret1 Try.func110 rfl ?_
 exact ⟨(by first | rfl | (simp only [go_sem]; rfl)), h1, h2⟩
theorem spec_l20Word.evb {k : Nat} {S0 : Sto} {l0_0 : List Int} {a0_1 : Int} {i0 : Abs.Id} {q0 : PV} (hq0 : Sl (cInt .u8) l0_0 q0) (hb0 : Box (.ptr i0 0) [q0, .lit (.int .i64 a0_1)] S0) {a1 : Int} {a2 : Int} {r : Int × (List (List Int))} (H : spec_l20Word.f k l0_0 a0_1 a1 a2 = some r) : RetS Try.prog 109 [.ptr i0 0, .lit (.int .i64 a1), .lit (.int .i64 a2)] S0 fun v S => Sl (cSl (cInt .i64)) r.2 v ∧ Box (.ptr i0 0) [q0, .lit (.int .i64 r.1)] S ∧ Same S0 S [i0] := by
 have hs0 : Same S0 S0 [i0] := .refl _ _
 unfold spec_l20Word.f at H
 refine RetS.intro Try.func109 rfl (Nat.le_of_ble_eq_true rfl) rfl ?_
 rw [tm3]
 refine Evr.sr rfl (Opl.p1 (n := Opl.nil (Evr.sr rfl (Opl.lits (M := (cSl (cInt .i64))) (ys := []) [] K23 T26 rfl rfl rfl trivial rfl (by decide) rfl rfl rfl ?_))))
 rintro pv1 S h1 u1 w1
 have ap1 := w1.sameP hs0
 have h2 := u1.sameP hs0 ap1
 have ap2 := w1.box hb0
 have h3 := u1.box hb0 ap2
 refine Opl.p1 (n := Opl.nil (Evr.seq (Evr.sr rfl (Opl.p1 (n := Opl.nil (Evr.block ?_))))))
 refine Evr.loop (Evr.rounds (n := k) (Inv := fun n tm S => n ≤ k ∧ ∃ (x0b1q2_1 : Int) (x7_1 : List (List Int)) (x8_1 : Int) (pv2 : PV), spec_l20Word.l1 n x0b1q2_1 x7_1 x8_1 l0_0 a1 a2 = some r ∧ Has tm [(0, .ptr i0 0), (1, .lit (.int .i64 a1)), (2, .lit (.int .i64 a2)), (7, pv2), (8, .lit (.int .i64 x8_1))] ∧ Box (.ptr i0 0) [q0, .lit (.int .i64 x0b1q2_1)] S ∧ Vec (cSl (cInt .i64)) x7_1 pv2 S ∧ Same S0 S [i0] ∧ OutT S0 [i0] (PV.id? pv2).toList ∧ Ap (.ptr i0 0) pv2) ?_ ?_ ?_)
 · exact ⟨Nat.le_refl _, _, _, _, _, H, ⟨rfl, rfl, rfl, rfl, rfl, trivial⟩, h3, h1, h2, ap1, ap2⟩
 ·
  rintro tm S ⟨_, _, _, _, _, H, -⟩
  simp [spec_l20Word.l1] at H
 ·
  rintro n1 ih1 tm S ⟨hle, x0b1q2_1, x7_1, x8_1, pv2, H, hh, h4, h5, h6, o1, ap3⟩
  simp only [spec_l20Word.l1] at H
  rw [hh.eq]
  refine Evr.seq (Evr.sr rfl (Opl.p1 (n := Opl.p1 (n := Opl.p1 (n := Opl.nil ?_)))))
  by_cases c1 : x8_1 < a2
  case neg =>
   rw [if_neg c1] at H
   have e4 : (decide (x8_1 < a2)) = false := by simpa using c1
   try rw [e4]
   refine Evr.condF rfl (Evr.exit rfl (Evr.sr rfl (Opl.p1 (n := Opl.p1 (n := Opl.nil ?_)))))
   refine Evr.frz 6 h5 rfl ?_
   rintro pv13 S h32 u7
   have h33 := u7.box h4 ap3
   have h34 := u7.sameP h6 o1
   obtain rfl := Option.some.inj H
   refine Evr.ret1 Try.func109 rfl ?_
   exact ⟨h32, h33, h34⟩
  rw [if_pos c1] at H
  have e1 : (decide (x8_1 < a2)) = true := by simpa using c1
  try rw [e1]
  refine Evr.condT rfl (Evr.skip (Evr.seq (Evr.block (Evr.sr rfl (Opl.lits (M := (cInt .i64)) (ys := []) [] K26 T3 rfl rfl rfl trivial rfl (by decide) rfl rfl rfl ?_)))))
  rintro pv3 S h7 u2 w2
  have ap4 := w2.box h4
  have h8 := u2.box h4 ap4
  have ap5 := w2.vec h5
  have h9 := u2.vec h5 ap5
  have ap6 := w2.sameP h6
  have h10 := u2.sameP h6 ap6
  refine Opl.p1 (n := Opl.nil (Evr.seq (Evr.sr rfl (Opl.p1 (n := Opl.nil (Evr.block ?_))))))
  refine Evr.loop (Evr.rounds (n := n1) (Inv := fun n tm S => n ≤ n1 ∧ ∃ (x0b1q3_1 : Int) (x9q2_1 : List Int) (x10q2_1 : Int) (pv4 : PV) (pv5 : PV), spec_l20Word.l2 n x0b1q3_1 x9q2_1 x10q2_1 l0_0 a1 a2 x7_1 x8_1 = some r ∧ Has tm [(0, .ptr i0 0), (1, .lit (.int .i64 a1)), (2, .lit (.int .i64 a2)), (7, pv4), (8, .lit (.int .i64 x8_1)), (9, pv5), (10, .lit (.int .i64 x10q2_1))] ∧ Box (.ptr i0 0) [q0, .lit (.int .i64 x0b1q3_1)] S ∧ Vec (cSl (cInt .i64)) x7_1 pv4 S ∧ Vec (cInt .i64) x9q2_1 pv5 S ∧ Same S0 S [i0] ∧ OutT S0 [i0] (PV.id? pv4).toList ∧ OutT S0 [i0] (PV.id? pv5).toList ∧ Ap (.ptr i0 0) pv4 ∧ Ap (.ptr i0 0) pv5 ∧ Ap pv4 pv5) ?_ ?_ ?_)
  · exact ⟨Nat.le_refl _, _, _, _, _, _, H, ⟨rfl, rfl, rfl, rfl, rfl, rfl, rfl, trivial⟩, h8, h9, h7, h10, o1, ap6, ap3, ap4, ap5⟩
  ·
   rintro tm S ⟨_, _, _, _, _, _, H, -⟩
   simp [spec_l20Word.l2] at H
  ·
   rintro n2 ih2 tm S ⟨hle, x0b1q3_1, x9q2_1, x10q2_1, pv4, pv5, H, hh, h11, h12, h13, h14, o2, o3, ap7, ap8, ap9⟩
   simp only [spec_l20Word.l2] at H
   rw [hh.eq]
   refine Evr.seq (Evr.sr rfl (Opl.p1 (n := Opl.p1 (n := Opl.p1 (n := Opl.nil ?_)))))
   by_cases c2 : x10q2_1 < a1
   case neg =>
    rw [if_neg c2] at H
    have e3 : (decide (x10q2_1 < a1)) = false := by simpa using c2
    try rw [e3]
    refine Evr.condF rfl (Evr.exit rfl (Evr.frz 9 h13 rfl ?_))
    rintro pv9 S h24 u5
    have h25 := u5.box h11 ap8
    have h26 := u5.vec h12 ap9
    have h27 := u5.sameP h14 o3
    refine Evr.regionN rfl (Opl.p1 (n := Opl.p1 (n := Opl.liti (M := (cSl (cInt .i64))) (ys := [x9q2_1]) [.tmp 29] K23 T26 rfl rfl rfl (by exact ⟨⟨_, by first | rfl | exact h24.cells, h24⟩, trivial⟩) rfl (by decide) rfl rfl ?_)))
    rintro pv11 h28
    obtain ⟨c4, H⟩ := peel H
    refine Opl.app (M := (cSl (cInt .i64))) (xs := x7_1) (ys := [x9q2_1]) (v := pv4) h26 (.sl h28) (oSl (cInt .i64)) rfl rfl K23 T26 rfl rfl (by (try simp only [List.length_cons, List.length_nil]); omega) (by show (_ + _) * 24 ≤ 140737488355328; (try simp only [List.length_cons, List.length_nil]); omega) rfl rfl rfl rfl rfl ?_
    rintro pv12 S h29 u6 w4
    have ap13 := w4.box h25
    have h30 := u6.box h25 ap7
    have ap14 := w4.sameP h27
    have h31 := u6.sameP h27 o2
    refine Opl.p1 (n := Opl.nil (Evr.inBlock (Evr.regionN rfl (Opl.p1 (n := Opl.add (k := .i64) (a := x8_1) (b := 1) K3 rfl rfl rfl rfl (Opl.one (v := .lit (.int .i64 (wrap64 (x8_1 + 1)))) rfl rfl rfl (Opl.nil ?_)))))))
    exact ih1 _ (by omega) _ _ ⟨by omega, _, _, _, _, H, ⟨rfl, rfl, rfl, rfl, rfl, trivial⟩, h30, h29, h31, ap14, ap13⟩
   rw [if_pos c2] at H
   have e2 : (decide (x10q2_1 < a1)) = true := by simpa using c2
   try rw [e2]
   refine Evr.condT rfl (Evr.skip (Evr.seq (Evr.block (Evr.regionN rfl (Opl.p1 (n := Opl.p1 (n := ?_)))))))
   obtain ⟨r1, h_r1, H⟩ := Option.bind_eq_some_iff.1 H
   refine Opl.calls (spec_l40Rd_pick.evb hq0 h11 h_r1) rfl rfl rfl rfl rfl ?_
   rintro _ S ⟨rfl, h15, u3⟩
   have h16 := u3.vec h12 (ap7.symm).pt
   have h17 := u3.vec h13 (ap8.symm).pt
   have h18 := u3.sameP h14 OutT.box
   refine Opl.liti (M := (cInt .i64)) (ys := [r1.2]) [.tmp 25] K26 T3 rfl rfl rfl (by exact ⟨rfl, trivial⟩) rfl (by decide) rfl rfl ?_
   rintro pv7 h19
   obtain ⟨c3, H⟩ := peel H
   refine Opl.app (M := (cInt .i64)) (xs := x9q2_1) (ys := [r1.2]) (v := pv5) h17 (.sl h19) (oInt .i64) rfl rfl K26 T3 rfl rfl (by (try simp only [List.length_cons, List.length_nil]); omega) (by show (_ + _) * 8 ≤ 140737488355328; (try simp only [List.length_cons, List.length_nil]); omega) rfl rfl rfl rfl rfl ?_
   rintro pv8 S h20 u4 w3
   have ap10 := w3.box h15
   have h21 := u4.box h15 ap8
   have ap11 := w3.vec h16
   have h22 := u4.vec h16 ap9
   have ap12 := w3.sameP h18
   have h23 := u4.sameP h18 o3
   refine Opl.p1 (n := Opl.nil (Evr.inBlock (Evr.regionN rfl (Opl.p1 (n := Opl.add (k := .i64) (a := x10q2_1) (b := 1) K3 rfl rfl rfl rfl (Opl.one (v := .lit (.int .i64 (wrap64 (x10q2_1 + 1)))) rfl rfl rfl (Opl.nil ?_)))))))
   exact ih2 _ (by omega) _ _ ⟨by omega, _, _, _, _, _, H, ⟨rfl, rfl, rfl, rfl, rfl, rfl, rfl, trivial⟩, h21, h22, h20, h23, o2, ap12, ap7, ap10, ap11⟩
theorem spec_l20One.ev {a0 : Int} {r : Bool} (H : spec_l20One.f a0 = some r) : Ret Try.prog 124 [.lit (.int .i64 a0)] fun v S => v = .lit (.bool r) := by
 unfold spec_l20One.f at H
 refine Ret.intro Try.func124 rfl (Nat.le_of_ble_eq_true rfl) rfl ?_
 rw [tm1]
 refine Evr.sr rfl (Opl.p1 (n := Opl.nil (Evr.sr rfl (Opl.p1 (n := Opl.p1 (n := Opl.p1 (n := ?_)))))))
 by_cases c1 : a0 = 2
 case pos =>
  rw [if_pos c1] at H
  have e1 : (a0 == 2) = true := by simpa using c1
  try rw [e1]
  refine Opl.skp rfl (Opl.skp rfl (Opl.p1 (n := Opl.p1 (n := Opl.nil ?_))))
  obtain rfl := Option.some.inj H
  refine Evr.ret1 Try.func124 rfl ?_
  show (.lit (.bool true) : PV) = _
  first | rfl | (simp only [go_sem]; rfl)
 rw [if_neg c1] at H
 have e2 : (a0 == 2) = false := by simpa using c1
 try rw [e2]
 refine Opl.p1 (n := Opl.p1 (n := Opl.p1 (n := Opl.p1 (n := Opl.nil ?_))))
 obtain rfl := Option.some.inj H
 refine Evr.ret1 Try.func124 rfl ?_
 show (.lit (.bool (a0 == 5)) : PV) = _
 first | rfl | (simp only [go_sem]; rfl)
theorem spec_l40Rd_num.evb {k : Nat} {S0 : Sto} {l0_0 : List Int} {a0_1 : Int} {i0 : Abs.Id} {q0 : PV} (hq0 : Sl (cInt .u8) l0_0 q0) (hb0 : Box (.ptr i0 0) [q0, .lit (.int .i64 a0_1)] S0) {l1 : List Int} {v1 : PV} (hv1 : Sl (cInt .i64) l1 v1) {r : Int × Int} (H : spec_l40Rd_num.f k l0_0 a0_1 l1 = some r) : RetS Try.prog 107 [.ptr i0 0, v1] S0 fun v S => v = .lit (.int .i64 r.2) ∧ Box (.ptr i0 0) [q0, .lit (.int .i64 r.1)] S ∧ Same S0 S [i0] := by
 have hs0 : Same S0 S0 [i0] := .refl _ _
 unfold spec_l40Rd_num.f at H
 refine RetS.intro Try.func107 rfl (Nat.le_of_ble_eq_true rfl) rfl ?_
 rw [tm2]
 refine Evr.sr rfl (Opl.p1 (n := Opl.nil (Evr.sr rfl (Opl.p1 (n := Opl.p1 (n := Opl.p1 (n := Opl.len (xs := l1) (by exact hv1) K26 rfl rfl rfl rfl ?_)))))))
 obtain ⟨r1, h_r1, H⟩ := Option.bind_eq_some_iff.1 H
 refine Opl.calls (spec_l40Rd_pick.evb hq0 hb0 h_r1) rfl rfl rfl rfl rfl ?_
 rintro _ S ⟨rfl, h1, u1⟩
 have h2 := u1.sameP hs0 OutT.box
 obtain ⟨c1, H⟩ := peel H
 obtain ⟨c2, H⟩ := peel H
 refine Opl.idx (M := (cInt .i64)) (xs := l1) (j := r1.2) (0 : Int) (by exact hv1) rfl (by omega) (by omega) K26 Z3 rfl rfl ?_
 rintro p1 q1 h3
 obtain rfl : p1 = [.lit (.int .i64 (rd l1 r1.2))] := h3
 refine Opl.lda (.lit (.int .i64 (rd l1 r1.2))) rfl T3 rfl rfl rfl rfl (Opl.p1 (n := Opl.nil ?_))
 obtain rfl := Option.some.inj H
 refine Evr.ret1 Try.func107 rfl ?_
 exact ⟨(by first | rfl | (simp only [go_sem]; rfl)), h1, h2⟩
theorem spec_l20Draw.evb {k : Nat} {S0 : Sto} {l0_0 : List Int} {a0_1 : Int} {i0 : Abs.Id} {q0 : PV} (hq0 : Sl (cInt .u8) l0_0 q0) (hb0 : Box (.ptr i0 0) [q0, .lit (.int .i64 a0_1)] S0) {a1 : Int} {a2 : Int} {r : Int × (List ITime)} (H : spec_l20Draw.f k l0_0 a0_1 a1 a2 = some r) : RetS Try.prog 127 [.ptr i0 0, .lit (.int .i64 a1), .lit (.int .i64 a2)] S0 fun v S => Vec cITime r.2 v S ∧ New S0 v ∧ Box (.ptr i0 0) [q0, .lit (.int .i64 r.1)] S ∧ Same S0 S [i0] := by
 have hs0 : Same S0 S0 [i0] := .refl _ _
 unfold spec_l20Draw.f at H
 refine RetS.intro Try.func127 rfl (Nat.le_of_ble_eq_true rfl) rfl ?_
 rw [tm3]
 refine Evr.sr rfl (Opl.p1 (n := Opl.nil (Evr.sr rfl (Opl.lits (M := cITime) (ys := []) [] K28 T64 rfl rfl rfl trivial rfl (by decide) rfl rfl rfl ?_))))
 rintro pv1 S h1 u1 w1
 have ap1 := w1.sameP hs0
 have h2 := u1.sameP hs0 ap1
 have ap2 := w1.box hb0
 have h3 := u1.box hb0 ap2
 refine Opl.p1 (n := Opl.nil (Evr.seq (Evr.sr rfl (Opl.p1 (n := ?_)))))
 obtain ⟨r1, h_r1, H⟩ := Option.bind_eq_some_iff.1 H
 refine Opl.calls (spec_l40Rd_pick.evb hq0 h3 h_r1) rfl rfl rfl rfl rfl ?_
 rintro _ S ⟨rfl, h4, u2⟩
 have h5 := u2.sameP h2 OutT.box
 have h6 := u2.vec h1 (ap2.symm).pt
 refine Opl.add (k := .i64) (a := 2) (b := r1.2) K3 rfl rfl rfl rfl (Opl.one (v := .lit (.int .i64 (wrap64 (2 + r1.2)))) rfl rfl rfl (Opl.nil (Evr.block ?_)))
 refine Evr.loop (Evr.rounds (n := k) (Inv := fun n tm S => n ≤ k ∧ ∃ (x0b1q4_1 : Int) (x2q8_1 : Int) (x7_1 : List ITime) (x8_1 : Int) (pv2 : PV), spec_l20Draw.l1 n x0b1q4_1 x2q8_1 x7_1 x8_1 l0_0 a1 = some r ∧ Has tm [(0, .ptr i0 0), (1, .lit (.int .i64 a1)), (2, .lit (.int .i64 x2q8_1)), (7, pv2), (8, .lit (.int .i64 x8_1))] ∧ Box (.ptr i0 0) [q0, .lit (.int .i64 x0b1q4_1)] S ∧ Vec cITime x7_1 pv2 S ∧ Same S0 S [i0] ∧ OutT S0 [i0] (PV.id? pv2).toList ∧ Ap (.ptr i0 0) pv2) ?_ ?_ ?_)
 · exact ⟨Nat.le_refl _, _, _, _, _, _, H, ⟨rfl, rfl, rfl, rfl, rfl, trivial⟩, h4, h6, h5, ap1, ap2⟩
 ·
  rintro tm S ⟨_, _, _, _, _, _, H, -⟩
  simp [spec_l20Draw.l1] at H
 ·
  rintro n1 ih1 tm S ⟨hle, x0b1q4_1, x2q8_1, x7_1, x8_1, pv2, H, hh, h7, h8, h9, o1, ap3⟩
  simp only [spec_l20Draw.l1] at H
  rw [hh.eq]
  refine Evr.seq (Evr.sr rfl (Opl.p1 (n := Opl.p1 (n := Opl.nil ?_))))
  by_cases c1 : x8_1 > 0
  case neg =>
   rw [if_neg c1] at H
   have e46 : (decide (x8_1 > 0)) = false := by simpa using c1
   try rw [e46]
   refine Evr.condF rfl (Evr.exit rfl (Evr.sr rfl (Opl.p1 (n := Opl.p1 (n := Opl.nil ?_)))))
   obtain rfl := Option.some.inj H
   refine Evr.ret1 Try.func127 rfl ?_
   exact ⟨h8, (OutT.new (i := i0) o1 ap3.symm), h7, h9⟩
  rw [if_pos c1] at H
  have e1 : (decide (x8_1 > 0)) = true := by simpa using c1
  try rw [e1]
  refine Evr.condT rfl (Evr.skip (Evr.seq (Evr.block (Evr.sr rfl (Opl.p1 (n := Opl.liti (M := (cInt .i64)) (ys := [1, 1, 2, 3, 4, 5, 6, 7, 6, 7, 0]) [.const (.int .i64 1), .const (.int .i64 1), .const (.int .i64 2), .const (.int .i64 3), .const (.int .i64 4), .const (.int .i64 5), .const (.int .i64 6), .const (.int .i64 7), .const (.int .i64 6), .const (.int .i64 7), .const (.int .i64 0)] K26 T3 rfl rfl rfl (by exact ⟨rfl, rfl, rfl, rfl, rfl, rfl, rfl, rfl, rfl, rfl, rfl, trivial⟩) rfl (by decide) rfl rfl ?_))))))
  rintro pv4 h10
  obtain ⟨r2, h_r2, H⟩ := Option.bind_eq_some_iff.1 H
  refine Opl.calls (spec_l40Rd_num.evb hq0 h7 h10 h_r2) rfl rfl rfl rfl rfl ?_
  rintro _ S ⟨rfl, h11, u3⟩
  have h12 := u3.vec h8 (ap3.symm).pt
  have h13 := u3.sameP h9 OutT.box
  refine Opl.p1 (n := Opl.nil (Evr.seq (Evr.sr rfl (Opl.p1 (n := Opl.p1 (n := Opl.p1 (n := ?_)))))))
  by_cases c2 : r2.2 ≥ 5
  case neg =>
   rw [if_neg c2] at H
   have e25 : (decide (r2.2 ≥ 5)) = false := by simpa using c2
   try rw [e25]
   refine Opl.skp rfl (Opl.skp rfl (Opl.p1 (n := Opl.nil (Evr.condF rfl (Evr.skip (Evr.sr rfl (Opl.p1 (n := Opl.p1 (v := .agg [.lit (.int .i64 r2.2), .lit (.int .i64 0), .lit (.int .i64 0), .lit (.int .i64 0)]) (n := Opl.alloc T64 rfl rfl rfl ?_)))))))))
   rintro i4 S h139 u30 w23
   have ap44 := w23.box h11
   have h140 := u30.box h11 ap44
   have ap45 := w23.vec h12
   have h141 := u30.vec h12 ap45
   have ap46 := w23.sameP h13
   have h142 := u30.sameP h13 ap46
   obtain _ | k35 := n1
   · simp [spec_l20Draw.j2] at H
   simp only [spec_l20Draw.j2] at H
   refine Opl.stb (vs := [.lit (.int .i64 r2.2), .lit (.int .i64 0), .lit (.int .i64 0), .lit (.int .i64 0)]) h139 rfl rfl Z64 rfl (Nat.le_of_ble_eq_true rfl) rfl rfl rfl rfl ?_
   rintro S (h143 : Box (.ptr i4 0) [.lit (.int .i64 r2.2), .lit (.int .i64 0), .lit (.int .i64 0), .lit (.int .i64 0)] _) u31
   have h144 := u31.box h140 ap44
   have h145 := u31.vec h141 ap45
   have h146 := u31.sameP h142 ap46
   refine Opl.nil (Evr.seq (Evr.sr rfl (Opl.p1 (n := Opl.lenv (xs := x7_1) (by exact h145) K28 rfl rfl rfl rfl (Opl.p1 (n := Opl.p1 (n := ?_)))))))
   by_cases c25 : (x7_1.length : Int) = 0
   case pos =>
    rw [if_pos c25] at H
    have e26 : ((x7_1.length : Int) == 0) = true := by simpa using c25
    try rw [e26]
    refine Opl.skp rfl (Opl.skp rfl (Opl.p1 (n := Opl.nil (Evr.condT rfl (Evr.sr rfl (Opl.p1 (n := Opl.p1 (n := ?_))))))))
    obtain ⟨r3, h_r3, H⟩ := Option.bind_eq_some_iff.1 H
    refine Opl.calls (spec_l40Rd_pick.evb hq0 h144 h_r3) rfl rfl rfl rfl rfl ?_
    rintro _ S ⟨rfl, h147, u32⟩
    have h148 := u32.vec h145 (ap3.symm).pt
    have h149 := u32.sameP h146 OutT.box
    have h150 := u32.box h143 (ap44.symm).pt
    refine Opl.p1 (v := .agg [.lit (.int .i64 1), .lit (.int .i64 r3.2), .lit (.int .i64 0), .lit (.int .i64 0)]) (n := Opl.stb (vs := [.lit (.int .i64 1), .lit (.int .i64 r3.2), .lit (.int .i64 0), .lit (.int .i64 0)]) h150 rfl rfl Z64 rfl (Nat.le_of_ble_eq_true rfl) rfl rfl rfl rfl ?_)
    rintro S (h151 : Box (.ptr i4 0) [.lit (.int .i64 1), .lit (.int .i64 r3.2), .lit (.int .i64 0), .lit (.int .i64 0)] _) u33
    have h152 := u33.box h147 ap44
    have h153 := u33.vec h148 ap45
    have h154 := u33.sameP h149 ap46
    refine Opl.nil (Evr.sr rfl (Opl.p1 (n := Opl.p1 (n := Opl.p1 (n := ?_)))))
    by_cases c26 : a1 = 0
    case pos =>
     rw [if_pos c26] at H
     have e27 : (a1 == 0) = true := by simpa using c26
     try rw [e27]
     refine Opl.skp rfl (Opl.skp rfl (Opl.skp rfl (Opl.skp rfl (Opl.skp rfl (Opl.skp rfl (Opl.skp rfl (Opl.p1 (n := Opl.nil (Evr.condT rfl (Evr.regionN rfl (Opl.p1 (v := .agg [.lit (.int .i64 0), .lit (.int .i64 0), .lit (.int .i64 0), .lit (.int .i64 0)]) (n := ?_))))))))))))
     obtain _ | k36 := k35
     · simp [spec_l20Draw.j4] at H
     simp only [spec_l20Draw.j4] at H
     obtain _ | k37 := k36
     · simp [spec_l20Draw.j3] at H
     simp only [spec_l20Draw.j3] at H
     obtain ⟨c27, H⟩ := peel H
     refine Opl.stb (vs := [.lit (.int .i64 0), .lit (.int .i64 0), .lit (.int .i64 0), .lit (.int .i64 0)]) h151 rfl rfl Z64 rfl (Nat.le_of_ble_eq_true rfl) rfl rfl rfl rfl ?_
     rintro S (h155 : Box (.ptr i4 0) [.lit (.int .i64 0), .lit (.int .i64 0), .lit (.int .i64 0), .lit (.int .i64 0)] _) u34
     have h156 := u34.box h152 ap44
     have h157 := u34.vec h153 ap45
     have h158 := u34.sameP h154 ap46
     refine Opl.nil (Evr.regionN rfl (Opl.p1 (n := Opl.ldb (v := .agg [.lit (.int .i64 0), .lit (.int .i64 0), .lit (.int .i64 0), .lit (.int .i64 0)]) h155 rfl T64 rfl rfl rfl rfl (Opl.liti (M := cITime) (ys := [(⟨0, 0, 0, 0⟩ : ITime)]) [.tmp 80] K28 T64 rfl rfl rfl (by exact ⟨cITime_mk, trivial⟩) rfl (by decide) rfl rfl ?_))))
     rintro pv39 h159
     refine Opl.app (M := cITime) (xs := x7_1) (ys := [(⟨0, 0, 0, 0⟩ : ITime)]) (v := pv2) h157 (.sl h159) oITime rfl rfl K28 T64 rfl rfl (by (try simp only [List.length_cons, List.length_nil]); omega) (by show (_ + _) * 32 ≤ 140737488355328; (try simp only [List.length_cons, List.length_nil]); omega) rfl rfl rfl rfl rfl ?_
     rintro pv40 S h160 u35 w27
     have ap47 := w27.box h156
     have h161 := u35.box h156 ap3
     have ap48 := w27.sameP h158
     have h162 := u35.sameP h158 o1
     have ap49 := w27.box h155
     have h163 := u35.box h155 ap45.symm
     refine Opl.p1 (n := Opl.nil (Evr.inBlock (Evr.regionN rfl (Opl.p1 (n := Opl.subi (k := .i64) (a := x8_1) (b := 1) K3 rfl rfl rfl rfl (Opl.one (v := .lit (.int .i64 (wrap64 (x8_1 - 1)))) rfl rfl rfl (Opl.nil ?_)))))))
     exact ih1 _ (by omega) _ _ ⟨by omega, _, _, _, _, _, H, ⟨rfl, rfl, rfl, rfl, rfl, trivial⟩, h161, h160, h162, ap48, ap47⟩
    rw [if_neg c26] at H
    have e28 : (a1 == 0) = false := by simpa using c26
    try rw [e28]
    refine Opl.p1 (n := Opl.p1 (n := Opl.p1 (n := ?_)))
    by_cases c28 : r2.2 = 0
    case neg =>
     rw [if_neg c28] at H
     have e32 : (r2.2 == 0) = false := by simpa using c28
     try rw [e32]
     refine Opl.skp rfl (Opl.skp rfl (Opl.skp rfl (Opl.p1 (n := Opl.p1 (n := Opl.nil (Evr.condF rfl (Evr.skip (Evr.regionN rfl (Opl.p1 (n := Opl.ldb (v := .agg [.lit (.int .i64 1), .lit (.int .i64 r3.2), .lit (.int .i64 0), .lit (.int .i64 0)]) h151 rfl T64 rfl rfl rfl rfl (Opl.liti (M := cITime) (ys := [(⟨1, r3.2, 0, 0⟩ : ITime)]) [.tmp 80] K28 T64 rfl rfl rfl (by exact ⟨cITime_mk, trivial⟩) rfl (by decide) rfl rfl ?_)))))))))))
     rintro pv48 h178
     obtain _ | k44 := k35
     · simp [spec_l20Draw.j4] at H
     simp only [spec_l20Draw.j4] at H
     obtain _ | k45 := k44
     · simp [spec_l20Draw.j3] at H
     simp only [spec_l20Draw.j3] at H
     obtain ⟨c32, H⟩ := peel H
     refine Opl.app (M := cITime) (xs := x7_1) (ys := [(⟨1, r3.2, 0, 0⟩ : ITime)]) (v := pv2) h153 (.sl h178) oITime rfl rfl K28 T64 rfl rfl (by (try simp only [List.length_cons, List.length_nil]); omega) (by show (_ + _) * 32 ≤ 140737488355328; (try simp only [List.length_cons, List.length_nil]); omega) rfl rfl rfl rfl rfl ?_
     rintro pv49 S h179 u39 w31
     have ap56 := w31.box h152
     have h180 := u39.box h152 ap3
     have ap57 := w31.sameP h154
     have h181 := u39.sameP h154 o1
     have ap58 := w31.box h151
     have h182 := u39.box h151 ap45.symm
     refine Opl.p1 (n := Opl.nil (Evr.inBlock (Evr.regionN rfl (Opl.p1 (n := Opl.subi (k := .i64) (a := x8_1) (b := 1) K3 rfl rfl rfl rfl (Opl.one (v := .lit (.int .i64 (wrap64 (x8_1 - 1)))) rfl rfl rfl (Opl.nil ?_)))))))
     exact ih1 _ (by omega) _ _ ⟨by omega, _, _, _, _, _, H, ⟨rfl, rfl, rfl, rfl, rfl, trivial⟩, h180, h179, h181, ap57, ap56⟩
    rw [if_pos c28] at H
    have e29 : (r2.2 == 0) = true := by simpa using c28
    try rw [e29]
    refine Opl.p1 (n := Opl.lenv (xs := x7_1) (by exact h153) K28 rfl rfl rfl rfl (Opl.p1 (n := Opl.p1 (n := Opl.p1 (n := Opl.nil ?_)))))
    by_cases c29 : (x7_1.length : Int) > 0
    case neg =>
     rw [if_neg c29] at H
     have e31 : (decide ((x7_1.length : Int) > 0)) = false := by simpa using c29
     try rw [e31]
     refine Evr.condF rfl (Evr.skip (Evr.regionN rfl (Opl.p1 (n := Opl.ldb (v := .agg [.lit (.int .i64 1), .lit (.int .i64 r3.2), .lit (.int .i64 0), .lit (.int .i64 0)]) h151 rfl T64 rfl rfl rfl rfl (Opl.liti (M := cITime) (ys := [(⟨1, r3.2, 0, 0⟩ : ITime)]) [.tmp 80] K28 T64 rfl rfl rfl (by exact ⟨cITime_mk, trivial⟩) rfl (by decide) rfl rfl ?_)))))
     rintro pv45 h173
     obtain _ | k41 := k35
     · simp [spec_l20Draw.j5] at H
     simp only [spec_l20Draw.j5] at H
     obtain _ | k42 := k41
     · simp [spec_l20Draw.j4] at H
     simp only [spec_l20Draw.j4] at H
     obtain _ | k43 := k42
     · simp [spec_l20Draw.j3] at H
     simp only [spec_l20Draw.j3] at H
     obtain ⟨c31, H⟩ := peel H
     refine Opl.app (M := cITime) (xs := x7_1) (ys := [(⟨1, r3.2, 0, 0⟩ : ITime)]) (v := pv2) h153 (.sl h173) oITime rfl rfl K28 T64 rfl rfl (by (try simp only [List.length_cons, List.length_nil]); omega) (by show (_ + _) * 32 ≤ 140737488355328; (try simp only [List.length_cons, List.length_nil]); omega) rfl rfl rfl rfl rfl ?_
     rintro pv46 S h174 u38 w30
     have ap53 := w30.box h152
     have h175 := u38.box h152 ap3
     have ap54 := w30.sameP h154
     have h176 := u38.sameP h154 o1
     have ap55 := w30.box h151
     have h177 := u38.box h151 ap45.symm
     refine Opl.p1 (n := Opl.nil (Evr.inBlock (Evr.regionN rfl (Opl.p1 (n := Opl.subi (k := .i64) (a := x8_1) (b := 1) K3 rfl rfl rfl rfl (Opl.one (v := .lit (.int .i64 (wrap64 (x8_1 - 1)))) rfl rfl rfl (Opl.nil ?_)))))))
     exact ih1 _ (by omega) _ _ ⟨by omega, _, _, _, _, _, H, ⟨rfl, rfl, rfl, rfl, rfl, trivial⟩, h175, h174, h176, ap54, ap53⟩
    rw [if_pos c29] at H
    have e30 : (decide ((x7_1.length : Int) > 0)) = true := by simpa using c29
    try rw [e30]
    refine Evr.condT rfl (Evr.regionN rfl (Opl.p1 (v := .agg [.lit (.int .i64 0), .lit (.int .i64 0), .lit (.int .i64 0), .lit (.int .i64 0)]) (n := ?_)))
    obtain _ | k38 := k35
    · simp [spec_l20Draw.j5] at H
    simp only [spec_l20Draw.j5] at H
    obtain _ | k39 := k38
    · simp [spec_l20Draw.j4] at H
    simp only [spec_l20Draw.j4] at H
    obtain _ | k40 := k39
    · simp [spec_l20Draw.j3] at H
    simp only [spec_l20Draw.j3] at H
    obtain ⟨c30, H⟩ := peel H
    refine Opl.stb (vs := [.lit (.int .i64 0), .lit (.int .i64 0), .lit (.int .i64 0), .lit (.int .i64 0)]) h151 rfl rfl Z64 rfl (Nat.le_of_ble_eq_true rfl) rfl rfl rfl rfl ?_
    rintro S (h164 : Box (.ptr i4 0) [.lit (.int .i64 0), .lit (.int .i64 0), .lit (.int .i64 0), .lit (.int .i64 0)] _) u36
    have h165 := u36.box h152 ap44
    have h166 := u36.vec h153 ap45
    have h167 := u36.sameP h154 ap46
    refine Opl.nil (Evr.regionN rfl (Opl.p1 (n := Opl.ldb (v := .agg [.lit (.int .i64 0), .lit (.int .i64 0), .lit (.int .i64 0), .lit (.int .i64 0)]) h164 rfl T64 rfl rfl rfl rfl (Opl.liti (M := cITime) (ys := [(⟨0, 0, 0, 0⟩ : ITime)]) [.tmp 80] K28 T64 rfl rfl rfl (by exact ⟨cITime_mk, trivial⟩) rfl (by decide) rfl rfl ?_))))
    rintro pv42 h168
    refine Opl.app (M := cITime) (xs := x7_1) (ys := [(⟨0, 0, 0, 0⟩ : ITime)]) (v := pv2) h166 (.sl h168) oITime rfl rfl K28 T64 rfl rfl (by (try simp only [List.length_cons, List.length_nil]); omega) (by show (_ + _) * 32 ≤ 140737488355328; (try simp only [List.length_cons, List.length_nil]); omega) rfl rfl rfl rfl rfl ?_
    rintro pv43 S h169 u37 w29
    have ap50 := w29.box h165
    have h170 := u37.box h165 ap3
    have ap51 := w29.sameP h167
    have h171 := u37.sameP h167 o1
    have ap52 := w29.box h164
    have h172 := u37.box h164 ap45.symm
    refine Opl.p1 (n := Opl.nil (Evr.inBlock (Evr.regionN rfl (Opl.p1 (n := Opl.subi (k := .i64) (a := x8_1) (b := 1) K3 rfl rfl rfl rfl (Opl.one (v := .lit (.int .i64 (wrap64 (x8_1 - 1)))) rfl rfl rfl (Opl.nil ?_)))))))
    exact ih1 _ (by omega) _ _ ⟨by omega, _, _, _, _, _, H, ⟨rfl, rfl, rfl, rfl, rfl, trivial⟩, h170, h169, h171, ap51, ap50⟩
   rw [if_neg c25] at H
   have e33 : ((x7_1.length : Int) == 0) = false := by simpa using c25
   try rw [e33]
   refine Opl.p1 (n := Opl.p1 (n := Opl.p1 (n := Opl.nil ?_)))
   by_cases c33 : r2.2 ≤ 1
   case pos =>
    rw [if_pos c33] at H
    have e34 : (decide (r2.2 ≤ 1)) = true := by simpa using c33
    try rw [e34]
    refine Evr.condT rfl (Evr.sr rfl (Opl.p1 (n := Opl.p1 (n := ?_))))
    obtain ⟨r4, h_r4, H⟩ := Option.bind_eq_some_iff.1 H
    refine Opl.calls (spec_l40Rd_pick.evb hq0 h144 h_r4) rfl rfl rfl rfl rfl ?_
    rintro _ S ⟨rfl, h183, u40⟩
    have h184 := u40.vec h145 (ap3.symm).pt
    have h185 := u40.sameP h146 OutT.box
    have h186 := u40.box h143 (ap44.symm).pt
    refine Opl.p1 (v := .agg [.lit (.int .i64 1), .lit (.int .i64 r4.2), .lit (.int .i64 0), .lit (.int .i64 0)]) (n := Opl.stb (vs := [.lit (.int .i64 1), .lit (.int .i64 r4.2), .lit (.int .i64 0), .lit (.int .i64 0)]) h186 rfl rfl Z64 rfl (Nat.le_of_ble_eq_true rfl) rfl rfl rfl rfl ?_)
    rintro S (h187 : Box (.ptr i4 0) [.lit (.int .i64 1), .lit (.int .i64 r4.2), .lit (.int .i64 0), .lit (.int .i64 0)] _) u41
    have h188 := u41.box h183 ap44
    have h189 := u41.vec h184 ap45
    have h190 := u41.sameP h185 ap46
    refine Opl.nil (Evr.sr rfl (Opl.p1 (n := Opl.p1 (n := Opl.p1 (n := ?_)))))
    by_cases c34 : a1 = 0
    case pos =>
     rw [if_pos c34] at H
     have e35 : (a1 == 0) = true := by simpa using c34
     try rw [e35]
     refine Opl.skp rfl (Opl.skp rfl (Opl.skp rfl (Opl.skp rfl (Opl.skp rfl (Opl.skp rfl (Opl.skp rfl (Opl.p1 (n := Opl.nil (Evr.condT rfl (Evr.regionN rfl (Opl.p1 (v := .agg [.lit (.int .i64 0), .lit (.int .i64 0), .lit (.int .i64 0), .lit (.int .i64 0)]) (n := ?_))))))))))))
     obtain _ | k46 := k35
     · simp [spec_l20Draw.j7] at H
     simp only [spec_l20Draw.j7] at H
     obtain _ | k47 := k46
     · simp [spec_l20Draw.j6] at H
     simp only [spec_l20Draw.j6] at H
     obtain _ | k48 := k47
     · simp [spec_l20Draw.j3] at H
     simp only [spec_l20Draw.j3] at H
     obtain ⟨c35, H⟩ := peel H
     refine Opl.stb (vs := [.lit (.int .i64 0), .lit (.int .i64 0), .lit (.int .i64 0), .lit (.int .i64 0)]) h187 rfl rfl Z64 rfl (Nat.le_of_ble_eq_true rfl) rfl rfl rfl rfl ?_
     rintro S (h191 : Box (.ptr i4 0) [.lit (.int .i64 0), .lit (.int .i64 0), .lit (.int .i64 0), .lit (.int .i64 0)] _) u42
     have h192 := u42.box h188 ap44
     have h193 := u42.vec h189 ap45
     have h194 := u42.sameP h190 ap46
     refine Opl.nil (Evr.regionN rfl (Opl.p1 (n := Opl.ldb (v := .agg [.lit (.int .i64 0), .lit (.int .i64 0), .lit (.int .i64 0), .lit (.int .i64 0)]) h191 rfl T64 rfl rfl rfl rfl (Opl.liti (M := cITime) (ys := [(⟨0, 0, 0, 0⟩ : ITime)]) [.tmp 80] K28 T64 rfl rfl rfl (by exact ⟨cITime_mk, trivial⟩) rfl (by decide) rfl rfl ?_))))
     rintro pv51 h195
     refine Opl.app (M := cITime) (xs := x7_1) (ys := [(⟨0, 0, 0, 0⟩ : ITime)]) (v := pv2) h193 (.sl h195) oITime rfl rfl K28 T64 rfl rfl (by (try simp only [List.length_cons, List.length_nil]); omega) (by show (_ + _) * 32 ≤ 140737488355328; (try simp only [List.length_cons, List.length_nil]); omega) rfl rfl rfl rfl rfl ?_
     rintro pv52 S h196 u43 w34
     have ap59 := w34.box h192
     have h197 := u43.box h192 ap3
     have ap60 := w34.sameP h194
     have h198 := u43.sameP h194 o1
     have ap61 := w34.box h191
     have h199 := u43.box h191 ap45.symm
     refine Opl.p1 (n := Opl.nil (Evr.inBlock (Evr.regionN rfl (Opl.p1 (n := Opl.subi (k := .i64) (a := x8_1) (b := 1) K3 rfl rfl rfl rfl (Opl.one (v := .lit (.int .i64 (wrap64 (x8_1 - 1)))) rfl rfl rfl (Opl.nil ?_)))))))
     exact ih1 _ (by omega) _ _ ⟨by omega, _, _, _, _, _, H, ⟨rfl, rfl, rfl, rfl, rfl, trivial⟩, h197, h196, h198, ap60, ap59⟩
    rw [if_neg c34] at H
    have e36 : (a1 == 0) = false := by simpa using c34
    try rw [e36]
    refine Opl.p1 (n := Opl.p1 (n := Opl.p1 (n := ?_)))
    by_cases c36 : r2.2 = 0
    case neg =>
     rw [if_neg c36] at H
     have e40 : (r2.2 == 0) = false := by simpa using c36
     try rw [e40]
     refine Opl.skp rfl (Opl.skp rfl (Opl.skp rfl (Opl.p1 (n := Opl.p1 (n := Opl.nil (Evr.condF rfl (Evr.skip (Evr.regionN rfl (Opl.p1 (n := Opl.ldb (v := .agg [.lit (.int .i64 1), .lit (.int .i64 r4.2), .lit (.int .i64 0), .lit (.int .i64 0)]) h187 rfl T64 rfl rfl rfl rfl (Opl.liti (M := cITime) (ys := [(⟨1, r4.2, 0, 0⟩ : ITime)]) [.tmp 80] K28 T64 rfl rfl rfl (by exact ⟨cITime_mk, trivial⟩) rfl (by decide) rfl rfl ?_)))))))))))
     rintro pv60 h214
     obtain _ | k57 := k35
     · simp [spec_l20Draw.j7] at H
     simp only [spec_l20Draw.j7] at H
     obtain _ | k58 := k57
     · simp [spec_l20Draw.j6] at H
     simp only [spec_l20Draw.j6] at H
     obtain _ | k59 := k58
     · simp [spec_l20Draw.j3] at H
     simp only [spec_l20Draw.j3] at H
     obtain ⟨c40, H⟩ := peel H
     refine Opl.app (M := cITime) (xs := x7_1) (ys := [(⟨1, r4.2, 0, 0⟩ : ITime)]) (v := pv2) h189 (.sl h214) oITime rfl rfl K28 T64 rfl rfl (by (try simp only [List.length_cons, List.length_nil]); omega) (by show (_ + _) * 32 ≤ 140737488355328; (try simp only [List.length_cons, List.length_nil]); omega) rfl rfl rfl rfl rfl ?_
     rintro pv61 S h215 u47 w38
     have ap68 := w38.box h188
     have h216 := u47.box h188 ap3
     have ap69 := w38.sameP h190
     have h217 := u47.sameP h190 o1
     have ap70 := w38.box h187
     have h218 := u47.box h187 ap45.symm
     refine Opl.p1 (n := Opl.nil (Evr.inBlock (Evr.regionN rfl (Opl.p1 (n := Opl.subi (k := .i64) (a := x8_1) (b := 1) K3 rfl rfl rfl rfl (Opl.one (v := .lit (.int .i64 (wrap64 (x8_1 - 1)))) rfl rfl rfl (Opl.nil ?_)))))))
     exact ih1 _ (by omega) _ _ ⟨by omega, _, _, _, _, _, H, ⟨rfl, rfl, rfl, rfl, rfl, trivial⟩, h216, h215, h217, ap69, ap68⟩
    rw [if_pos c36] at H
    have e37 : (r2.2 == 0) = true := by simpa using c36
    try rw [e37]
    refine Opl.p1 (n := Opl.lenv (xs := x7_1) (by exact h189) K28 rfl rfl rfl rfl (Opl.p1 (n := Opl.p1 (n := Opl.p1 (n := Opl.nil ?_)))))
    by_cases c37 : (x7_1.length : Int) > 0
    case neg =>
     rw [if_neg c37] at H
     have e39 : (decide ((x7_1.length : Int) > 0)) = false := by simpa using c37
     try rw [e39]
     refine Evr.condF rfl (Evr.skip (Evr.regionN rfl (Opl.p1 (n := Opl.ldb (v := .agg [.lit (.int .i64 1), .lit (.int .i64 r4.2), .lit (.int .i64 0), .lit (.int .i64 0)]) h187 rfl T64 rfl rfl rfl rfl (Opl.liti (M := cITime) (ys := [(⟨1, r4.2, 0, 0⟩ : ITime)]) [.tmp 80] K28 T64 rfl rfl rfl (by exact ⟨cITime_mk, trivial⟩) rfl (by decide) rfl rfl ?_)))))
     rintro pv57 h209
     obtain _ | k53 := k35
     · simp [spec_l20Draw.j8] at H
     simp only [spec_l20Draw.j8] at H
     obtain _ | k54 := k53
     · simp [spec_l20Draw.j7] at H
     simp only [spec_l20Draw.j7] at H
     obtain _ | k55 := k54
     · simp [spec_l20Draw.j6] at H
     simp only [spec_l20Draw.j6] at H
     obtain _ | k56 := k55
     · simp [spec_l20Draw.j3] at H
     simp only [spec_l20Draw.j3] at H
     obtain ⟨c39, H⟩ := peel H
     refine Opl.app (M := cITime) (xs := x7_1) (ys := [(⟨1, r4.2, 0, 0⟩ : ITime)]) (v := pv2) h189 (.sl h209) oITime rfl rfl K28 T64 rfl rfl (by (try simp only [List.length_cons, List.length_nil]); omega) (by show (_ + _) * 32 ≤ 140737488355328; (try simp only [List.length_cons, List.length_nil]); omega) rfl rfl rfl rfl rfl ?_
     rintro pv58 S h210 u46 w37
     have ap65 := w37.box h188
     have h211 := u46.box h188 ap3
     have ap66 := w37.sameP h190
     have h212 := u46.sameP h190 o1
     have ap67 := w37.box h187
     have h213 := u46.box h187 ap45.symm
     refine Opl.p1 (n := Opl.nil (Evr.inBlock (Evr.regionN rfl (Opl.p1 (n := Opl.subi (k := .i64) (a := x8_1) (b := 1) K3 rfl rfl rfl rfl (Opl.one (v := .lit (.int .i64 (wrap64 (x8_1 - 1)))) rfl rfl rfl (Opl.nil ?_)))))))
     exact ih1 _ (by omega) _ _ ⟨by omega, _, _, _, _, _, H, ⟨rfl, rfl, rfl, rfl, rfl, trivial⟩, h211, h210, h212, ap66, ap65⟩
    rw [if_pos c37] at H
    have e38 : (decide ((x7_1.length : Int) > 0)) = true := by simpa using c37
    try rw [e38]
    refine Evr.condT rfl (Evr.regionN rfl (Opl.p1 (v := .agg [.lit (.int .i64 0), .lit (.int .i64 0), .lit (.int .i64 0), .lit (.int .i64 0)]) (n := ?_)))
    obtain _ | k49 := k35
    · simp [spec_l20Draw.j8] at H
    simp only [spec_l20Draw.j8] at H
    obtain _ | k50 := k49
    · simp [spec_l20Draw.j7] at H
    simp only [spec_l20Draw.j7] at H
    obtain _ | k51 := k50
    · simp [spec_l20Draw.j6] at H
    simp only [spec_l20Draw.j6] at H
    obtain _ | k52 := k51
    · simp [spec_l20Draw.j3] at H
    simp only [spec_l20Draw.j3] at H
    obtain ⟨c38, H⟩ := peel H
    refine Opl.stb (vs := [.lit (.int .i64 0), .lit (.int .i64 0), .lit (.int .i64 0), .lit (.int .i64 0)]) h187 rfl rfl Z64 rfl (Nat.le_of_ble_eq_true rfl) rfl rfl rfl rfl ?_
    rintro S (h200 : Box (.ptr i4 0) [.lit (.int .i64 0), .lit (.int .i64 0), .lit (.int .i64 0), .lit (.int .i64 0)] _) u44
    have h201 := u44.box h188 ap44
    have h202 := u44.vec h189 ap45
    have h203 := u44.sameP h190 ap46
    refine Opl.nil (Evr.regionN rfl (Opl.p1 (n := Opl.ldb (v := .agg [.lit (.int .i64 0), .lit (.int .i64 0), .lit (.int .i64 0), .lit (.int .i64 0)]) h200 rfl T64 rfl rfl rfl rfl (Opl.liti (M := cITime) (ys := [(⟨0, 0, 0, 0⟩ : ITime)]) [.tmp 80] K28 T64 rfl rfl rfl (by exact ⟨cITime_mk, trivial⟩) rfl (by decide) rfl rfl ?_))))
    rintro pv54 h204
    refine Opl.app (M := cITime) (xs := x7_1) (ys := [(⟨0, 0, 0, 0⟩ : ITime)]) (v := pv2) h202 (.sl h204) oITime rfl rfl K28 T64 rfl rfl (by (try simp only [List.length_cons, List.length_nil]); omega) (by show (_ + _) * 32 ≤ 140737488355328; (try simp only [List.length_cons, List.length_nil]); omega) rfl rfl rfl rfl rfl ?_
    rintro pv55 S h205 u45 w36
    have ap62 := w36.box h201
    have h206 := u45.box h201 ap3
    have ap63 := w36.sameP h203
    have h207 := u45.sameP h203 o1
    have ap64 := w36.box h200
    have h208 := u45.box h200 ap45.symm
    refine Opl.p1 (n := Opl.nil (Evr.inBlock (Evr.regionN rfl (Opl.p1 (n := Opl.subi (k := .i64) (a := x8_1) (b := 1) K3 rfl rfl rfl rfl (Opl.one (v := .lit (.int .i64 (wrap64 (x8_1 - 1)))) rfl rfl rfl (Opl.nil ?_)))))))
    exact ih1 _ (by omega) _ _ ⟨by omega, _, _, _, _, _, H, ⟨rfl, rfl, rfl, rfl, rfl, trivial⟩, h206, h205, h207, ap63, ap62⟩
   rw [if_neg c33] at H
   have e41 : (decide (r2.2 ≤ 1)) = false := by simpa using c33
   try rw [e41]
   refine Evr.condF rfl (Evr.sr rfl (Opl.p1 (n := Opl.lenv (xs := x7_1) (by exact h145) K28 rfl rfl rfl rfl (Opl.subi (k := .i64) (a := (x7_1.length : Int)) (b := 1) K3 rfl rfl rfl rfl (Opl.one (v := .ptr i0 0) rfl rfl rfl ?_)))))
   obtain ⟨r5, h_r5, H⟩ := Option.bind_eq_some_iff.1 H
   refine Opl.calls (spec_l40Rd_pick.evb hq0 h144 h_r5) rfl rfl rfl rfl rfl ?_
   rintro _ S ⟨rfl, h219, u48⟩
   have h220 := u48.vec h145 (ap3.symm).pt
   have h221 := u48.sameP h146 OutT.box
   have h222 := u48.box h143 (ap44.symm).pt
   refine Opl.one (v := .ptr i0 0) rfl rfl rfl (Opl.one (v := pv2) rfl rfl rfl (Opl.lenv (xs := x7_1) (by exact h220) K28 rfl rfl rfl rfl ?_))
   obtain ⟨r6, h_r6, H⟩ := Option.bind_eq_some_iff.1 H
   refine Opl.calls (spec_l40Rd_pick.evb hq0 h219 h_r6) rfl rfl rfl rfl rfl ?_
   rintro _ S ⟨rfl, h223, u49⟩
   have h224 := u49.vec h220 (ap3.symm).pt
   have h225 := u49.sameP h221 OutT.box
   have h226 := u49.box h222 (ap44.symm).pt
   refine Opl.mul (k := .i64) (a := r5.2) (b := r6.2) K3 rfl rfl rfl rfl (Opl.subi (k := .i64) (a := (wrap64 ((x7_1.length : Int) - 1))) (b := (wrap64 (r5.2 * r6.2))) K3 rfl rfl rfl rfl (Opl.p1 (v := .ptr i4 2) (n := Opl.stb (vs := [.lit (.int .i64 (wrap64 ((wrap64 ((x7_1.length : Int) - 1)) - (wrap64 (r5.2 * r6.2)))))]) h226 rfl rfl Z3 rfl (Nat.le_of_ble_eq_true rfl) rfl rfl rfl rfl ?_)))
   rintro S (h227 : Box (.ptr i4 0) [.lit (.int .i64 r2.2), .lit (.int .i64 0), .lit (.int .i64 (wrap64 ((wrap64 ((x7_1.length : Int) - 1)) - (wrap64 (r5.2 * r6.2))))), .lit (.int .i64 0)] _) u50
   have h228 := u50.box h223 ap44
   have h229 := u50.vec h224 ap45
   have h230 := u50.sameP h225 ap46
   refine Opl.nil (Evr.sr rfl (Opl.one (v := .ptr i0 0) rfl rfl rfl (Opl.one (v := pv2) rfl rfl rfl (Opl.lenv (xs := x7_1) (by exact h229) K28 rfl rfl rfl rfl ?_))))
   obtain ⟨r7, h_r7, H⟩ := Option.bind_eq_some_iff.1 H
   refine Opl.calls (spec_l40Rd_pick.evb hq0 h228 h_r7) rfl rfl rfl rfl rfl ?_
   rintro _ S ⟨rfl, h231, u51⟩
   have h232 := u51.vec h229 (ap3.symm).pt
   have h233 := u51.sameP h230 OutT.box
   have h234 := u51.box h227 (ap44.symm).pt
   refine Opl.p1 (v := .ptr i4 3) (n := Opl.stb (vs := [.lit (.int .i64 r7.2)]) h234 rfl rfl Z3 rfl (Nat.le_of_ble_eq_true rfl) rfl rfl rfl rfl ?_)
   rintro S (h235 : Box (.ptr i4 0) [.lit (.int .i64 r2.2), .lit (.int .i64 0), .lit (.int .i64 (wrap64 ((wrap64 ((x7_1.length : Int) - 1)) - (wrap64 (r5.2 * r6.2))))), .lit (.int .i64 r7.2)] _) u52
   have h236 := u52.box h231 ap44
   have h237 := u52.vec h232 ap45
   have h238 := u52.sameP h233 ap46
   refine Opl.nil (Evr.seq (Evr.sr rfl (Opl.one (v := .lit (.int .i64 r2.2)) rfl rfl rfl ?_)))
   obtain ⟨r8, h_r8, H⟩ := Option.bind_eq_some_iff.1 H
   refine Opl.callc (spec_l20One.ev h_r8) rfl rfl rfl rfl ⟨(.lit _), trivial⟩ (by decide) (Opl.nil ?_)
   by_cases c41 : r8 = true
   case neg =>
    rw [if_neg c41] at H
    obtain rfl : r8 = false := by simpa using c41
    refine Evr.condF rfl (Evr.skip (Evr.sr rfl (Opl.one (v := .lit (.int .i64 r2.2)) rfl rfl rfl (Opl.p1 (n := Opl.nil ?_)))))
    refine Evr.join (fun tm S => ∃ (kq5 : Nat) (x2q15_4 : Int) (pv66 : PV) (i6 : Abs.Id), spec_l20Draw.j10 kq5 x2q15_4 l0_0 a1 x7_1 x8_1 r2.2 r5 r6 r7 r7.2 = some r ∧ kq5 ≤ k35 ∧ Has tm [(0, .ptr i0 0), (1, .lit (.int .i64 a1)), (2, .lit (.int .i64 x2q15_4)), (7, pv66), (8, .lit (.int .i64 x8_1)), (10, .ptr i6 0)] ∧ Box (.ptr i0 0) [q0, .lit (.int .i64 r7.1)] S ∧ Vec cITime x7_1 pv66 S ∧ Box (.ptr i6 0) [.lit (.int .i64 r2.2), .lit (.int .i64 0), .lit (.int .i64 (wrap64 ((wrap64 ((x7_1.length : Int) - 1)) - (wrap64 (r5.2 * r6.2))))), .lit (.int .i64 r7.2)] S ∧ Same S0 S [i0] ∧ OutT S0 [i0] (PV.id? pv66).toList ∧ OutT S0 [i0] (PV.ptr i6 0).id?.toList ∧ Ap (.ptr i0 0) pv66 ∧ Ap (.ptr i0 0) (.ptr i6 0) ∧ Ap pv66 (.ptr i6 0)) ?_ fun hk5 => ?_
    ·
     rintro tm S ⟨kq5, x2q15_4, pv66, i6, H, hle, hh, h252, h253, h254, h255, o9, o10, ap77, ap78, ap79⟩
     rw [hh.eq]
     refine Evr.regionN rfl (Opl.p1 (n := Opl.ldb (v := .agg [.lit (.int .i64 r2.2), .lit (.int .i64 0), .lit (.int .i64 (wrap64 ((wrap64 ((x7_1.length : Int) - 1)) - (wrap64 (r5.2 * r6.2))))), .lit (.int .i64 r7.2)]) h254 rfl T64 rfl rfl rfl rfl (Opl.liti (M := cITime) (ys := [(⟨r2.2, 0, (wrap64 ((wrap64 ((x7_1.length : Int) - 1)) - (wrap64 (r5.2 * r6.2)))), r7.2⟩ : ITime)]) [.tmp 80] K28 T64 rfl rfl rfl (by exact ⟨cITime_mk, trivial⟩) rfl (by decide) rfl rfl ?_)))
     rintro pv68 h256
     obtain _ | k64 := kq5
     · simp [spec_l20Draw.j10] at H
     simp only [spec_l20Draw.j10] at H
     obtain _ | k65 := k64
     · simp [spec_l20Draw.j6] at H
     simp only [spec_l20Draw.j6] at H
     obtain _ | k66 := k65
     · simp [spec_l20Draw.j3] at H
     simp only [spec_l20Draw.j3] at H
     obtain ⟨c44, H⟩ := peel H
     refine Opl.app (M := cITime) (xs := x7_1) (ys := [(⟨r2.2, 0, (wrap64 ((wrap64 ((x7_1.length : Int) - 1)) - (wrap64 (r5.2 * r6.2)))), r7.2⟩ : ITime)]) (v := pv66) h253 (.sl h256) oITime rfl rfl K28 T64 rfl rfl (by (try simp only [List.length_cons, List.length_nil]); omega) (by show (_ + _) * 32 ≤ 140737488355328; (try simp only [List.length_cons, List.length_nil]); omega) rfl rfl rfl rfl rfl ?_
     rintro pv69 S h257 u55 w43
     have ap80 := w43.box h252
     have h258 := u55.box h252 ap77
     have ap81 := w43.box h254
     have h259 := u55.box h254 ap79.symm
     have ap82 := w43.sameP h255
     have h260 := u55.sameP h255 o9
     refine Opl.p1 (n := Opl.nil (Evr.inBlock (Evr.regionN rfl (Opl.p1 (n := Opl.subi (k := .i64) (a := x8_1) (b := 1) K3 rfl rfl rfl rfl (Opl.one (v := .lit (.int .i64 (wrap64 (x8_1 - 1)))) rfl rfl rfl (Opl.nil ?_)))))))
     exact ih1 _ (by omega) _ _ ⟨by omega, _, _, _, _, _, H, ⟨rfl, rfl, rfl, rfl, rfl, trivial⟩, h258, h257, h260, ap82, ap80⟩
    ·
     obtain _ | k67 := k35
     · simp [spec_l20Draw.j9] at H
     simp only [spec_l20Draw.j9] at H
     by_cases c45 : r2.2 ≥ 5
     case neg =>
      rw [if_neg c45] at H
      have e45 : (decide (r2.2 ≥ 5)) = false := by simpa using c45
      try rw [e45]
      refine Evr.condF rfl (Evr.skip ?_)
      exact hk5 _ _ ⟨_, _, _, _, H, by omega, ⟨rfl, rfl, rfl, rfl, rfl, rfl, trivial⟩, h236, h237, h235, h238, o1, ap46, ap3, ap44, ap45⟩
     rw [if_pos c45] at H
     have e44 : (decide (r2.2 ≥ 5)) = true := by simpa using c45
     try rw [e44]
     refine Evr.condT rfl (Evr.regionN rfl (Opl.one (v := .lit (.int .i64 x2q8_1)) rfl rfl rfl (Opl.subi (k := .i64) (a := x2q8_1) (b := 1) K3 rfl rfl rfl rfl (Opl.one (v := .lit (.int .i64 (wrap64 (x2q8_1 - 1)))) rfl rfl rfl (Opl.nil ?_)))))
     exact hk5 _ _ ⟨_, _, _, _, H, by omega, ⟨rfl, rfl, rfl, rfl, rfl, rfl, trivial⟩, h236, h237, h235, h238, o1, ap46, ap3, ap44, ap45⟩
   rw [if_pos c41] at H
   obtain rfl : r8 = true := by simpa using c41
   refine Evr.condT rfl (Evr.regionN rfl (Opl.p1 (v := .ptr i4 2) (n := Opl.ldb (v := .lit (.int .i64 (wrap64 ((wrap64 ((x7_1.length : Int) - 1)) - (wrap64 (r5.2 * r6.2)))))) h235 rfl T3 rfl rfl rfl rfl (Opl.p1 (v := .ptr i4 3) (n := ?_)))))
   obtain _ | k60 := k35
   · simp [spec_l20Draw.j9] at H
   simp only [spec_l20Draw.j9] at H
   refine Opl.stb (vs := [.lit (.int .i64 (wrap64 ((wrap64 ((x7_1.length : Int) - 1)) - (wrap64 (r5.2 * r6.2)))))]) h235 rfl rfl Z3 rfl (Nat.le_of_ble_eq_true rfl) rfl rfl rfl rfl ?_
   rintro S (h239 : Box (.ptr i4 0) [.lit (.int .i64 r2.2), .lit (.int .i64 0), .lit (.int .i64 (wrap64 ((wrap64 ((x7_1.length : Int) - 1)) - (wrap64 (r5.2 * r6.2))))), .lit (.int .i64 (wrap64 ((wrap64 ((x7_1.length : Int) - 1)) - (wrap64 (r5.2 * r6.2)))))] _) u53
   have h240 := u53.box h236 ap44
   have h241 := u53.vec h237 ap45
   have h242 := u53.sameP h238 ap46
   refine Opl.nil (Evr.sr rfl (Opl.one (v := .lit (.int .i64 r2.2)) rfl rfl rfl (Opl.p1 (n := Opl.nil ?_))))
   refine Evr.join (fun tm S => ∃ (kq4 : Nat) (x2q15_3 : Int) (pv62 : PV) (i5 : Abs.Id), spec_l20Draw.j10 kq4 x2q15_3 l0_0 a1 x7_1 x8_1 r2.2 r5 r6 r7 (wrap64 ((wrap64 ((x7_1.length : Int) - 1)) - (wrap64 (r5.2 * r6.2)))) = some r ∧ kq4 ≤ k60 ∧ Has tm [(0, .ptr i0 0), (1, .lit (.int .i64 a1)), (2, .lit (.int .i64 x2q15_3)), (7, pv62), (8, .lit (.int .i64 x8_1)), (10, .ptr i5 0)] ∧ Box (.ptr i0 0) [q0, .lit (.int .i64 r7.1)] S ∧ Vec cITime x7_1 pv62 S ∧ Box (.ptr i5 0) [.lit (.int .i64 r2.2), .lit (.int .i64 0), .lit (.int .i64 (wrap64 ((wrap64 ((x7_1.length : Int) - 1)) - (wrap64 (r5.2 * r6.2))))), .lit (.int .i64 (wrap64 ((wrap64 ((x7_1.length : Int) - 1)) - (wrap64 (r5.2 * r6.2)))))] S ∧ Same S0 S [i0] ∧ OutT S0 [i0] (PV.id? pv62).toList ∧ OutT S0 [i0] (PV.ptr i5 0).id?.toList ∧ Ap (.ptr i0 0) pv62 ∧ Ap (.ptr i0 0) (.ptr i5 0) ∧ Ap pv62 (.ptr i5 0)) ?_ fun hk4 => ?_
   ·
    rintro tm S ⟨kq4, x2q15_3, pv62, i5, H, hle, hh, h243, h244, h245, h246, o7, o8, ap71, ap72, ap73⟩
    rw [hh.eq]
    refine Evr.regionN rfl (Opl.p1 (n := Opl.ldb (v := .agg [.lit (.int .i64 r2.2), .lit (.int .i64 0), .lit (.int .i64 (wrap64 ((wrap64 ((x7_1.length : Int) - 1)) - (wrap64 (r5.2 * r6.2))))), .lit (.int .i64 (wrap64 ((wrap64 ((x7_1.length : Int) - 1)) - (wrap64 (r5.2 * r6.2)))))]) h245 rfl T64 rfl rfl rfl rfl (Opl.liti (M := cITime) (ys := [(⟨r2.2, 0, (wrap64 ((wrap64 ((x7_1.length : Int) - 1)) - (wrap64 (r5.2 * r6.2)))), (wrap64 ((wrap64 ((x7_1.length : Int) - 1)) - (wrap64 (r5.2 * r6.2))))⟩ : ITime)]) [.tmp 80] K28 T64 rfl rfl rfl (by exact ⟨cITime_mk, trivial⟩) rfl (by decide) rfl rfl ?_)))
    rintro pv64 h247
    obtain _ | k61 := kq4
    · simp [spec_l20Draw.j10] at H
    simp only [spec_l20Draw.j10] at H
    obtain _ | k62 := k61
    · simp [spec_l20Draw.j6] at H
    simp only [spec_l20Draw.j6] at H
    obtain _ | k63 := k62
    · simp [spec_l20Draw.j3] at H
    simp only [spec_l20Draw.j3] at H
    obtain ⟨c42, H⟩ := peel H
    refine Opl.app (M := cITime) (xs := x7_1) (ys := [(⟨r2.2, 0, (wrap64 ((wrap64 ((x7_1.length : Int) - 1)) - (wrap64 (r5.2 * r6.2)))), (wrap64 ((wrap64 ((x7_1.length : Int) - 1)) - (wrap64 (r5.2 * r6.2))))⟩ : ITime)]) (v := pv62) h244 (.sl h247) oITime rfl rfl K28 T64 rfl rfl (by (try simp only [List.length_cons, List.length_nil]); omega) (by show (_ + _) * 32 ≤ 140737488355328; (try simp only [List.length_cons, List.length_nil]); omega) rfl rfl rfl rfl rfl ?_
    rintro pv65 S h248 u54 w42
    have ap74 := w42.box h243
    have h249 := u54.box h243 ap71
    have ap75 := w42.box h245
    have h250 := u54.box h245 ap73.symm
    have ap76 := w42.sameP h246
    have h251 := u54.sameP h246 o7
    refine Opl.p1 (n := Opl.nil (Evr.inBlock (Evr.regionN rfl (Opl.p1 (n := Opl.subi (k := .i64) (a := x8_1) (b := 1) K3 rfl rfl rfl rfl (Opl.one (v := .lit (.int .i64 (wrap64 (x8_1 - 1)))) rfl rfl rfl (Opl.nil ?_)))))))
    exact ih1 _ (by omega) _ _ ⟨by omega, _, _, _, _, _, H, ⟨rfl, rfl, rfl, rfl, rfl, trivial⟩, h249, h248, h251, ap76, ap74⟩
   ·
    by_cases c43 : r2.2 ≥ 5
    case neg =>
     rw [if_neg c43] at H
     have e43 : (decide (r2.2 ≥ 5)) = false := by simpa using c43
     try rw [e43]
     refine Evr.condF rfl (Evr.skip ?_)
     exact hk4 _ _ ⟨_, _, _, _, H, by omega, ⟨rfl, rfl, rfl, rfl, rfl, rfl, trivial⟩, h240, h241, h239, h242, o1, ap46, ap3, ap44, ap45⟩
    rw [if_pos c43] at H
    have e42 : (decide (r2.2 ≥ 5)) = true := by simpa using c43
    try rw [e42]
    refine Evr.condT rfl (Evr.regionN rfl (Opl.one (v := .lit (.int .i64 x2q8_1)) rfl rfl rfl (Opl.subi (k := .i64) (a := x2q8_1) (b := 1) K3 rfl rfl rfl rfl (Opl.one (v := .lit (.int .i64 (wrap64 (x2q8_1 - 1)))) rfl rfl rfl (Opl.nil ?_)))))
    exact hk4 _ _ ⟨_, _, _, _, H, by omega, ⟨rfl, rfl, rfl, rfl, rfl, rfl, trivial⟩, h240, h241, h239, h242, o1, ap46, ap3, ap44, ap45⟩
  rw [if_pos c2] at H
  have e2 : (decide (r2.2 ≥ 5)) = true := by simpa using c2
  try rw [e2]
  refine Opl.p1 (n := Opl.p1 (n := Opl.p1 (n := Opl.nil ?_)))
  refine Evr.join (fun tm S => ∃ (kq1 : Nat) (x9q6_1 : Int) (pv5 : PV), spec_l20Draw.j11 kq1 x9q6_1 l0_0 a1 x2q8_1 x7_1 x8_1 r2 = some r ∧ kq1 ≤ n1 ∧ Has tm [(0, .ptr i0 0), (1, .lit (.int .i64 a1)), (2, .lit (.int .i64 x2q8_1)), (7, pv5), (8, .lit (.int .i64 x8_1)), (9, .lit (.int .i64 x9q6_1))] ∧ Box (.ptr i0 0) [q0, .lit (.int .i64 r2.1)] S ∧ Vec cITime x7_1 pv5 S ∧ Same S0 S [i0] ∧ OutT S0 [i0] (PV.id? pv5).toList ∧ Ap (.ptr i0 0) pv5) ?_ fun hk1 => ?_
  ·
   rintro tm S ⟨kq1, x9q6_1, pv5, H, hle, hh, h14, h15, h16, o2, ap4⟩
   rw [hh.eq]
   refine Evr.sr rfl (Opl.p1 (n := Opl.p1 (v := .agg [.lit (.int .i64 x9q6_1), .lit (.int .i64 0), .lit (.int .i64 0), .lit (.int .i64 0)]) (n := Opl.alloc T64 rfl rfl rfl ?_)))
   rintro i1 S h17 u4 w2
   have ap5 := w2.box h14
   have h18 := u4.box h14 ap5
   have ap6 := w2.vec h15
   have h19 := u4.vec h15 ap6
   have ap7 := w2.sameP h16
   have h20 := u4.sameP h16 ap7
   obtain _ | k1 := kq1
   · simp [spec_l20Draw.j11] at H
   simp only [spec_l20Draw.j11] at H
   obtain _ | k2 := k1
   · simp [spec_l20Draw.j2] at H
   simp only [spec_l20Draw.j2] at H
   refine Opl.stb (vs := [.lit (.int .i64 x9q6_1), .lit (.int .i64 0), .lit (.int .i64 0), .lit (.int .i64 0)]) h17 rfl rfl Z64 rfl (Nat.le_of_ble_eq_true rfl) rfl rfl rfl rfl ?_
   rintro S (h21 : Box (.ptr i1 0) [.lit (.int .i64 x9q6_1), .lit (.int .i64 0), .lit (.int .i64 0), .lit (.int .i64 0)] _) u5
   have h22 := u5.box h18 ap5
   have h23 := u5.vec h19 ap6
   have h24 := u5.sameP h20 ap7
   refine Opl.nil (Evr.seq (Evr.sr rfl (Opl.p1 (n := Opl.lenv (xs := x7_1) (by exact h23) K28 rfl rfl rfl rfl (Opl.p1 (n := Opl.p1 (n := ?_)))))))
   by_cases c3 : (x7_1.length : Int) = 0
   case pos =>
    rw [if_pos c3] at H
    have e3 : ((x7_1.length : Int) == 0) = true := by simpa using c3
    try rw [e3]
    refine Opl.skp rfl (Opl.skp rfl (Opl.p1 (n := Opl.nil (Evr.condT rfl (Evr.sr rfl (Opl.p1 (n := Opl.p1 (n := ?_))))))))
    obtain ⟨r3, h_r3, H⟩ := Option.bind_eq_some_iff.1 H
    refine Opl.calls (spec_l40Rd_pick.evb hq0 h22 h_r3) rfl rfl rfl rfl rfl ?_
    rintro _ S ⟨rfl, h25, u6⟩
    have h26 := u6.vec h23 (ap4.symm).pt
    have h27 := u6.sameP h24 OutT.box
    have h28 := u6.box h21 (ap5.symm).pt
    refine Opl.p1 (v := .agg [.lit (.int .i64 1), .lit (.int .i64 r3.2), .lit (.int .i64 0), .lit (.int .i64 0)]) (n := Opl.stb (vs := [.lit (.int .i64 1), .lit (.int .i64 r3.2), .lit (.int .i64 0), .lit (.int .i64 0)]) h28 rfl rfl Z64 rfl (Nat.le_of_ble_eq_true rfl) rfl rfl rfl rfl ?_)
    rintro S (h29 : Box (.ptr i1 0) [.lit (.int .i64 1), .lit (.int .i64 r3.2), .lit (.int .i64 0), .lit (.int .i64 0)] _) u7
    have h30 := u7.box h25 ap5
    have h31 := u7.vec h26 ap6
    have h32 := u7.sameP h27 ap7
    refine Opl.nil (Evr.sr rfl (Opl.p1 (n := Opl.p1 (n := Opl.p1 (n := ?_)))))
    by_cases c4 : a1 = 0
    case pos =>
     rw [if_pos c4] at H
     have e4 : (a1 == 0) = true := by simpa using c4
     try rw [e4]
     refine Opl.skp rfl (Opl.skp rfl (Opl.skp rfl (Opl.skp rfl (Opl.skp rfl (Opl.skp rfl (Opl.skp rfl (Opl.p1 (n := Opl.nil (Evr.condT rfl (Evr.regionN rfl (Opl.p1 (v := .agg [.lit (.int .i64 0), .lit (.int .i64 0), .lit (.int .i64 0), .lit (.int .i64 0)]) (n := ?_))))))))))))
     obtain _ | k3 := k2
     · simp [spec_l20Draw.j4] at H
     simp only [spec_l20Draw.j4] at H
     obtain _ | k4 := k3
     · simp [spec_l20Draw.j3] at H
     simp only [spec_l20Draw.j3] at H
     obtain ⟨c5, H⟩ := peel H
     refine Opl.stb (vs := [.lit (.int .i64 0), .lit (.int .i64 0), .lit (.int .i64 0), .lit (.int .i64 0)]) h29 rfl rfl Z64 rfl (Nat.le_of_ble_eq_true rfl) rfl rfl rfl rfl ?_
     rintro S (h33 : Box (.ptr i1 0) [.lit (.int .i64 0), .lit (.int .i64 0), .lit (.int .i64 0), .lit (.int .i64 0)] _) u8
     have h34 := u8.box h30 ap5
     have h35 := u8.vec h31 ap6
     have h36 := u8.sameP h32 ap7
     refine Opl.nil (Evr.regionN rfl (Opl.p1 (n := Opl.ldb (v := .agg [.lit (.int .i64 0), .lit (.int .i64 0), .lit (.int .i64 0), .lit (.int .i64 0)]) h33 rfl T64 rfl rfl rfl rfl (Opl.liti (M := cITime) (ys := [(⟨0, 0, 0, 0⟩ : ITime)]) [.tmp 80] K28 T64 rfl rfl rfl (by exact ⟨cITime_mk, trivial⟩) rfl (by decide) rfl rfl ?_))))
     rintro pv7 h37
     refine Opl.app (M := cITime) (xs := x7_1) (ys := [(⟨0, 0, 0, 0⟩ : ITime)]) (v := pv5) h35 (.sl h37) oITime rfl rfl K28 T64 rfl rfl (by (try simp only [List.length_cons, List.length_nil]); omega) (by show (_ + _) * 32 ≤ 140737488355328; (try simp only [List.length_cons, List.length_nil]); omega) rfl rfl rfl rfl rfl ?_
     rintro pv8 S h38 u9 w6
     have ap8 := w6.box h34
     have h39 := u9.box h34 ap4
     have ap9 := w6.sameP h36
     have h40 := u9.sameP h36 o2
     have ap10 := w6.box h33
     have h41 := u9.box h33 ap6.symm
     refine Opl.p1 (n := Opl.nil (Evr.inBlock (Evr.regionN rfl (Opl.p1 (n := Opl.subi (k := .i64) (a := x8_1) (b := 1) K3 rfl rfl rfl rfl (Opl.one (v := .lit (.int .i64 (wrap64 (x8_1 - 1)))) rfl rfl rfl (Opl.nil ?_)))))))
     exact ih1 _ (by omega) _ _ ⟨by omega, _, _, _, _, _, H, ⟨rfl, rfl, rfl, rfl, rfl, trivial⟩, h39, h38, h40, ap9, ap8⟩
    rw [if_neg c4] at H
    have e5 : (a1 == 0) = false := by simpa using c4
    try rw [e5]
    refine Opl.p1 (n := Opl.p1 (n := Opl.p1 (n := ?_)))
    by_cases c6 : x9q6_1 = 0
    case neg =>
     rw [if_neg c6] at H
     have e9 : (x9q6_1 == 0) = false := by simpa using c6
     try rw [e9]
     refine Opl.skp rfl (Opl.skp rfl (Opl.skp rfl (Opl.p1 (n := Opl.p1 (n := Opl.nil (Evr.condF rfl (Evr.skip (Evr.regionN rfl (Opl.p1 (n := Opl.ldb (v := .agg [.lit (.int .i64 1), .lit (.int .i64 r3.2), .lit (.int .i64 0), .lit (.int .i64 0)]) h29 rfl T64 rfl rfl rfl rfl (Opl.liti (M := cITime) (ys := [(⟨1, r3.2, 0, 0⟩ : ITime)]) [.tmp 80] K28 T64 rfl rfl rfl (by exact ⟨cITime_mk, trivial⟩) rfl (by decide) rfl rfl ?_)))))))))))
     rintro pv16 h56
     obtain _ | k11 := k2
     · simp [spec_l20Draw.j4] at H
     simp only [spec_l20Draw.j4] at H
     obtain _ | k12 := k11
     · simp [spec_l20Draw.j3] at H
     simp only [spec_l20Draw.j3] at H
     obtain ⟨c10, H⟩ := peel H
     refine Opl.app (M := cITime) (xs := x7_1) (ys := [(⟨1, r3.2, 0, 0⟩ : ITime)]) (v := pv5) h31 (.sl h56) oITime rfl rfl K28 T64 rfl rfl (by (try simp only [List.length_cons, List.length_nil]); omega) (by show (_ + _) * 32 ≤ 140737488355328; (try simp only [List.length_cons, List.length_nil]); omega) rfl rfl rfl rfl rfl ?_
     rintro pv17 S h57 u13 w10
     have ap17 := w10.box h30
     have h58 := u13.box h30 ap4
     have ap18 := w10.sameP h32
     have h59 := u13.sameP h32 o2
     have ap19 := w10.box h29
     have h60 := u13.box h29 ap6.symm
     refine Opl.p1 (n := Opl.nil (Evr.inBlock (Evr.regionN rfl (Opl.p1 (n := Opl.subi (k := .i64) (a := x8_1) (b := 1) K3 rfl rfl rfl rfl (Opl.one (v := .lit (.int .i64 (wrap64 (x8_1 - 1)))) rfl rfl rfl (Opl.nil ?_)))))))
     exact ih1 _ (by omega) _ _ ⟨by omega, _, _, _, _, _, H, ⟨rfl, rfl, rfl, rfl, rfl, trivial⟩, h58, h57, h59, ap18, ap17⟩
    rw [if_pos c6] at H
    have e6 : (x9q6_1 == 0) = true := by simpa using c6
    try rw [e6]
    refine Opl.p1 (n := Opl.lenv (xs := x7_1) (by exact h31) K28 rfl rfl rfl rfl (Opl.p1 (n := Opl.p1 (n := Opl.p1 (n := Opl.nil ?_)))))
    by_cases c7 : (x7_1.length : Int) > 0
    case neg =>
     rw [if_neg c7] at H
     have e8 : (decide ((x7_1.length : Int) > 0)) = false := by simpa using c7
     try rw [e8]
     refine Evr.condF rfl (Evr.skip (Evr.regionN rfl (Opl.p1 (n := Opl.ldb (v := .agg [.lit (.int .i64 1), .lit (.int .i64 r3.2), .lit (.int .i64 0), .lit (.int .i64 0)]) h29 rfl T64 rfl rfl rfl rfl (Opl.liti (M := cITime) (ys := [(⟨1, r3.2, 0, 0⟩ : ITime)]) [.tmp 80] K28 T64 rfl rfl rfl (by exact ⟨cITime_mk, trivial⟩) rfl (by decide) rfl rfl ?_)))))
     rintro pv13 h51
     obtain _ | k8 := k2
     · simp [spec_l20Draw.j5] at H
     simp only [spec_l20Draw.j5] at H
     obtain _ | k9 := k8
     · simp [spec_l20Draw.j4] at H
     simp only [spec_l20Draw.j4] at H
     obtain _ | k10 := k9
     · simp [spec_l20Draw.j3] at H
     simp only [spec_l20Draw.j3] at H
     obtain ⟨c9, H⟩ := peel H
     refine Opl.app (M := cITime) (xs := x7_1) (ys := [(⟨1, r3.2, 0, 0⟩ : ITime)]) (v := pv5) h31 (.sl h51) oITime rfl rfl K28 T64 rfl rfl (by (try simp only [List.length_cons, List.length_nil]); omega) (by show (_ + _) * 32 ≤ 140737488355328; (try simp only [List.length_cons, List.length_nil]); omega) rfl rfl rfl rfl rfl ?_
     rintro pv14 S h52 u12 w9
     have ap14 := w9.box h30
     have h53 := u12.box h30 ap4
     have ap15 := w9.sameP h32
     have h54 := u12.sameP h32 o2
     have ap16 := w9.box h29
     have h55 := u12.box h29 ap6.symm
     refine Opl.p1 (n := Opl.nil (Evr.inBlock (Evr.regionN rfl (Opl.p1 (n := Opl.subi (k := .i64) (a := x8_1) (b := 1) K3 rfl rfl rfl rfl (Opl.one (v := .lit (.int .i64 (wrap64 (x8_1 - 1)))) rfl rfl rfl (Opl.nil ?_)))))))
     exact ih1 _ (by omega) _ _ ⟨by omega, _, _, _, _, _, H, ⟨rfl, rfl, rfl, rfl, rfl, trivial⟩, h53, h52, h54, ap15, ap14⟩
    rw [if_pos c7] at H
    have e7 : (decide ((x7_1.length : Int) > 0)) = true := by simpa using c7
    try rw [e7]
    refine Evr.condT rfl (Evr.regionN rfl (Opl.p1 (v := .agg [.lit (.int .i64 0), .lit (.int .i64 0), .lit (.int .i64 0), .lit (.int .i64 0)]) (n := ?_)))
    obtain _ | k5 := k2
    · simp [spec_l20Draw.j5] at H
    simp only [spec_l20Draw.j5] at H
    obtain _ | k6 := k5
    · simp [spec_l20Draw.j4] at H
    simp only [spec_l20Draw.j4] at H
    obtain _ | k7 := k6
    · simp [spec_l20Draw.j3] at H
    simp only [spec_l20Draw.j3] at H
    obtain ⟨c8, H⟩ := peel H
    refine Opl.stb (vs := [.lit (.int .i64 0), .lit (.int .i64 0), .lit (.int .i64 0), .lit (.int .i64 0)]) h29 rfl rfl Z64 rfl (Nat.le_of_ble_eq_true rfl) rfl rfl rfl rfl ?_
    rintro S (h42 : Box (.ptr i1 0) [.lit (.int .i64 0), .lit (.int .i64 0), .lit (.int .i64 0), .lit (.int .i64 0)] _) u10
    have h43 := u10.box h30 ap5
    have h44 := u10.vec h31 ap6
    have h45 := u10.sameP h32 ap7
    refine Opl.nil (Evr.regionN rfl (Opl.p1 (n := Opl.ldb (v := .agg [.lit (.int .i64 0), .lit (.int .i64 0), .lit (.int .i64 0), .lit (.int .i64 0)]) h42 rfl T64 rfl rfl rfl rfl (Opl.liti (M := cITime) (ys := [(⟨0, 0, 0, 0⟩ : ITime)]) [.tmp 80] K28 T64 rfl rfl rfl (by exact ⟨cITime_mk, trivial⟩) rfl (by decide) rfl rfl ?_))))
    rintro pv10 h46
    refine Opl.app (M := cITime) (xs := x7_1) (ys := [(⟨0, 0, 0, 0⟩ : ITime)]) (v := pv5) h44 (.sl h46) oITime rfl rfl K28 T64 rfl rfl (by (try simp only [List.length_cons, List.length_nil]); omega) (by show (_ + _) * 32 ≤ 140737488355328; (try simp only [List.length_cons, List.length_nil]); omega) rfl rfl rfl rfl rfl ?_
    rintro pv11 S h47 u11 w8
    have ap11 := w8.box h43
    have h48 := u11.box h43 ap4
    have ap12 := w8.sameP h45
    have h49 := u11.sameP h45 o2
    have ap13 := w8.box h42
    have h50 := u11.box h42 ap6.symm
    refine Opl.p1 (n := Opl.nil (Evr.inBlock (Evr.regionN rfl (Opl.p1 (n := Opl.subi (k := .i64) (a := x8_1) (b := 1) K3 rfl rfl rfl rfl (Opl.one (v := .lit (.int .i64 (wrap64 (x8_1 - 1)))) rfl rfl rfl (Opl.nil ?_)))))))
    exact ih1 _ (by omega) _ _ ⟨by omega, _, _, _, _, _, H, ⟨rfl, rfl, rfl, rfl, rfl, trivial⟩, h48, h47, h49, ap12, ap11⟩
   rw [if_neg c3] at H
   have e10 : ((x7_1.length : Int) == 0) = false := by simpa using c3
   try rw [e10]
   refine Opl.p1 (n := Opl.p1 (n := Opl.p1 (n := Opl.nil ?_)))
   by_cases c11 : x9q6_1 ≤ 1
   case pos =>
    rw [if_pos c11] at H
    have e11 : (decide (x9q6_1 ≤ 1)) = true := by simpa using c11
    try rw [e11]
    refine Evr.condT rfl (Evr.sr rfl (Opl.p1 (n := Opl.p1 (n := ?_))))
    obtain ⟨r4, h_r4, H⟩ := Option.bind_eq_some_iff.1 H
    refine Opl.calls (spec_l40Rd_pick.evb hq0 h22 h_r4) rfl rfl rfl rfl rfl ?_
    rintro _ S ⟨rfl, h61, u14⟩
    have h62 := u14.vec h23 (ap4.symm).pt
    have h63 := u14.sameP h24 OutT.box
    have h64 := u14.box h21 (ap5.symm).pt
    refine Opl.p1 (v := .agg [.lit (.int .i64 1), .lit (.int .i64 r4.2), .lit (.int .i64 0), .lit (.int .i64 0)]) (n := Opl.stb (vs := [.lit (.int .i64 1), .lit (.int .i64 r4.2), .lit (.int .i64 0), .lit (.int .i64 0)]) h64 rfl rfl Z64 rfl (Nat.le_of_ble_eq_true rfl) rfl rfl rfl rfl ?_)
    rintro S (h65 : Box (.ptr i1 0) [.lit (.int .i64 1), .lit (.int .i64 r4.2), .lit (.int .i64 0), .lit (.int .i64 0)] _) u15
    have h66 := u15.box h61 ap5
    have h67 := u15.vec h62 ap6
    have h68 := u15.sameP h63 ap7
    refine Opl.nil (Evr.sr rfl (Opl.p1 (n := Opl.p1 (n := Opl.p1 (n := ?_)))))
    by_cases c12 : a1 = 0
    case pos =>
     rw [if_pos c12] at H
     have e12 : (a1 == 0) = true := by simpa using c12
     try rw [e12]
     refine Opl.skp rfl (Opl.skp rfl (Opl.skp rfl (Opl.skp rfl (Opl.skp rfl (Opl.skp rfl (Opl.skp rfl (Opl.p1 (n := Opl.nil (Evr.condT rfl (Evr.regionN rfl (Opl.p1 (v := .agg [.lit (.int .i64 0), .lit (.int .i64 0), .lit (.int .i64 0), .lit (.int .i64 0)]) (n := ?_))))))))))))
     obtain _ | k13 := k2
     · simp [spec_l20Draw.j7] at H
     simp only [spec_l20Draw.j7] at H
     obtain _ | k14 := k13
     · simp [spec_l20Draw.j6] at H
     simp only [spec_l20Draw.j6] at H
     obtain _ | k15 := k14
     · simp [spec_l20Draw.j3] at H
     simp only [spec_l20Draw.j3] at H
     obtain ⟨c13, H⟩ := peel H
     refine Opl.stb (vs := [.lit (.int .i64 0), .lit (.int .i64 0), .lit (.int .i64 0), .lit (.int .i64 0)]) h65 rfl rfl Z64 rfl (Nat.le_of_ble_eq_true rfl) rfl rfl rfl rfl ?_
     rintro S (h69 : Box (.ptr i1 0) [.lit (.int .i64 0), .lit (.int .i64 0), .lit (.int .i64 0), .lit (.int .i64 0)] _) u16
     have h70 := u16.box h66 ap5
     have h71 := u16.vec h67 ap6
     have h72 := u16.sameP h68 ap7
     refine Opl.nil (Evr.regionN rfl (Opl.p1 (n := Opl.ldb (v := .agg [.lit (.int .i64 0), .lit (.int .i64 0), .lit (.int .i64 0), .lit (.int .i64 0)]) h69 rfl T64 rfl rfl rfl rfl (Opl.liti (M := cITime) (ys := [(⟨0, 0, 0, 0⟩ : ITime)]) [.tmp 80] K28 T64 rfl rfl rfl (by exact ⟨cITime_mk, trivial⟩) rfl (by decide) rfl rfl ?_))))
     rintro pv19 h73
     refine Opl.app (M := cITime) (xs := x7_1) (ys := [(⟨0, 0, 0, 0⟩ : ITime)]) (v := pv5) h71 (.sl h73) oITime rfl rfl K28 T64 rfl rfl (by (try simp only [List.length_cons, List.length_nil]); omega) (by show (_ + _) * 32 ≤ 140737488355328; (try simp only [List.length_cons, List.length_nil]); omega) rfl rfl rfl rfl rfl ?_
     rintro pv20 S h74 u17 w13
     have ap20 := w13.box h70
     have h75 := u17.box h70 ap4
     have ap21 := w13.sameP h72
     have h76 := u17.sameP h72 o2
     have ap22 := w13.box h69
     have h77 := u17.box h69 ap6.symm
     refine Opl.p1 (n := Opl.nil (Evr.inBlock (Evr.regionN rfl (Opl.p1 (n := Opl.subi (k := .i64) (a := x8_1) (b := 1) K3 rfl rfl rfl rfl (Opl.one (v := .lit (.int .i64 (wrap64 (x8_1 - 1)))) rfl rfl rfl (Opl.nil ?_)))))))
     exact ih1 _ (by omega) _ _ ⟨by omega, _, _, _, _, _, H, ⟨rfl, rfl, rfl, rfl, rfl, trivial⟩, h75, h74, h76, ap21, ap20⟩
    rw [if_neg c12] at H
    have e13 : (a1 == 0) = false := by simpa using c12
    try rw [e13]
    refine Opl.p1 (n := Opl.p1 (n := Opl.p1 (n := ?_)))
    by_cases c14 : x9q6_1 = 0
    case neg =>
     rw [if_neg c14] at H
     have e17 : (x9q6_1 == 0) = false := by simpa using c14
     try rw [e17]
     refine Opl.skp rfl (Opl.skp rfl (Opl.skp rfl (Opl.p1 (n := Opl.p1 (n := Opl.nil (Evr.condF rfl (Evr.skip (Evr.regionN rfl (Opl.p1 (n := Opl.ldb (v := .agg [.lit (.int .i64 1), .lit (.int .i64 r4.2), .lit (.int .i64 0), .lit (.int .i64 0)]) h65 rfl T64 rfl rfl rfl rfl (Opl.liti (M := cITime) (ys := [(⟨1, r4.2, 0, 0⟩ : ITime)]) [.tmp 80] K28 T64 rfl rfl rfl (by exact ⟨cITime_mk, trivial⟩) rfl (by decide) rfl rfl ?_)))))))))))
     rintro pv28 h92
     obtain _ | k24 := k2
     · simp [spec_l20Draw.j7] at H
     simp only [spec_l20Draw.j7] at H
     obtain _ | k25 := k24
     · simp [spec_l20Draw.j6] at H
     simp only [spec_l20Draw.j6] at H
     obtain _ | k26 := k25
     · simp [spec_l20Draw.j3] at H
     simp only [spec_l20Draw.j3] at H
     obtain ⟨c18, H⟩ := peel H
     refine Opl.app (M := cITime) (xs := x7_1) (ys := [(⟨1, r4.2, 0, 0⟩ : ITime)]) (v := pv5) h67 (.sl h92) oITime rfl rfl K28 T64 rfl rfl (by (try simp only [List.length_cons, List.length_nil]); omega) (by show (_ + _) * 32 ≤ 140737488355328; (try simp only [List.length_cons, List.length_nil]); omega) rfl rfl rfl rfl rfl ?_
     rintro pv29 S h93 u21 w17
     have ap29 := w17.box h66
     have h94 := u21.box h66 ap4
     have ap30 := w17.sameP h68
     have h95 := u21.sameP h68 o2
     have ap31 := w17.box h65
     have h96 := u21.box h65 ap6.symm
     refine Opl.p1 (n := Opl.nil (Evr.inBlock (Evr.regionN rfl (Opl.p1 (n := Opl.subi (k := .i64) (a := x8_1) (b := 1) K3 rfl rfl rfl rfl (Opl.one (v := .lit (.int .i64 (wrap64 (x8_1 - 1)))) rfl rfl rfl (Opl.nil ?_)))))))
     exact ih1 _ (by omega) _ _ ⟨by omega, _, _, _, _, _, H, ⟨rfl, rfl, rfl, rfl, rfl, trivial⟩, h94, h93, h95, ap30, ap29⟩
    rw [if_pos c14] at H
    have e14 : (x9q6_1 == 0) = true := by simpa using c14
    try rw [e14]
    refine Opl.p1 (n := Opl.lenv (xs := x7_1) (by exact h67) K28 rfl rfl rfl rfl (Opl.p1 (n := Opl.p1 (n := Opl.p1 (n := Opl.nil ?_)))))
    by_cases c15 : (x7_1.length : Int) > 0
    case neg =>
     rw [if_neg c15] at H
     have e16 : (decide ((x7_1.length : Int) > 0)) = false := by simpa using c15
     try rw [e16]
     refine Evr.condF rfl (Evr.skip (Evr.regionN rfl (Opl.p1 (n := Opl.ldb (v := .agg [.lit (.int .i64 1), .lit (.int .i64 r4.2), .lit (.int .i64 0), .lit (.int .i64 0)]) h65 rfl T64 rfl rfl rfl rfl (Opl.liti (M := cITime) (ys := [(⟨1, r4.2, 0, 0⟩ : ITime)]) [.tmp 80] K28 T64 rfl rfl rfl (by exact ⟨cITime_mk, trivial⟩) rfl (by decide) rfl rfl ?_)))))
     rintro pv25 h87
     obtain _ | k20 := k2
     · simp [spec_l20Draw.j8] at H
     simp only [spec_l20Draw.j8] at H
     obtain _ | k21 := k20
     · simp [spec_l20Draw.j7] at H
     simp only [spec_l20Draw.j7] at H
     obtain _ | k22 := k21
     · simp [spec_l20Draw.j6] at H
     simp only [spec_l20Draw.j6] at H
     obtain _ | k23 := k22
     · simp [spec_l20Draw.j3] at H
     simp only [spec_l20Draw.j3] at H
     obtain ⟨c17, H⟩ := peel H
     refine Opl.app (M := cITime) (xs := x7_1) (ys := [(⟨1, r4.2, 0, 0⟩ : ITime)]) (v := pv5) h67 (.sl h87) oITime rfl rfl K28 T64 rfl rfl (by (try simp only [List.length_cons, List.length_nil]); omega) (by show (_ + _) * 32 ≤ 140737488355328; (try simp only [List.length_cons, List.length_nil]); omega) rfl rfl rfl rfl rfl ?_
     rintro pv26 S h88 u20 w16
     have ap26 := w16.box h66
     have h89 := u20.box h66 ap4
     have ap27 := w16.sameP h68
     have h90 := u20.sameP h68 o2
     have ap28 := w16.box h65
     have h91 := u20.box h65 ap6.symm
     refine Opl.p1 (n := Opl.nil (Evr.inBlock (Evr.regionN rfl (Opl.p1 (n := Opl.subi (k := .i64) (a := x8_1) (b := 1) K3 rfl rfl rfl rfl (Opl.one (v := .lit (.int .i64 (wrap64 (x8_1 - 1)))) rfl rfl rfl (Opl.nil ?_)))))))
     exact ih1 _ (by omega) _ _ ⟨by omega, _, _, _, _, _, H, ⟨rfl, rfl, rfl, rfl, rfl, trivial⟩, h89, h88, h90, ap27, ap26⟩
    rw [if_pos c15] at H
    have e15 : (decide ((x7_1.length : Int) > 0)) = true := by simpa using c15
    try rw [e15]
    refine Evr.condT rfl (Evr.regionN rfl (Opl.p1 (v := .agg [.lit (.int .i64 0), .lit (.int .i64 0), .lit (.int .i64 0), .lit (.int .i64 0)]) (n := ?_)))
    obtain _ | k16 := k2
    · simp [spec_l20Draw.j8] at H
    simp only [spec_l20Draw.j8] at H
    obtain _ | k17 := k16
    · simp [spec_l20Draw.j7] at H
    simp only [spec_l20Draw.j7] at H
    obtain _ | k18 := k17
    · simp [spec_l20Draw.j6] at H
    simp only [spec_l20Draw.j6] at H
    obtain _ | k19 := k18
    · simp [spec_l20Draw.j3] at H
    simp only [spec_l20Draw.j3] at H
    obtain ⟨c16, H⟩ := peel H
    refine Opl.stb (vs := [.lit (.int .i64 0), .lit (.int .i64 0), .lit (.int .i64 0), .lit (.int .i64 0)]) h65 rfl rfl Z64 rfl (Nat.le_of_ble_eq_true rfl) rfl rfl rfl rfl ?_
    rintro S (h78 : Box (.ptr i1 0) [.lit (.int .i64 0), .lit (.int .i64 0), .lit (.int .i64 0), .lit (.int .i64 0)] _) u18
    have h79 := u18.box h66 ap5
    have h80 := u18.vec h67 ap6
    have h81 := u18.sameP h68 ap7
    refine Opl.nil (Evr.regionN rfl (Opl.p1 (n := Opl.ldb (v := .agg [.lit (.int .i64 0), .lit (.int .i64 0), .lit (.int .i64 0), .lit (.int .i64 0)]) h78 rfl T64 rfl rfl rfl rfl (Opl.liti (M := cITime) (ys := [(⟨0, 0, 0, 0⟩ : ITime)]) [.tmp 80] K28 T64 rfl rfl rfl (by exact ⟨cITime_mk, trivial⟩) rfl (by decide) rfl rfl ?_))))
    rintro pv22 h82
    refine Opl.app (M := cITime) (xs := x7_1) (ys := [(⟨0, 0, 0, 0⟩ : ITime)]) (v := pv5) h80 (.sl h82) oITime rfl rfl K28 T64 rfl rfl (by (try simp only [List.length_cons, List.length_nil]); omega) (by show (_ + _) * 32 ≤ 140737488355328; (try simp only [List.length_cons, List.length_nil]); omega) rfl rfl rfl rfl rfl ?_
    rintro pv23 S h83 u19 w15
    have ap23 := w15.box h79
    have h84 := u19.box h79 ap4
    have ap24 := w15.sameP h81
    have h85 := u19.sameP h81 o2
    have ap25 := w15.box h78
    have h86 := u19.box h78 ap6.symm
    refine Opl.p1 (n := Opl.nil (Evr.inBlock (Evr.regionN rfl (Opl.p1 (n := Opl.subi (k := .i64) (a := x8_1) (b := 1) K3 rfl rfl rfl rfl (Opl.one (v := .lit (.int .i64 (wrap64 (x8_1 - 1)))) rfl rfl rfl (Opl.nil ?_)))))))
    exact ih1 _ (by omega) _ _ ⟨by omega, _, _, _, _, _, H, ⟨rfl, rfl, rfl, rfl, rfl, trivial⟩, h84, h83, h85, ap24, ap23⟩
   rw [if_neg c11] at H
   have e18 : (decide (x9q6_1 ≤ 1)) = false := by simpa using c11
   try rw [e18]
   refine Evr.condF rfl (Evr.sr rfl (Opl.p1 (n := Opl.lenv (xs := x7_1) (by exact h23) K28 rfl rfl rfl rfl (Opl.subi (k := .i64) (a := (x7_1.length : Int)) (b := 1) K3 rfl rfl rfl rfl (Opl.one (v := .ptr i0 0) rfl rfl rfl ?_)))))
   obtain ⟨r5, h_r5, H⟩ := Option.bind_eq_some_iff.1 H
   refine Opl.calls (spec_l40Rd_pick.evb hq0 h22 h_r5) rfl rfl rfl rfl rfl ?_
   rintro _ S ⟨rfl, h97, u22⟩
   have h98 := u22.vec h23 (ap4.symm).pt
   have h99 := u22.sameP h24 OutT.box
   have h100 := u22.box h21 (ap5.symm).pt
   refine Opl.one (v := .ptr i0 0) rfl rfl rfl (Opl.one (v := pv5) rfl rfl rfl (Opl.lenv (xs := x7_1) (by exact h98) K28 rfl rfl rfl rfl ?_))
   obtain ⟨r6, h_r6, H⟩ := Option.bind_eq_some_iff.1 H
   refine Opl.calls (spec_l40Rd_pick.evb hq0 h97 h_r6) rfl rfl rfl rfl rfl ?_
   rintro _ S ⟨rfl, h101, u23⟩
   have h102 := u23.vec h98 (ap4.symm).pt
   have h103 := u23.sameP h99 OutT.box
   have h104 := u23.box h100 (ap5.symm).pt
   refine Opl.mul (k := .i64) (a := r5.2) (b := r6.2) K3 rfl rfl rfl rfl (Opl.subi (k := .i64) (a := (wrap64 ((x7_1.length : Int) - 1))) (b := (wrap64 (r5.2 * r6.2))) K3 rfl rfl rfl rfl (Opl.p1 (v := .ptr i1 2) (n := Opl.stb (vs := [.lit (.int .i64 (wrap64 ((wrap64 ((x7_1.length : Int) - 1)) - (wrap64 (r5.2 * r6.2)))))]) h104 rfl rfl Z3 rfl (Nat.le_of_ble_eq_true rfl) rfl rfl rfl rfl ?_)))
   rintro S (h105 : Box (.ptr i1 0) [.lit (.int .i64 x9q6_1), .lit (.int .i64 0), .lit (.int .i64 (wrap64 ((wrap64 ((x7_1.length : Int) - 1)) - (wrap64 (r5.2 * r6.2))))), .lit (.int .i64 0)] _) u24
   have h106 := u24.box h101 ap5
   have h107 := u24.vec h102 ap6
   have h108 := u24.sameP h103 ap7
   refine Opl.nil (Evr.sr rfl (Opl.one (v := .ptr i0 0) rfl rfl rfl (Opl.one (v := pv5) rfl rfl rfl (Opl.lenv (xs := x7_1) (by exact h107) K28 rfl rfl rfl rfl ?_))))
   obtain ⟨r7, h_r7, H⟩ := Option.bind_eq_some_iff.1 H
   refine Opl.calls (spec_l40Rd_pick.evb hq0 h106 h_r7) rfl rfl rfl rfl rfl ?_
   rintro _ S ⟨rfl, h109, u25⟩
   have h110 := u25.vec h107 (ap4.symm).pt
   have h111 := u25.sameP h108 OutT.box
   have h112 := u25.box h105 (ap5.symm).pt
   refine Opl.p1 (v := .ptr i1 3) (n := Opl.stb (vs := [.lit (.int .i64 r7.2)]) h112 rfl rfl Z3 rfl (Nat.le_of_ble_eq_true rfl) rfl rfl rfl rfl ?_)
   rintro S (h113 : Box (.ptr i1 0) [.lit (.int .i64 x9q6_1), .lit (.int .i64 0), .lit (.int .i64 (wrap64 ((wrap64 ((x7_1.length : Int) - 1)) - (wrap64 (r5.2 * r6.2))))), .lit (.int .i64 r7.2)] _) u26
   have h114 := u26.box h109 ap5
   have h115 := u26.vec h110 ap6
   have h116 := u26.sameP h111 ap7
   refine Opl.nil (Evr.seq (Evr.sr rfl (Opl.one (v := .lit (.int .i64 x9q6_1)) rfl rfl rfl ?_)))
   obtain ⟨r8, h_r8, H⟩ := Option.bind_eq_some_iff.1 H
   refine Opl.callc (spec_l20One.ev h_r8) rfl rfl rfl rfl ⟨(.lit _), trivial⟩ (by decide) (Opl.nil ?_)
   by_cases c19 : r8 = true
   case neg =>
    rw [if_neg c19] at H
    obtain rfl : r8 = false := by simpa using c19
    refine Evr.condF rfl (Evr.skip (Evr.sr rfl (Opl.one (v := .lit (.int .i64 x9q6_1)) rfl rfl rfl (Opl.p1 (n := Opl.nil ?_)))))
    refine Evr.join (fun tm S => ∃ (kq3 : Nat) (x2q15_2 : Int) (pv34 : PV) (i3 : Abs.Id), spec_l20Draw.j10 kq3 x2q15_2 l0_0 a1 x7_1 x8_1 x9q6_1 r5 r6 r7 r7.2 = some r ∧ kq3 ≤ k2 ∧ Has tm [(0, .ptr i0 0), (1, .lit (.int .i64 a1)), (2, .lit (.int .i64 x2q15_2)), (7, pv34), (8, .lit (.int .i64 x8_1)), (10, .ptr i3 0)] ∧ Box (.ptr i0 0) [q0, .lit (.int .i64 r7.1)] S ∧ Vec cITime x7_1 pv34 S ∧ Box (.ptr i3 0) [.lit (.int .i64 x9q6_1), .lit (.int .i64 0), .lit (.int .i64 (wrap64 ((wrap64 ((x7_1.length : Int) - 1)) - (wrap64 (r5.2 * r6.2))))), .lit (.int .i64 r7.2)] S ∧ Same S0 S [i0] ∧ OutT S0 [i0] (PV.id? pv34).toList ∧ OutT S0 [i0] (PV.ptr i3 0).id?.toList ∧ Ap (.ptr i0 0) pv34 ∧ Ap (.ptr i0 0) (.ptr i3 0) ∧ Ap pv34 (.ptr i3 0)) ?_ fun hk3 => ?_
    ·
     rintro tm S ⟨kq3, x2q15_2, pv34, i3, H, hle, hh, h130, h131, h132, h133, o5, o6, ap38, ap39, ap40⟩
     rw [hh.eq]
     refine Evr.regionN rfl (Opl.p1 (n := Opl.ldb (v := .agg [.lit (.int .i64 x9q6_1), .lit (.int .i64 0), .lit (.int .i64 (wrap64 ((wrap64 ((x7_1.length : Int) - 1)) - (wrap64 (r5.2 * r6.2))))), .lit (.int .i64 r7.2)]) h132 rfl T64 rfl rfl rfl rfl (Opl.liti (M := cITime) (ys := [(⟨x9q6_1, 0, (wrap64 ((wrap64 ((x7_1.length : Int) - 1)) - (wrap64 (r5.2 * r6.2)))), r7.2⟩ : ITime)]) [.tmp 80] K28 T64 rfl rfl rfl (by exact ⟨cITime_mk, trivial⟩) rfl (by decide) rfl rfl ?_)))
     rintro pv36 h134
     obtain _ | k31 := kq3
     · simp [spec_l20Draw.j10] at H
     simp only [spec_l20Draw.j10] at H
     obtain _ | k32 := k31
     · simp [spec_l20Draw.j6] at H
     simp only [spec_l20Draw.j6] at H
     obtain _ | k33 := k32
     · simp [spec_l20Draw.j3] at H
     simp only [spec_l20Draw.j3] at H
     obtain ⟨c22, H⟩ := peel H
     refine Opl.app (M := cITime) (xs := x7_1) (ys := [(⟨x9q6_1, 0, (wrap64 ((wrap64 ((x7_1.length : Int) - 1)) - (wrap64 (r5.2 * r6.2)))), r7.2⟩ : ITime)]) (v := pv34) h131 (.sl h134) oITime rfl rfl K28 T64 rfl rfl (by (try simp only [List.length_cons, List.length_nil]); omega) (by show (_ + _) * 32 ≤ 140737488355328; (try simp only [List.length_cons, List.length_nil]); omega) rfl rfl rfl rfl rfl ?_
     rintro pv37 S h135 u29 w22
     have ap41 := w22.box h130
     have h136 := u29.box h130 ap38
     have ap42 := w22.box h132
     have h137 := u29.box h132 ap40.symm
     have ap43 := w22.sameP h133
     have h138 := u29.sameP h133 o5
     refine Opl.p1 (n := Opl.nil (Evr.inBlock (Evr.regionN rfl (Opl.p1 (n := Opl.subi (k := .i64) (a := x8_1) (b := 1) K3 rfl rfl rfl rfl (Opl.one (v := .lit (.int .i64 (wrap64 (x8_1 - 1)))) rfl rfl rfl (Opl.nil ?_)))))))
     exact ih1 _ (by omega) _ _ ⟨by omega, _, _, _, _, _, H, ⟨rfl, rfl, rfl, rfl, rfl, trivial⟩, h136, h135, h138, ap43, ap41⟩
    ·
     obtain _ | k34 := k2
     · simp [spec_l20Draw.j9] at H
     simp only [spec_l20Draw.j9] at H
     by_cases c23 : x9q6_1 ≥ 5
     case neg =>
      rw [if_neg c23] at H
      have e22 : (decide (x9q6_1 ≥ 5)) = false := by simpa using c23
      try rw [e22]
      refine Evr.condF rfl (Evr.skip ?_)
      exact hk3 _ _ ⟨_, _, _, _, H, by omega, ⟨rfl, rfl, rfl, rfl, rfl, rfl, trivial⟩, h114, h115, h113, h116, o2, ap7, ap4, ap5, ap6⟩
     rw [if_pos c23] at H
     have e21 : (decide (x9q6_1 ≥ 5)) = true := by simpa using c23
     try rw [e21]
     refine Evr.condT rfl (Evr.regionN rfl (Opl.one (v := .lit (.int .i64 x2q8_1)) rfl rfl rfl (Opl.subi (k := .i64) (a := x2q8_1) (b := 1) K3 rfl rfl rfl rfl (Opl.one (v := .lit (.int .i64 (wrap64 (x2q8_1 - 1)))) rfl rfl rfl (Opl.nil ?_)))))
     exact hk3 _ _ ⟨_, _, _, _, H, by omega, ⟨rfl, rfl, rfl, rfl, rfl, rfl, trivial⟩, h114, h115, h113, h116, o2, ap7, ap4, ap5, ap6⟩
   rw [if_pos c19] at H
   obtain rfl : r8 = true := by simpa using c19
   refine Evr.condT rfl (Evr.regionN rfl (Opl.p1 (v := .ptr i1 2) (n := Opl.ldb (v := .lit (.int .i64 (wrap64 ((wrap64 ((x7_1.length : Int) - 1)) - (wrap64 (r5.2 * r6.2)))))) h113 rfl T3 rfl rfl rfl rfl (Opl.p1 (v := .ptr i1 3) (n := ?_)))))
   obtain _ | k27 := k2
   · simp [spec_l20Draw.j9] at H
   simp only [spec_l20Draw.j9] at H
   refine Opl.stb (vs := [.lit (.int .i64 (wrap64 ((wrap64 ((x7_1.length : Int) - 1)) - (wrap64 (r5.2 * r6.2)))))]) h113 rfl rfl Z3 rfl (Nat.le_of_ble_eq_true rfl) rfl rfl rfl rfl ?_
   rintro S (h117 : Box (.ptr i1 0) [.lit (.int .i64 x9q6_1), .lit (.int .i64 0), .lit (.int .i64 (wrap64 ((wrap64 ((x7_1.length : Int) - 1)) - (wrap64 (r5.2 * r6.2))))), .lit (.int .i64 (wrap64 ((wrap64 ((x7_1.length : Int) - 1)) - (wrap64 (r5.2 * r6.2)))))] _) u27
   have h118 := u27.box h114 ap5
   have h119 := u27.vec h115 ap6
   have h120 := u27.sameP h116 ap7
   refine Opl.nil (Evr.sr rfl (Opl.one (v := .lit (.int .i64 x9q6_1)) rfl rfl rfl (Opl.p1 (n := Opl.nil ?_))))
   refine Evr.join (fun tm S => ∃ (kq2 : Nat) (x2q15_1 : Int) (pv30 : PV) (i2 : Abs.Id), spec_l20Draw.j10 kq2 x2q15_1 l0_0 a1 x7_1 x8_1 x9q6_1 r5 r6 r7 (wrap64 ((wrap64 ((x7_1.length : Int) - 1)) - (wrap64 (r5.2 * r6.2)))) = some r ∧ kq2 ≤ k27 ∧ Has tm [(0, .ptr i0 0), (1, .lit (.int .i64 a1)), (2, .lit (.int .i64 x2q15_1)), (7, pv30), (8, .lit (.int .i64 x8_1)), (10, .ptr i2 0)] ∧ Box (.ptr i0 0) [q0, .lit (.int .i64 r7.1)] S ∧ Vec cITime x7_1 pv30 S ∧ Box (.ptr i2 0) [.lit (.int .i64 x9q6_1), .lit (.int .i64 0), .lit (.int .i64 (wrap64 ((wrap64 ((x7_1.length : Int) - 1)) - (wrap64 (r5.2 * r6.2))))), .lit (.int .i64 (wrap64 ((wrap64 ((x7_1.length : Int) - 1)) - (wrap64 (r5.2 * r6.2)))))] S ∧ Same S0 S [i0] ∧ OutT S0 [i0] (PV.id? pv30).toList ∧ OutT S0 [i0] (PV.ptr i2 0).id?.toList ∧ Ap (.ptr i0 0) pv30 ∧ Ap (.ptr i0 0) (.ptr i2 0) ∧ Ap pv30 (.ptr i2 0)) ?_ fun hk2 => ?_
   ·
    rintro tm S ⟨kq2, x2q15_1, pv30, i2, H, hle, hh, h121, h122, h123, h124, o3, o4, ap32, ap33, ap34⟩
    rw [hh.eq]
    refine Evr.regionN rfl (Opl.p1 (n := Opl.ldb (v := .agg [.lit (.int .i64 x9q6_1), .lit (.int .i64 0), .lit (.int .i64 (wrap64 ((wrap64 ((x7_1.length : Int) - 1)) - (wrap64 (r5.2 * r6.2))))), .lit (.int .i64 (wrap64 ((wrap64 ((x7_1.length : Int) - 1)) - (wrap64 (r5.2 * r6.2)))))]) h123 rfl T64 rfl rfl rfl rfl (Opl.liti (M := cITime) (ys := [(⟨x9q6_1, 0, (wrap64 ((wrap64 ((x7_1.length : Int) - 1)) - (wrap64 (r5.2 * r6.2)))), (wrap64 ((wrap64 ((x7_1.length : Int) - 1)) - (wrap64 (r5.2 * r6.2))))⟩ : ITime)]) [.tmp 80] K28 T64 rfl rfl rfl (by exact ⟨cITime_mk, trivial⟩) rfl (by decide) rfl rfl ?_)))
    rintro pv32 h125
    obtain _ | k28 := kq2
    · simp [spec_l20Draw.j10] at H
    simp only [spec_l20Draw.j10] at H
    obtain _ | k29 := k28
    · simp [spec_l20Draw.j6] at H
    simp only [spec_l20Draw.j6] at H
    obtain _ | k30 := k29
    · simp [spec_l20Draw.j3] at H
    simp only [spec_l20Draw.j3] at H
    obtain ⟨c20, H⟩ := peel H
    refine Opl.app (M := cITime) (xs := x7_1) (ys := [(⟨x9q6_1, 0, (wrap64 ((wrap64 ((x7_1.length : Int) - 1)) - (wrap64 (r5.2 * r6.2)))), (wrap64 ((wrap64 ((x7_1.length : Int) - 1)) - (wrap64 (r5.2 * r6.2))))⟩ : ITime)]) (v := pv30) h122 (.sl h125) oITime rfl rfl K28 T64 rfl rfl (by (try simp only [List.length_cons, List.length_nil]); omega) (by show (_ + _) * 32 ≤ 140737488355328; (try simp only [List.length_cons, List.length_nil]); omega) rfl rfl rfl rfl rfl ?_
    rintro pv33 S h126 u28 w21
    have ap35 := w21.box h121
    have h127 := u28.box h121 ap32
    have ap36 := w21.box h123
    have h128 := u28.box h123 ap34.symm
    have ap37 := w21.sameP h124
    have h129 := u28.sameP h124 o3
    refine Opl.p1 (n := Opl.nil (Evr.inBlock (Evr.regionN rfl (Opl.p1 (n := Opl.subi (k := .i64) (a := x8_1) (b := 1) K3 rfl rfl rfl rfl (Opl.one (v := .lit (.int .i64 (wrap64 (x8_1 - 1)))) rfl rfl rfl (Opl.nil ?_)))))))
    exact ih1 _ (by omega) _ _ ⟨by omega, _, _, _, _, _, H, ⟨rfl, rfl, rfl, rfl, rfl, trivial⟩, h127, h126, h129, ap37, ap35⟩
   ·
    by_cases c21 : x9q6_1 ≥ 5
    case neg =>
     rw [if_neg c21] at H
     have e20 : (decide (x9q6_1 ≥ 5)) = false := by simpa using c21
     try rw [e20]
     refine Evr.condF rfl (Evr.skip ?_)
     exact hk2 _ _ ⟨_, _, _, _, H, by omega, ⟨rfl, rfl, rfl, rfl, rfl, rfl, trivial⟩, h118, h119, h117, h120, o2, ap7, ap4, ap5, ap6⟩
    rw [if_pos c21] at H
    have e19 : (decide (x9q6_1 ≥ 5)) = true := by simpa using c21
    try rw [e19]
    refine Evr.condT rfl (Evr.regionN rfl (Opl.one (v := .lit (.int .i64 x2q8_1)) rfl rfl rfl (Opl.subi (k := .i64) (a := x2q8_1) (b := 1) K3 rfl rfl rfl rfl (Opl.one (v := .lit (.int .i64 (wrap64 (x2q8_1 - 1)))) rfl rfl rfl (Opl.nil ?_)))))
    exact hk2 _ _ ⟨_, _, _, _, H, by omega, ⟨rfl, rfl, rfl, rfl, rfl, rfl, trivial⟩, h118, h119, h117, h120, o2, ap7, ap4, ap5, ap6⟩
  ·
   by_cases c24 : x2q8_1 = 0
   case neg =>
    rw [if_neg c24] at H
    have e24 : (x2q8_1 == 0) = false := by simpa using c24
    try rw [e24]
    refine Evr.condF rfl (Evr.skip ?_)
    exact hk1 _ _ ⟨_, _, _, H, by omega, ⟨rfl, rfl, rfl, rfl, rfl, rfl, trivial⟩, h11, h12, h13, o1, ap3⟩
   rw [if_pos c24] at H
   have e23 : (x2q8_1 == 0) = true := by simpa using c24
   try rw [e23]
   refine Evr.condT rfl (Evr.regionN rfl (Opl.p1 (n := Opl.nil ?_)))
   exact hk1 _ _ ⟨_, _, _, H, by omega, ⟨rfl, rfl, rfl, rfl, rfl, rfl, trivial⟩, h11, h12, h13, o1, ap3⟩
theorem spec_l20Any.evb {k : Nat} {S0 : Sto} {l0_0 : List Int} {a0_1 : Int} {i0 : Abs.Id} {q0 : PV} (hq0 : Sl (cInt .u8) l0_0 q0) (hb0 : Box (.ptr i0 0) [q0, .lit (.int .i64 a0_1)] S0) {a1 : Int} {a2 : Int} {r : Int × (List ITime)} (H : spec_l20Any.f k l0_0 a0_1 a1 a2 = some r) : RetS Try.prog 123 [.ptr i0 0, .lit (.int .i64 a1), .lit (.int .i64 a2)] S0 fun v S => Sl cITime r.2 v ∧ Box (.ptr i0 0) [q0, .lit (.int .i64 r.1)] S ∧ Same S0 S [i0] := by
 have hs0 : Same S0 S0 [i0] := .refl _ _
 unfold spec_l20Any.f at H
 refine RetS.intro Try.func123 rfl (Nat.le_of_ble_eq_true rfl) rfl ?_
 rw [tm3]
 refine Evr.sr rfl (Opl.p1 (n := Opl.nil (Evr.sr rfl (Opl.p1 (n := Opl.p1 (n := Opl.p1 (n := ?_)))))))
 obtain ⟨r1, h_r1, H⟩ := Option.bind_eq_some_iff.1 H
 refine Opl.calls (spec_l20Draw.evb hq0 hb0 h_r1) rfl rfl rfl rfl rfl ?_
 rintro pv1 S ⟨h1, w1, h2, u1⟩
 have h3 := u1.sameP hs0 OutT.box
 have ap1 := w1.sameP hs0
 have ap2 := w1.box hb0
 refine Opl.p1 (n := Opl.nil (Evr.seq (Evr.sr rfl (Opl.p1 (n := ?_)))))
 obtain ⟨r2, h_r2, H⟩ := Option.bind_eq_some_iff.1 H
 refine Opl.calls (spec_l40Rd_pick.evb hq0 h2 h_r2) rfl rfl rfl rfl rfl ?_
 rintro _ S ⟨rfl, h4, u2⟩
 have h5 := u2.sameP h3 OutT.box
 have h6 := u2.vec h1 (ap2.symm).pt
 refine Opl.p1 (n := Opl.nil ?_)
 by_cases c1 : r2.2 = 0
 case neg =>
  rw [if_neg c1] at H
  have e8 : (r2.2 == 0) = false := by simpa using c1
  try rw [e8]
  refine Evr.condF rfl (Evr.skip (Evr.sr rfl (Opl.p1 (n := Opl.p1 (n := Opl.nil ?_)))))
  refine Evr.frz 6 h6 rfl ?_
  rintro pv14 S h101 u23
  have h102 := u23.sameP h5 ap1
  have h103 := u23.box h4 ap2
  obtain rfl := Option.some.inj H
  refine Evr.ret1 Try.func123 rfl ?_
  exact ⟨h101, h103, h102⟩
 rw [if_pos c1] at H
 have e1 : (r2.2 == 0) = true := by simpa using c1
 try rw [e1]
 refine Evr.condT rfl (Evr.sr rfl (Opl.p1 (n := Opl.p1 (n := Opl.lenv (xs := r1.2) (by exact h6) K28 rfl rfl rfl rfl ?_))))
 obtain ⟨r3, h_r3, H⟩ := Option.bind_eq_some_iff.1 H
 refine Opl.calls (spec_l40Rd_pick.evb hq0 h4 h_r3) rfl rfl rfl rfl rfl ?_
 rintro _ S ⟨rfl, h7, u3⟩
 have h8 := u3.sameP h5 OutT.box
 have h9 := u3.vec h6 (ap2.symm).pt
 refine Opl.p1 (n := Opl.nil (Evr.sr rfl (Opl.p1 (n := Opl.p1 (n := ?_)))))
 obtain ⟨c2, H⟩ := peel H
 obtain ⟨c3, H⟩ := peel H
 refine Opl.idv (M := cITime) (xs := r1.2) (j := r3.2) (v := pv1) h9 rfl rfl (by omega) (by omega) K28 Z64 rfl rfl ?_
 rintro d1 z1 q1 h10 h11
 refine Opl.ldv (M := cITime) (xs := r1.2) (j := r3.2) zITime h10 h11 (by omega) (by omega) rfl T64 rfl rfl rfl ?_
 rintro p1 q2 h12
 obtain rfl := cITime_R (x := (rd_ITime r1.2 r3.2)) h12
 refine ⟨.agg [.lit (.int .i64 ((rd_ITime r1.2 r3.2).f0)), .lit (.int .i64 ((rd_ITime r1.2 r3.2).f1)), .lit (.int .i64 ((rd_ITime r1.2 r3.2).f2)), .lit (.int .i64 ((rd_ITime r1.2 r3.2).f3))], rfl, ?_⟩
 refine Opl.alloc T64 rfl rfl rfl ?_
 rintro i1 S h13 u4 w2
 have ap3 := w2.sameP h8
 have h14 := u4.sameP h8 ap3
 have ap4 := w2.box h7
 have h15 := u4.box h7 ap4
 have ap5 := w2.vec h9
 have h16 := u4.vec h9 ap5
 refine Opl.stb (vs := [.lit (.int .i64 ((rd_ITime r1.2 r3.2).f0)), .lit (.int .i64 ((rd_ITime r1.2 r3.2).f1)), .lit (.int .i64 ((rd_ITime r1.2 r3.2).f2)), .lit (.int .i64 ((rd_ITime r1.2 r3.2).f3))]) h13 rfl rfl Z64 rfl (Nat.le_of_ble_eq_true rfl) rfl rfl rfl rfl ?_
 rintro S (h17 : Box (.ptr i1 0) [.lit (.int .i64 ((rd_ITime r1.2 r3.2).f0)), .lit (.int .i64 ((rd_ITime r1.2 r3.2).f1)), .lit (.int .i64 ((rd_ITime r1.2 r3.2).f2)), .lit (.int .i64 ((rd_ITime r1.2 r3.2).f3))] _) u5
 have h18 := u5.sameP h14 ap3
 have h19 := u5.box h15 ap4
 have h20 := u5.vec h16 ap5
 refine Opl.nil (Evr.sr rfl (Opl.p1 (n := ?_)))
 obtain ⟨r4, h_r4, H⟩ := Option.bind_eq_some_iff.1 H
 refine Opl.calls (spec_l40Rd_pick.evb hq0 h19 h_r4) rfl rfl rfl rfl rfl ?_
 rintro _ S ⟨rfl, h21, u6⟩
 have h22 := u6.sameP h18 OutT.box
 have h23 := u6.vec h20 (ap2.symm).pt
 have h24 := u6.box h17 (ap4.symm).pt
 refine Opl.p1 (n := Opl.nil (Evr.seq (Evr.sr rfl (Opl.p1 (n := Opl.p1 (n := Opl.nil ?_))))))
 by_cases c4 : r4.2 = 0
 case pos =>
  rw [if_pos c4] at H
  have e2 : (r4.2 == 0) = true := by simpa using c4
  try rw [e2]
  refine Evr.condT rfl (Evr.regionN rfl (Opl.p1 (n := Opl.liti (M := (cInt .i64)) (ys := [(-1), 8, 2, 6]) [.const (.int .i64 (-1)), .const (.int .i64 8), .const (.int .i64 2), .const (.int .i64 6)] K26 T3 rfl rfl rfl (by exact ⟨rfl, rfl, rfl, rfl, trivial⟩) rfl (by decide) rfl rfl ?_)))
  rintro pv3 h25
  obtain ⟨r5, h_r5, H⟩ := Option.bind_eq_some_iff.1 H
  refine Opl.calls (spec_l40Rd_num.evb hq0 h21 h25 h_r5) rfl rfl rfl rfl rfl ?_
  rintro _ S ⟨rfl, h26, u7⟩
  have h27 := u7.sameP h22 OutT.box
  have h28 := u7.vec h23 (ap2.symm).pt
  have h29 := u7.box h24 (ap4.symm).pt
  refine Opl.p1 (v := .ptr i1 0) (n := ?_)
  obtain _ | k1 := k
  · simp [spec_l20Any.j1] at H
  simp only [spec_l20Any.j1] at H
  obtain ⟨c5, H⟩ := peel H
  obtain ⟨c6, H⟩ := peel H
  refine Opl.stb (vs := [.lit (.int .i64 r5.2)]) h29 rfl rfl Z3 rfl (Nat.le_of_ble_eq_true rfl) rfl rfl rfl rfl ?_
  rintro S (h30 : Box (.ptr i1 0) [.lit (.int .i64 r5.2), .lit (.int .i64 ((rd_ITime r1.2 r3.2).f1)), .lit (.int .i64 ((rd_ITime r1.2 r3.2).f2)), .lit (.int .i64 ((rd_ITime r1.2 r3.2).f3))] _) u8
  have h31 := u8.sameP h27 ap3
  have h32 := u8.box h26 ap4
  have h33 := u8.vec h28 ap5
  refine Opl.nil (Evr.regionN rfl (Opl.p1 (n := Opl.p1 (n := Opl.ldb (v := .agg [.lit (.int .i64 r5.2), .lit (.int .i64 ((rd_ITime r1.2 r3.2).f1)), .lit (.int .i64 ((rd_ITime r1.2 r3.2).f2)), .lit (.int .i64 ((rd_ITime r1.2 r3.2).f3))]) h30 rfl T64 rfl rfl rfl rfl (Opl.idv (M := cITime) (xs := r1.2) (j := r3.2) (v := pv1) h33 rfl rfl (by omega) (by omega) K28 Z64 rfl rfl ?_)))))
  rintro d2 z2 q3 h34 h35
  refine Opl.stv (M := cITime) (xs := r1.2) (j := r3.2) (y := (⟨r5.2, ((rd_ITime r1.2 r3.2).f1), ((rd_ITime r1.2 r3.2).f2), ((rd_ITime r1.2 r3.2).f3)⟩ : ITime)) (vs := [.lit (.int .i64 r5.2), .lit (.int .i64 ((rd_ITime r1.2 r3.2).f1)), .lit (.int .i64 ((rd_ITime r1.2 r3.2).f2)), .lit (.int .i64 ((rd_ITime r1.2 r3.2).f3))]) h34 h35 (by omega) (by omega) rfl rfl (by exact cITime_mk) Z64 rfl rfl rfl rfl ?_
  rw [← q3]
  rintro S h36 u9
  have h37 := u9.sameP h31 ap1
  have h38 := u9.box h32 ap2
  have h39 := u9.box h30 ap5.symm
  refine Opl.nil (Evr.sr rfl (Opl.p1 (n := Opl.p1 (n := Opl.nil ?_))))
  refine Evr.frz 6 h36 rfl ?_
  rintro pv4 S h40 u10
  have h41 := u10.sameP h37 ap1
  have h42 := u10.box h38 ap2
  have h43 := u10.box h39 ap5.symm
  obtain rfl := Option.some.inj H
  refine Evr.ret1 Try.func123 rfl ?_
  exact ⟨h40, h42, h41⟩
 rw [if_neg c4] at H
 have e3 : (r4.2 == 0) = false := by simpa using c4
 try rw [e3]
 refine Evr.condF rfl (Evr.sr rfl (Opl.p1 (n := Opl.p1 (n := Opl.nil ?_))))
 by_cases c7 : r4.2 = 1
 case pos =>
  rw [if_pos c7] at H
  have e4 : (r4.2 == 1) = true := by simpa using c7
  try rw [e4]
  refine Evr.condT rfl (Evr.regionN rfl (Opl.p1 (n := Opl.p1 (n := Opl.liti (M := (cInt .i64)) (ys := [a1, (-1), 1]) [.tmp 37, .const (.int .i64 (-1)), .const (.int .i64 1)] K26 T3 rfl rfl rfl (by exact ⟨rfl, rfl, rfl, trivial⟩) rfl (by decide) rfl rfl ?_))))
  rintro pv6 h44
  obtain ⟨r6, h_r6, H⟩ := Option.bind_eq_some_iff.1 H
  refine Opl.calls (spec_l40Rd_num.evb hq0 h21 h44 h_r6) rfl rfl rfl rfl rfl ?_
  rintro _ S ⟨rfl, h45, u11⟩
  have h46 := u11.sameP h22 OutT.box
  have h47 := u11.vec h23 (ap2.symm).pt
  have h48 := u11.box h24 (ap4.symm).pt
  refine Opl.p1 (v := .ptr i1 1) (n := ?_)
  obtain _ | k2 := k
  · simp [spec_l20Any.j2] at H
  simp only [spec_l20Any.j2] at H
  obtain _ | k3 := k2
  · simp [spec_l20Any.j1] at H
  simp only [spec_l20Any.j1] at H
  obtain ⟨c8, H⟩ := peel H
  obtain ⟨c9, H⟩ := peel H
  refine Opl.stb (vs := [.lit (.int .i64 r6.2)]) h48 rfl rfl Z3 rfl (Nat.le_of_ble_eq_true rfl) rfl rfl rfl rfl ?_
  rintro S (h49 : Box (.ptr i1 0) [.lit (.int .i64 ((rd_ITime r1.2 r3.2).f0)), .lit (.int .i64 r6.2), .lit (.int .i64 ((rd_ITime r1.2 r3.2).f2)), .lit (.int .i64 ((rd_ITime r1.2 r3.2).f3))] _) u12
  have h50 := u12.sameP h46 ap3
  have h51 := u12.box h45 ap4
  have h52 := u12.vec h47 ap5
  refine Opl.nil (Evr.regionN rfl (Opl.p1 (n := Opl.p1 (n := Opl.ldb (v := .agg [.lit (.int .i64 ((rd_ITime r1.2 r3.2).f0)), .lit (.int .i64 r6.2), .lit (.int .i64 ((rd_ITime r1.2 r3.2).f2)), .lit (.int .i64 ((rd_ITime r1.2 r3.2).f3))]) h49 rfl T64 rfl rfl rfl rfl (Opl.idv (M := cITime) (xs := r1.2) (j := r3.2) (v := pv1) h52 rfl rfl (by omega) (by omega) K28 Z64 rfl rfl ?_)))))
  rintro d3 z3 q4 h53 h54
  refine Opl.stv (M := cITime) (xs := r1.2) (j := r3.2) (y := (⟨((rd_ITime r1.2 r3.2).f0), r6.2, ((rd_ITime r1.2 r3.2).f2), ((rd_ITime r1.2 r3.2).f3)⟩ : ITime)) (vs := [.lit (.int .i64 ((rd_ITime r1.2 r3.2).f0)), .lit (.int .i64 r6.2), .lit (.int .i64 ((rd_ITime r1.2 r3.2).f2)), .lit (.int .i64 ((rd_ITime r1.2 r3.2).f3))]) h53 h54 (by omega) (by omega) rfl rfl (by exact cITime_mk) Z64 rfl rfl rfl rfl ?_
  rw [← q4]
  rintro S h55 u13
  have h56 := u13.sameP h50 ap1
  have h57 := u13.box h51 ap2
  have h58 := u13.box h49 ap5.symm
  refine Opl.nil (Evr.sr rfl (Opl.p1 (n := Opl.p1 (n := Opl.nil ?_))))
  refine Evr.frz 6 h55 rfl ?_
  rintro pv7 S h59 u14
  have h60 := u14.sameP h56 ap1
  have h61 := u14.box h57 ap2
  have h62 := u14.box h58 ap5.symm
  obtain rfl := Option.some.inj H
  refine Evr.ret1 Try.func123 rfl ?_
  exact ⟨h59, h61, h60⟩
 rw [if_neg c7] at H
 have e5 : (r4.2 == 1) = false := by simpa using c7
 try rw [e5]
 refine Evr.condF rfl (Evr.sr rfl (Opl.p1 (n := Opl.p1 (n := Opl.nil ?_))))
 by_cases c10 : r4.2 = 2
 case pos =>
  rw [if_pos c10] at H
  have e6 : (r4.2 == 2) = true := by simpa using c10
  try rw [e6]
  refine Evr.condT rfl (Evr.regionN rfl (Opl.p1 (n := Opl.p1 (n := Opl.liti (M := (cInt .i64)) (ys := [r3.2, (-1)]) [.tmp 44, .const (.int .i64 (-1))] K26 T3 rfl rfl rfl (by exact ⟨rfl, rfl, trivial⟩) rfl (by decide) rfl rfl ?_))))
  rintro pv9 h63
  obtain ⟨r7, h_r7, H⟩ := Option.bind_eq_some_iff.1 H
  refine Opl.calls (spec_l40Rd_num.evb hq0 h21 h63 h_r7) rfl rfl rfl rfl rfl ?_
  rintro _ S ⟨rfl, h64, u15⟩
  have h65 := u15.sameP h22 OutT.box
  have h66 := u15.vec h23 (ap2.symm).pt
  have h67 := u15.box h24 (ap4.symm).pt
  refine Opl.p1 (v := .ptr i1 2) (n := ?_)
  obtain _ | k4 := k
  · simp [spec_l20Any.j3] at H
  simp only [spec_l20Any.j3] at H
  obtain _ | k5 := k4
  · simp [spec_l20Any.j2] at H
  simp only [spec_l20Any.j2] at H
  obtain _ | k6 := k5
  · simp [spec_l20Any.j1] at H
  simp only [spec_l20Any.j1] at H
  obtain ⟨c11, H⟩ := peel H
  obtain ⟨c12, H⟩ := peel H
  refine Opl.stb (vs := [.lit (.int .i64 r7.2)]) h67 rfl rfl Z3 rfl (Nat.le_of_ble_eq_true rfl) rfl rfl rfl rfl ?_
  rintro S (h68 : Box (.ptr i1 0) [.lit (.int .i64 ((rd_ITime r1.2 r3.2).f0)), .lit (.int .i64 ((rd_ITime r1.2 r3.2).f1)), .lit (.int .i64 r7.2), .lit (.int .i64 ((rd_ITime r1.2 r3.2).f3))] _) u16
  have h69 := u16.sameP h65 ap3
  have h70 := u16.box h64 ap4
  have h71 := u16.vec h66 ap5
  refine Opl.nil (Evr.regionN rfl (Opl.p1 (n := Opl.p1 (n := Opl.ldb (v := .agg [.lit (.int .i64 ((rd_ITime r1.2 r3.2).f0)), .lit (.int .i64 ((rd_ITime r1.2 r3.2).f1)), .lit (.int .i64 r7.2), .lit (.int .i64 ((rd_ITime r1.2 r3.2).f3))]) h68 rfl T64 rfl rfl rfl rfl (Opl.idv (M := cITime) (xs := r1.2) (j := r3.2) (v := pv1) h71 rfl rfl (by omega) (by omega) K28 Z64 rfl rfl ?_)))))
  rintro d4 z4 q5 h72 h73
  refine Opl.stv (M := cITime) (xs := r1.2) (j := r3.2) (y := (⟨((rd_ITime r1.2 r3.2).f0), ((rd_ITime r1.2 r3.2).f1), r7.2, ((rd_ITime r1.2 r3.2).f3)⟩ : ITime)) (vs := [.lit (.int .i64 ((rd_ITime r1.2 r3.2).f0)), .lit (.int .i64 ((rd_ITime r1.2 r3.2).f1)), .lit (.int .i64 r7.2), .lit (.int .i64 ((rd_ITime r1.2 r3.2).f3))]) h72 h73 (by omega) (by omega) rfl rfl (by exact cITime_mk) Z64 rfl rfl rfl rfl ?_
  rw [← q5]
  rintro S h74 u17
  have h75 := u17.sameP h69 ap1
  have h76 := u17.box h70 ap2
  have h77 := u17.box h68 ap5.symm
  refine Opl.nil (Evr.sr rfl (Opl.p1 (n := Opl.p1 (n := Opl.nil ?_))))
  refine Evr.frz 6 h74 rfl ?_
  rintro pv10 S h78 u18
  have h79 := u18.sameP h75 ap1
  have h80 := u18.box h76 ap2
  have h81 := u18.box h77 ap5.symm
  obtain rfl := Option.some.inj H
  refine Evr.ret1 Try.func123 rfl ?_
  exact ⟨h78, h80, h79⟩
 rw [if_neg c10] at H
 have e7 : (r4.2 == 2) = false := by simpa using c10
 try rw [e7]
 refine Evr.condF rfl (Evr.regionN rfl (Opl.p1 (n := Opl.p1 (n := Opl.liti (M := (cInt .i64)) (ys := [r3.2, (-1), 0]) [.tmp 49, .const (.int .i64 (-1)), .const (.int .i64 0)] K26 T3 rfl rfl rfl (by exact ⟨rfl, rfl, rfl, trivial⟩) rfl (by decide) rfl rfl ?_))))
 rintro pv12 h82
 obtain ⟨r8, h_r8, H⟩ := Option.bind_eq_some_iff.1 H
 refine Opl.calls (spec_l40Rd_num.evb hq0 h21 h82 h_r8) rfl rfl rfl rfl rfl ?_
 rintro _ S ⟨rfl, h83, u19⟩
 have h84 := u19.sameP h22 OutT.box
 have h85 := u19.vec h23 (ap2.symm).pt
 have h86 := u19.box h24 (ap4.symm).pt
 refine Opl.p1 (v := .ptr i1 3) (n := ?_)
 obtain _ | k7 := k
 · simp [spec_l20Any.j3] at H
 simp only [spec_l20Any.j3] at H
 obtain _ | k8 := k7
 · simp [spec_l20Any.j2] at H
 simp only [spec_l20Any.j2] at H
 obtain _ | k9 := k8
 · simp [spec_l20Any.j1] at H
 simp only [spec_l20Any.j1] at H
 obtain ⟨c13, H⟩ := peel H
 obtain ⟨c14, H⟩ := peel H
 refine Opl.stb (vs := [.lit (.int .i64 r8.2)]) h86 rfl rfl Z3 rfl (Nat.le_of_ble_eq_true rfl) rfl rfl rfl rfl ?_
 rintro S (h87 : Box (.ptr i1 0) [.lit (.int .i64 ((rd_ITime r1.2 r3.2).f0)), .lit (.int .i64 ((rd_ITime r1.2 r3.2).f1)), .lit (.int .i64 ((rd_ITime r1.2 r3.2).f2)), .lit (.int .i64 r8.2)] _) u20
 have h88 := u20.sameP h84 ap3
 have h89 := u20.box h83 ap4
 have h90 := u20.vec h85 ap5
 refine Opl.nil (Evr.regionN rfl (Opl.p1 (n := Opl.p1 (n := Opl.ldb (v := .agg [.lit (.int .i64 ((rd_ITime r1.2 r3.2).f0)), .lit (.int .i64 ((rd_ITime r1.2 r3.2).f1)), .lit (.int .i64 ((rd_ITime r1.2 r3.2).f2)), .lit (.int .i64 r8.2)]) h87 rfl T64 rfl rfl rfl rfl (Opl.idv (M := cITime) (xs := r1.2) (j := r3.2) (v := pv1) h90 rfl rfl (by omega) (by omega) K28 Z64 rfl rfl ?_)))))
 rintro d5 z5 q6 h91 h92
 refine Opl.stv (M := cITime) (xs := r1.2) (j := r3.2) (y := (⟨((rd_ITime r1.2 r3.2).f0), ((rd_ITime r1.2 r3.2).f1), ((rd_ITime r1.2 r3.2).f2), r8.2⟩ : ITime)) (vs := [.lit (.int .i64 ((rd_ITime r1.2 r3.2).f0)), .lit (.int .i64 ((rd_ITime r1.2 r3.2).f1)), .lit (.int .i64 ((rd_ITime r1.2 r3.2).f2)), .lit (.int .i64 r8.2)]) h91 h92 (by omega) (by omega) rfl rfl (by exact cITime_mk) Z64 rfl rfl rfl rfl ?_
 rw [← q6]
 rintro S h93 u21
 have h94 := u21.sameP h88 ap1
 have h95 := u21.box h89 ap2
 have h96 := u21.box h87 ap5.symm
 refine Opl.nil (Evr.sr rfl (Opl.p1 (n := Opl.p1 (n := Opl.nil ?_))))
 refine Evr.frz 6 h93 rfl ?_
 rintro pv13 S h97 u22
 have h98 := u22.sameP h94 ap1
 have h99 := u22.box h95 ap2
 have h100 := u22.box h96 ap5.symm
 obtain rfl := Option.some.inj H
 refine Evr.ret1 Try.func123 rfl ?_
 exact ⟨h97, h99, h98⟩
theorem spec_l21Small.evb {k : Nat} {S0 : Sto} {l0_0 : List Int} {a0_1 : Int} {i0 : Abs.Id} {q0 : PV} (hq0 : Sl (cInt .u8) l0_0 q0) (hb0 : Box (.ptr i0 0) [q0, .lit (.int .i64 a0_1)] S0) {a1 : Int} {r : Int × (List ITime)} (H : spec_l21Small.f k l0_0 a0_1 a1 = some r) : RetS Try.prog 108 [.ptr i0 0, .lit (.int .i64 a1)] S0 fun v S => Sl cITime r.2 v ∧ Box (.ptr i0 0) [q0, .lit (.int .i64 r.1)] S ∧ Same S0 S [i0] := by
 have hs0 : Same S0 S0 [i0] := .refl _ _
 unfold spec_l21Small.f at H
 refine RetS.intro Try.func108 rfl (Nat.le_of_ble_eq_true rfl) rfl ?_
 rw [tm2]
 refine Evr.sr rfl (Opl.p1 (n := Opl.nil (Evr.sr rfl (Opl.p1 (n := Opl.p1 (n := Opl.p1 (n := ?_)))))))
 obtain ⟨r1, h_r1, H⟩ := Option.bind_eq_some_iff.1 H
 refine Opl.calls (spec_l40Rd_pick.evb hq0 hb0 h_r1) rfl rfl rfl rfl rfl ?_
 rintro _ S ⟨rfl, h1, u1⟩
 have h2 := u1.sameP hs0 OutT.box
 refine Opl.add (k := .i64) (a := 1) (b := r1.2) K3 rfl rfl rfl rfl ?_
 obtain ⟨r2, h_r2, H⟩ := Option.bind_eq_some_iff.1 H
 refine Opl.calls (spec_l20Any.evb hq0 h1 h_r2) rfl rfl rfl rfl rfl ?_
 rintro pv1 S ⟨h3, h4, u2⟩
 have h5 := u2.sameP h2 OutT.box
 refine Opl.one (v := pv1) rfl rfl rfl (Opl.nil ?_)
 obtain rfl := Option.some.inj H
 refine Evr.ret1 Try.func108 rfl ?_
 exact ⟨h3, h4, h5⟩
theorem spec_l40Open.evb {k : Nat} {S0 : Sto} {l0 : List Int} {v0 : PV} (hv0 : Sl (cInt .u8) l0 v0) {r : (List Int × Int)} (H : spec_l40Open.f k l0 = some r) : RetS Try.prog 106 [v0] S0 fun v S => ∃ jv zv, v = .ptr jv 0 ∧ Sl (cInt .u8) r.1 zv ∧ Box v [zv, .lit (.int .i64 r.2)] S ∧ New S0 v ∧ Same S0 S [] := by
 have hs0 : Same S0 S0 [] := .refl _ _
 unfold spec_l40Open.f at H
 refine RetS.intro Try.func106 rfl (Nat.le_of_ble_eq_true rfl) rfl ?_
 rw [tm1]
 refine Evr.sr rfl (Opl.p1 (n := Opl.nil (Evr.seq (Evr.sr rfl (Opl.p1 (n := Opl.len (xs := l0) (by exact hv0) K52 rfl rfl rfl rfl (Opl.p1 (n := Opl.nil ?_))))))))
 by_cases c1 : (l0.length : Int) > 2000
 case neg =>
  rw [if_neg c1] at H
  have e2 : (decide ((l0.length : Int) > 2000)) = false := by simpa using c1
  try rw [e2]
  refine Evr.condF rfl (Evr.skip (Evr.sr rfl (Opl.p1 (n := Opl.one (v := .agg [v0, .lit (.int .i64 0)]) rfl rfl (by simp only [go_sem]; simp only [fillL, Sl.cells hv0]; rfl) (Opl.box (cs := [v0, .lit (.int .i64 0)]) rfl rfl rfl rfl ?_)))))
  rintro i2 S h4 u2 w2
  have ap2 := w2.sameP hs0
  have h5 := u2.sameP hs0 ap2
  refine Opl.p1 (n := Opl.nil ?_)
  obtain rfl := Option.some.inj H
  refine Evr.ret1 Try.func106 rfl ?_
  exact ⟨_, _, rfl, hv0, h4, (OutT.new0 ap2), h5⟩
 rw [if_pos c1] at H
 have e1 : (decide ((l0.length : Int) > 2000)) = true := by simpa using c1
 try rw [e1]
 refine Evr.condT rfl (Evr.regionN rfl (Opl.p1 (n := ?_)))
 obtain ⟨c2, H⟩ := peel H
 refine Opl.slcT (M := (cInt .u8)) (b := 2000) (by exact hv0) rfl  (by omega) (by omega) K52 Z5 rfl rfl rfl ?_
 rintro pv1 h1
 refine Opl.p1 (n := Opl.nil (Evr.sr rfl (Opl.p1 (n := Opl.one (v := .agg [pv1, .lit (.int .i64 0)]) rfl rfl (by simp only [go_sem]; simp only [fillL, Sl.cells h1]; rfl) (Opl.box (cs := [pv1, .lit (.int .i64 0)]) rfl rfl rfl rfl ?_)))))
 rintro i1 S h2 u1 w1
 have ap1 := w1.sameP hs0
 have h3 := u1.sameP hs0 ap1
 refine Opl.p1 (n := Opl.nil ?_)
 obtain rfl := Option.some.inj H
 refine Evr.ret1 Try.func106 rfl ?_
 exact ⟨_, _, rfl, h1, h2, (OutT.new0 ap1), h3⟩
theorem spec_l21On.ev {k : Nat} {l0 : List Int} {v0 : PV} (hv0 : Sl (cInt .u8) l0 v0) {r : (List ITime) × (List (List Int)) × (List (List Int)) × Int} (H : spec_l21On.f k l0 = some r) : Ret Try.prog 62 [v0] fun v S => Out (fun q => ∃ q1 q2 q3 q4, q = .tup [q1, q2, q3, q4] ∧ Sl cITime r.1 q1 ∧ Sl (cSl (cInt .i64)) r.2.1 q2 ∧ Sl (cSl (cInt .i64)) r.2.2.1 q3 ∧ q4 = .lit (.int .i64 r.2.2.2)) v S := by
 unfold spec_l21On.f at H
 refine Ret.intro Try.func62 rfl (Nat.le_of_ble_eq_true rfl) rfl ?_
 rw [tm1]
 refine Evr.sr rfl (Opl.p1 (n := Opl.p1 (n := Opl.p1 (n := Opl.p1 (n := Opl.nil (Evr.sr rfl (Opl.p1 (n := ?_))))))))
 obtain ⟨r1, h_r1, H⟩ := Option.bind_eq_some_iff.1 H
 refine Opl.calls (spec_l40Open.evb hv0 h_r1) rfl rfl rfl rfl rfl ?_
 rintro _ S ⟨i1, pv1, rfl, h1, h2, w1, u1⟩
 refine Opl.p1 (n := Opl.nil (Evr.sr rfl (Opl.p1 (n := Opl.liti (M := (cInt .i64)) (ys := [1, 2, 1]) [.const (.int .i64 1), .const (.int .i64 2), .const (.int .i64 1)] K26 T3 rfl rfl rfl (by exact ⟨rfl, rfl, rfl, trivial⟩) rfl (by decide) rfl rfl ?_))))
 rintro pv3 h4
 obtain ⟨r2, h_r2, H⟩ := Option.bind_eq_some_iff.1 H
 refine Opl.calls (spec_l40Rd_num.evb h1 h2 h4 h_r2) rfl rfl rfl rfl rfl ?_
 rintro _ S ⟨rfl, h5, u2⟩
 refine Opl.p1 (n := Opl.nil (Evr.sr rfl (Opl.p1 (n := Opl.p1 (n := ?_)))))
 obtain ⟨r3, h_r3, H⟩ := Option.bind_eq_some_iff.1 H
 refine Opl.calls (spec_l21Small.evb h1 h5 h_r3) rfl rfl rfl rfl rfl ?_
 rintro pv4 S ⟨h6, h7, u3⟩
 refine Opl.p1 (n := Opl.nil (Evr.sr rfl (Opl.p1 (n := Opl.p1 (n := Opl.p1 (n := ?_))))))
 obtain ⟨r4, h_r4, H⟩ := Option.bind_eq_some_iff.1 H
 refine Opl.calls (spec_l40Rd_pick.evb h1 h7 h_r4) rfl rfl rfl rfl rfl ?_
 rintro _ S ⟨rfl, h8, u4⟩
 obtain ⟨r5, h_r5, H⟩ := Option.bind_eq_some_iff.1 H
 refine Opl.calls (spec_l20Word.evb h1 h8 h_r5) rfl rfl rfl rfl rfl ?_
 rintro pv5 S ⟨h9, h10, u5⟩
 refine Opl.p1 (n := Opl.nil (Evr.sr rfl (Opl.p1 (n := Opl.p1 (n := Opl.p1 (n := ?_))))))
 obtain ⟨r6, h_r6, H⟩ := Option.bind_eq_some_iff.1 H
 refine Opl.calls (spec_l40Rd_pick.evb h1 h10 h_r6) rfl rfl rfl rfl rfl ?_
 rintro _ S ⟨rfl, h11, u6⟩
 refine Opl.add (k := .i64) (a := 1) (b := r6.2) K3 rfl rfl rfl rfl ?_
 obtain ⟨r7, h_r7, H⟩ := Option.bind_eq_some_iff.1 H
 refine Opl.calls (spec_l20Word.evb h1 h11 h_r7) rfl rfl rfl rfl rfl ?_
 rintro pv6 S ⟨h12, h13, u7⟩
 refine Opl.one (v := pv6) rfl rfl rfl (Opl.nil (Evr.seq (Evr.sr rfl (Opl.one (v := .ptr i1 0) rfl rfl rfl ?_))))
 obtain ⟨r8, h_r8, H⟩ := Option.bind_eq_some_iff.1 H
 refine Opl.calls (spec_l40Rd_pick.evb h1 h13 h_r8) rfl rfl rfl rfl rfl ?_
 rintro _ S ⟨rfl, h14, u8⟩
 refine Opl.p1 (n := Opl.nil ?_)
 refine Evr.join (fun tm S => ∃ (kq1 : Nat) (x10_1 : List (List Int)) (pv7 : PV), spec_l21On.j1 kq1 x10_1 r2 r3 r5 = some r ∧ Has tm [(7, .lit (.int .i64 r2.2)), (8, pv4), (9, pv5), (10, pv7)] ∧ Sl (cSl (cInt .i64)) x10_1 pv7) ?_ fun hk1 => ?_
 ·
  rintro tm S ⟨kq1, x10_1, pv7, H, hh, h15⟩
  rw [hh.eq]
  refine Evr.sr rfl (Opl.p1 (n := Opl.p1 (n := Opl.p1 (n := Opl.p1 (n := Opl.p1 (n := Opl.p1 (n := Opl.p1 (n := Opl.p1 (n := Opl.nil ?_)))))))))
  obtain _ | k1 := kq1
  · simp [spec_l21On.j1] at H
  simp only [spec_l21On.j1] at H
  obtain rfl := Option.some.inj H
  refine Evr.ret4 Try.func62 rfl ?_
  show Out _ (.tup [pv4, pv5, pv7, .lit (.int .i64 r2.2)]) _
  exact .tup4 (.sl h6) (.sl h9) (.sl h15) .lit
 ·
  by_cases c1 : r8.2 = 0
  case neg =>
   rw [if_neg c1] at H
   have e2 : (r8.2 == 0) = false := by simpa using c1
   try rw [e2]
   refine Evr.condF rfl (Evr.skip ?_)
   exact hk1 _ _ ⟨_, _, _, H, ⟨rfl, rfl, rfl, rfl, trivial⟩, h12⟩
  rw [if_pos c1] at H
  have e1 : (r8.2 == 0) = true := by simpa using c1
  try rw [e1]
  refine Evr.condT rfl (Evr.regionN rfl (Opl.one (v := .lit (.slice none 0 0)) rfl rfl rfl (Opl.nil ?_)))
  exact hk1 _ _ ⟨_, _, _, H, ⟨rfl, rfl, rfl, rfl, trivial⟩, .nil⟩
theorem spec_DrawGuessesAt.ev {k : Nat} {l0 : List Int} {v0 : PV} (hv0 : Sl (cInt .u8) l0 v0) {r : (List ITime) × (List (List Int)) × (List (List Int)) × Int} (H : spec_DrawGuessesAt.f k l0 = some r) : Ret Try.prog 29 [v0] fun v S => Out (fun q => ∃ q1 q2 q3 q4, q = .tup [q1, q2, q3, q4] ∧ Sl cITime r.1 q1 ∧ Sl (cSl (cInt .i64)) r.2.1 q2 ∧ Sl (cSl (cInt .i64)) r.2.2.1 q3 ∧ q4 = .lit (.int .i64 r.2.2.2)) v S := by
 unfold spec_DrawGuessesAt.f at H
 refine Ret.intro Try.func29 rfl (Nat.le_of_ble_eq_true rfl) rfl ?_
 rw [tm1]
 refine Evr.sr rfl (Opl.p1 (n := Opl.p1 (n := Opl.p1 (n := Opl.p1 (n := Opl.nil (Evr.sr rfl (Opl.p1 (n := ?_))))))))
 obtain ⟨r1, h_r1, H⟩ := Option.bind_eq_some_iff.1 H
 refine Opl.call (spec_l21On.ev hv0 h_r1) rfl rfl rfl rfl ⟨hv0.plain, trivial⟩ (by decide) ?_
 rintro _ ⟨pv2, pv3, pv4, _, rfl, h2, h3, h4, rfl⟩
 refine Opl.p1 (v := pv2) (n := Opl.p1 (v := pv3) (n := Opl.p1 (v := pv4) (n := Opl.p1 (v := .lit (.int .i64 r1.2.2.2)) (n := Opl.p1 (n := Opl.p1 (n := Opl.p1 (n := Opl.p1 (n := Opl.nil ?_))))))))
 obtain rfl := Option.some.inj H
 refine Evr.ret4 Try.func29 rfl ?_
 show Out _ (.tup [pv2, pv3, pv4, .lit (.int .i64 r1.2.2.2)]) _
 exact .tup4 (.sl h2) (.sl h3) (.sl h4) .lit
theorem spec_l1In.ev {a0 : Int} {a1 : Int} {a2 : Int} {r : Bool} (H : spec_l1In.f a0 a1 a2 = some r) : Ret Try.prog 82 [.lit (.int .i64 a0), .lit (.int .i64 a1), .lit (.int .i64 a2)] fun v S => v = .lit (.bool r) := by
 unfold spec_l1In.f at H
 refine Ret.intro Try.func82 rfl (Nat.le_of_ble_eq_true rfl) rfl ?_
 rw [tm3]
 refine Evr.sr rfl (Opl.p1 (n := Opl.nil (Evr.sr rfl (Opl.p1 (n := Opl.p1 (n := Opl.p1 (n := Opl.p1 (n := ?_))))))))
 by_cases c1 : a0 ≥ a1
 case neg =>
  rw [if_neg c1] at H
  have e2 : (decide (a0 ≥ a1)) = false := by simpa using c1
  try rw [e2]
  refine Opl.skp rfl (Opl.skp rfl (Opl.skp rfl (Opl.p1 (n := Opl.p1 (n := Opl.nil ?_)))))
  obtain rfl := Option.some.inj H
  refine Evr.ret1 Try.func82 rfl ?_
  show (.lit (.bool false) : PV) = _
  first | rfl | (simp only [go_sem]; rfl)
 rw [if_pos c1] at H
 have e1 : (decide (a0 ≥ a1)) = true := by simpa using c1
 try rw [e1]
 refine Opl.p1 (n := Opl.p1 (n := Opl.p1 (n := Opl.p1 (n := Opl.p1 (n := Opl.nil ?_)))))
 obtain rfl := Option.some.inj H
 refine Evr.ret1 Try.func82 rfl ?_
 show (.lit (.bool (decide (a0 ≤ a2))) : PV) = _
 first | rfl | (simp only [go_sem]; rfl)
theorem spec_l20Step.ev {k : Nat} {a0_0 : Int} {a0_1 : Int} {a0_2 : Int} {a0_3 : Int} {a1 : Int} {a2 : Int} {r : Bool} (H : spec_l20Step.f k a0_0 a0_1 a0_2 a0_3 a1 a2 = some r) : Ret Try.prog 111 [.agg [.lit (.int .i64 a0_0), .lit (.int .i64 a0_1), .lit (.int .i64 a0_2), .lit (.int .i64 a0_3)], .lit (.int .i64 a1), .lit (.int .i64 a2)] fun v S => v = .lit (.bool r) := by
 unfold spec_l20Step.f at H
 refine Ret.intro Try.func111 rfl (Nat.le_of_ble_eq_true rfl) rfl ?_
 rw [tm3]
 refine Evr.sr rfl (Opl.box (cs := [.lit (.int .i64 a0_0), .lit (.int .i64 a0_1), .lit (.int .i64 a0_2), .lit (.int .i64 a0_3)]) rfl rfl rfl rfl ?_)
 rintro i1 S h1 u1 w1
 refine Opl.p1 (n := Opl.nil (Evr.seq (Evr.sr rfl (Opl.p1 (v := .ptr i1 0) (n := Opl.ldb (v := .lit (.int .i64 a0_0)) h1 rfl T3 rfl rfl rfl rfl (Opl.p1 (n := Opl.nil ?_)))))))
 by_cases c1 : a0_0 = 0
 case pos =>
  rw [if_pos c1] at H
  have e1 : (a0_0 == 0) = true := by simpa using c1
  try rw [e1]
  refine Evr.condT rfl (Evr.sr rfl (Opl.p1 (v := .ptr i1 1) (n := Opl.ldb (v := .lit (.int .i64 a0_1)) h1 rfl T3 rfl rfl rfl rfl (Opl.p1 (n := Opl.p1 (n := ?_))))))
  by_cases c2 : a0_1 = 0
  case neg =>
   rw [if_neg c2] at H
   have e5 : (a0_1 == 0) = false := by simpa using c2
   try rw [e5]
   refine Opl.skp rfl (Opl.skp rfl (Opl.skp rfl (Opl.p1 (n := Opl.p1 (n := Opl.skp rfl (Opl.skp rfl (Opl.skp rfl (Opl.p1 (n := Opl.p1 (n := Opl.nil ?_))))))))))
   obtain rfl := Option.some.inj H
   refine Evr.ret1 Try.func111 rfl ?_
   show (.lit (.bool false) : PV) = _
   first | rfl | (simp only [go_sem]; rfl)
  rw [if_pos c2] at H
  have e2 : (a0_1 == 0) = true := by simpa using c2
  try rw [e2]
  refine Opl.p1 (v := .ptr i1 2) (n := Opl.ldb (v := .lit (.int .i64 a0_2)) h1 rfl T3 rfl rfl rfl rfl (Opl.p1 (n := Opl.p1 (n := Opl.p1 (n := ?_)))))
  by_cases c3 : a0_2 = 0
  case neg =>
   rw [if_neg c3] at H
   have e4 : (a0_2 == 0) = false := by simpa using c3
   try rw [e4]
   refine Opl.skp rfl (Opl.skp rfl (Opl.skp rfl (Opl.p1 (n := Opl.p1 (n := Opl.nil ?_)))))
   obtain rfl := Option.some.inj H
   refine Evr.ret1 Try.func111 rfl ?_
   show (.lit (.bool false) : PV) = _
   first | rfl | (simp only [go_sem]; rfl)
  rw [if_pos c3] at H
  have e3 : (a0_2 == 0) = true := by simpa using c3
  try rw [e3]
  refine Opl.p1 (v := .ptr i1 3) (n := Opl.ldb (v := .lit (.int .i64 a0_3)) h1 rfl T3 rfl rfl rfl rfl (Opl.p1 (n := Opl.p1 (n := Opl.p1 (n := Opl.nil ?_)))))
  obtain rfl := Option.some.inj H
  refine Evr.ret1 Try.func111 rfl ?_
  show (.lit (.bool (a0_3 == 0)) : PV) = _
  first | rfl | (simp only [go_sem]; rfl)
 rw [if_neg c1] at H
 have e6 : (a0_0 == 0) = false := by simpa using c1
 try rw [e6]
 refine Evr.condF rfl (Evr.skip (Evr.seq (Evr.sr rfl (Opl.p1 (v := .ptr i1 0) (n := Opl.ldb (v := .lit (.int .i64 a0_0)) h1 rfl T3 rfl rfl rfl rfl (Opl.p1 (n := Opl.nil ?_)))))))
 by_cases c4 : a0_0 = 1
 case pos =>
  rw [if_pos c4] at H
  have e7 : (a0_0 == 1) = true := by simpa using c4
  try rw [e7]
  refine Evr.condT rfl (Evr.sr rfl (Opl.p1 (v := .ptr i1 1) (n := Opl.ldb (v := .lit (.int .i64 a0_1)) h1 rfl T3 rfl rfl rfl rfl (Opl.p1 (n := Opl.subi (k := .i64) (a := a2) (b := 1) K3 rfl rfl rfl rfl ?_)))))
  obtain ⟨t104, h_t104, H⟩ := Option.bind_eq_some_iff.1 H
  refine Opl.callc (spec_l1In.ev h_t104) rfl rfl rfl rfl ⟨(.lit _), (.lit _), (.lit _), trivial⟩ (by decide) (Opl.one (v := .lit (.bool t104)) rfl rfl rfl ?_)
  by_cases c5 : t104 = true
  case neg =>
   rw [if_neg c5] at H
   obtain rfl : t104 = false := by simpa using c5
   refine Opl.skp rfl (Opl.skp rfl (Opl.skp rfl (Opl.one (v := .lit (.bool false)) rfl rfl rfl (Opl.one (v := .lit (.bool false)) rfl rfl rfl (Opl.skp rfl (Opl.skp rfl (Opl.skp rfl (Opl.one (v := .lit (.bool false)) rfl rfl rfl (Opl.one (v := .lit (.bool false)) rfl rfl rfl (Opl.nil ?_))))))))))
   obtain rfl := Option.some.inj H
   refine Evr.ret1 Try.func111 rfl ?_
   show (.lit (.bool false) : PV) = _
   first | rfl | (simp only [go_sem]; rfl)
  rw [if_pos c5] at H
  obtain rfl : t104 = true := by simpa using c5
  refine Opl.p1 (v := .ptr i1 2) (n := Opl.ldb (v := .lit (.int .i64 a0_2)) h1 rfl T3 rfl rfl rfl rfl (Opl.p1 (n := Opl.one (v := .lit (.bool (a0_2 == 0))) rfl rfl rfl (Opl.one (v := .lit (.bool (a0_2 == 0))) rfl rfl rfl ?_))))
  by_cases c6 : a0_2 = 0
  case neg =>
   rw [if_neg c6] at H
   have e9 : (a0_2 == 0) = false := by simpa using c6
   try rw [e9]
   refine Opl.skp rfl (Opl.skp rfl (Opl.skp rfl (Opl.one (v := .lit (.bool false)) rfl rfl rfl (Opl.one (v := .lit (.bool false)) rfl rfl rfl (Opl.nil ?_)))))
   obtain rfl := Option.some.inj H
   refine Evr.ret1 Try.func111 rfl ?_
   show (.lit (.bool false) : PV) = _
   first | rfl | (simp only [go_sem]; rfl)
  rw [if_pos c6] at H
  have e8 : (a0_2 == 0) = true := by simpa using c6
  try rw [e8]
  refine Opl.p1 (v := .ptr i1 3) (n := Opl.ldb (v := .lit (.int .i64 a0_3)) h1 rfl T3 rfl rfl rfl rfl (Opl.p1 (n := Opl.one (v := .lit (.bool (a0_3 == 0))) rfl rfl rfl (Opl.one (v := .lit (.bool (a0_3 == 0))) rfl rfl rfl (Opl.nil ?_)))))
  obtain rfl := Option.some.inj H
  refine Evr.ret1 Try.func111 rfl ?_
  show (.lit (.bool (a0_3 == 0)) : PV) = _
  first | rfl | (simp only [go_sem]; rfl)
 rw [if_neg c4] at H
 have e10 : (a0_0 == 1) = false := by simpa using c4
 try rw [e10]
 refine Evr.condF rfl (Evr.skip (Evr.seq (Evr.seq ?_)))
 refine Evr.join (fun tm S => ∃ (kq1 : Nat) (x65_1 : Bool) (i2 : Abs.Id), spec_l20Step.j0 kq1 x65_1 a0_0 a0_1 a0_2 a0_3 = some r ∧ Has tm [(3, .ptr i2 0), (65, .lit (.bool x65_1))] ∧ Box (.ptr i2 0) [.lit (.int .i64 a0_0), .lit (.int .i64 a0_1), .lit (.int .i64 a0_2), .lit (.int .i64 a0_3)] S) ?_ fun hk1 => ?_
 ·
  rintro tm S ⟨kq1, x65_1, i2, H, hh, h2⟩
  rw [hh.eq]
  obtain _ | k1 := kq1
  · simp [spec_l20Step.j0] at H
  simp only [spec_l20Step.j0] at H
  by_cases c7 : x65_1 = true
  case pos =>
   rw [if_pos c7] at H
   obtain rfl : x65_1 = true := by simpa using c7
   refine Evr.condT rfl (Evr.sr rfl (Opl.p1 (n := Opl.nil ?_)))
   obtain rfl := Option.some.inj H
   refine Evr.ret1 Try.func111 rfl ?_
   show (.lit (.bool false) : PV) = _
   first | rfl | (simp only [go_sem]; rfl)
  rw [if_neg c7] at H
  obtain rfl : x65_1 = false := by simpa using c7
  refine Evr.condF rfl (Evr.skip (Evr.sr rfl (Opl.p1 (v := .ptr i2 0) (n := Opl.ldb (v := .lit (.int .i64 a0_0)) h2 rfl T3 rfl rfl rfl rfl ?_))))
  obtain ⟨t108, h_t108, H⟩ := Option.bind_eq_some_iff.1 H
  refine Opl.callc (spec_l20One.ev h_t108) rfl rfl rfl rfl ⟨(.lit _), trivial⟩ (by decide) (Opl.p1 (n := Opl.p1 (n := ?_)))
  by_cases c8 : t108 = true
  case neg =>
   rw [if_neg c8] at H
   have e12 : (!t108) = true := by simpa using c8
   try rw [e12]
   refine Opl.skp rfl (Opl.skp rfl (Opl.skp rfl (Opl.skp rfl (Opl.skp rfl (Opl.p1 (n := Opl.p1 (n := Opl.nil ?_)))))))
   obtain rfl := Option.some.inj H
   refine Evr.ret1 Try.func111 rfl ?_
   show (.lit (.bool true) : PV) = _
   first | rfl | (simp only [go_sem]; rfl)
  rw [if_pos c8] at H
  have e11 : (!t108) = false := by simpa using c8
  try rw [e11]
  refine Opl.p1 (v := .ptr i2 3) (n := Opl.ldb (v := .lit (.int .i64 a0_3)) h2 rfl T3 rfl rfl rfl rfl (Opl.p1 (v := .ptr i2 2) (n := Opl.ldb (v := .lit (.int .i64 a0_2)) h2 rfl T3 rfl rfl rfl rfl (Opl.p1 (n := Opl.p1 (n := Opl.p1 (n := Opl.nil ?_)))))))
  obtain rfl := Option.some.inj H
  refine Evr.ret1 Try.func111 rfl ?_
  show (.lit (.bool (a0_3 == a0_2)) : PV) = _
  first | rfl | (simp only [go_sem]; rfl)
 ·
  refine Evr.regionN rfl (Opl.p1 (v := .ptr i1 0) (n := Opl.ldb (v := .lit (.int .i64 a0_0)) h1 rfl T3 rfl rfl rfl rfl ?_))
  obtain ⟨t105, h_t105, H⟩ := Option.bind_eq_some_iff.1 H
  refine Opl.callc (spec_l1In.ev h_t105) rfl rfl rfl rfl ⟨(.lit _), (.lit _), (.lit _), trivial⟩ (by decide) (Opl.p1 (n := Opl.p1 (n := ?_)))
  by_cases c9 : t105 = true
  case neg =>
   rw [if_neg c9] at H
   have e18 : (!t105) = true := by simpa using c9
   try rw [e18]
   refine Opl.skp rfl (Opl.skp rfl (Opl.skp rfl (Opl.p1 (n := Opl.p1 (n := Opl.skp rfl (Opl.skp rfl (Opl.skp rfl (Opl.skp rfl (Opl.skp rfl (Opl.skp rfl (Opl.p1 (n := Opl.p1 (n := Opl.skp rfl (Opl.skp rfl (Opl.skp rfl (Opl.skp rfl (Opl.skp rfl (Opl.skp rfl (Opl.p1 (n := Opl.nil ?_))))))))))))))))))))
   exact hk1 _ _ ⟨_, _, _, H, ⟨rfl, (by first | rfl | (show PV.lit (.bool _) = _; congr 2; simp_all)), trivial⟩, h1⟩
  rw [if_pos c9] at H
  have e13 : (!t105) = false := by simpa using c9
  try rw [e13]
  refine Opl.p1 (v := .ptr i1 1) (n := Opl.ldb (v := .lit (.int .i64 a0_1)) h1 rfl T3 rfl rfl rfl rfl (Opl.p1 (n := Opl.p1 (n := Opl.p1 (n := ?_)))))
  by_cases c10 : a0_1 = 0
  case neg =>
   rw [if_neg c10] at H
   have e17 : (a0_1 != 0) = true := by simpa using c10
   try rw [e17]
   refine Opl.skp rfl (Opl.skp rfl (Opl.skp rfl (Opl.skp rfl (Opl.skp rfl (Opl.skp rfl (Opl.p1 (n := Opl.p1 (n := Opl.skp rfl (Opl.skp rfl (Opl.skp rfl (Opl.skp rfl (Opl.skp rfl (Opl.skp rfl (Opl.p1 (n := Opl.nil ?_)))))))))))))))
   exact hk1 _ _ ⟨_, _, _, H, ⟨rfl, (by first | rfl | (show PV.lit (.bool _) = _; congr 2; simp_all)), trivial⟩, h1⟩
  rw [if_pos c10] at H
  have e14 : (a0_1 != 0) = false := by simpa using c10
  try rw [e14]
  refine Opl.p1 (v := .ptr i1 2) (n := Opl.ldb (v := .lit (.int .i64 a0_2)) h1 rfl T3 rfl rfl rfl rfl (Opl.p1 (n := Opl.subi (k := .i64) (a := a1) (b := 1) K3 rfl rfl rfl rfl ?_)))
  obtain ⟨t106, h_t106, H⟩ := Option.bind_eq_some_iff.1 H
  refine Opl.callc (spec_l1In.ev h_t106) rfl rfl rfl rfl ⟨(.lit _), (.lit _), (.lit _), trivial⟩ (by decide) (Opl.p1 (n := Opl.one (v := .lit (.bool (!t106))) rfl rfl rfl (Opl.one (v := .lit (.bool (!t106))) rfl rfl rfl ?_)))
  by_cases c11 : t106 = true
  case neg =>
   rw [if_neg c11] at H
   have e16 : (!t106) = true := by simpa using c11
   try rw [e16]
   refine Opl.skp rfl (Opl.skp rfl (Opl.skp rfl (Opl.skp rfl (Opl.skp rfl (Opl.skp rfl (Opl.one (v := .lit (.bool true)) rfl rfl rfl (Opl.nil ?_)))))))
   exact hk1 _ _ ⟨_, _, _, H, ⟨rfl, (by first | rfl | (show PV.lit (.bool _) = _; congr 2; simp_all)), trivial⟩, h1⟩
  rw [if_pos c11] at H
  have e15 : (!t106) = false := by simpa using c11
  try rw [e15]
  refine Opl.p1 (v := .ptr i1 3) (n := Opl.ldb (v := .lit (.int .i64 a0_3)) h1 rfl T3 rfl rfl rfl rfl (Opl.one (v := .lit (.int .i64 a1)) rfl rfl rfl (Opl.subi (k := .i64) (a := a1) (b := 1) K3 rfl rfl rfl rfl ?_)))
  obtain ⟨t107, h_t107, H⟩ := Option.bind_eq_some_iff.1 H
  refine Opl.callc (spec_l1In.ev h_t107) rfl rfl rfl rfl ⟨(.lit _), (.lit _), (.lit _), trivial⟩ (by decide) (Opl.p1 (n := Opl.one (v := .lit (.bool (!t107))) rfl rfl rfl (Opl.nil ?_)))
  exact hk1 _ _ ⟨_, _, _, H, ⟨rfl, (by first | rfl | (show PV.lit (.bool _) = _; congr 2; simp_all)), trivial⟩, h1⟩
theorem spec_TimesValid.ev {k : Nat} {l0 : List ITime} {v0 : PV} (hv0 : Sl cITime l0 v0) {a1 : Int} {r : Bool} (H : spec_TimesValid.f k l0 a1 = some r) : Ret Try.prog 70 [v0, .lit (.int .i64 a1)] fun v S => v = .lit (.bool r) := by
 unfold spec_TimesValid.f at H
 refine Ret.intro Try.func70 rfl (Nat.le_of_ble_eq_true rfl) rfl ?_
 rw [tm2]
 refine Evr.sr rfl (Opl.p1 (n := Opl.nil (Evr.seq (Evr.seq ?_))))
 refine Evr.join (fun tm S => ∃ (kq1 : Nat) (x14_1 : Bool), spec_TimesValid.j0 kq1 l0 a1 x14_1 = some r ∧ Has tm [(0, v0), (1, .lit (.int .i64 a1)), (14, .lit (.bool x14_1))]) ?_ fun hk1 => ?_
 ·
  rintro tm S ⟨kq1, x14_1, H, hh⟩
  rw [hh.eq]
  obtain _ | k1 := kq1
  · simp [spec_TimesValid.j0] at H
  simp only [spec_TimesValid.j0] at H
  by_cases c1 : x14_1 = true
  case pos =>
   rw [if_pos c1] at H
   obtain rfl : x14_1 = true := by simpa using c1
   refine Evr.condT rfl (Evr.sr rfl (Opl.p1 (n := Opl.nil ?_)))
   obtain rfl := Option.some.inj H
   refine Evr.ret1 Try.func70 rfl ?_
   show (.lit (.bool false) : PV) = _
   first | rfl | (simp only [go_sem]; rfl)
  rw [if_neg c1] at H
  obtain rfl : x14_1 = false := by simpa using c1
  refine Evr.condF rfl (Evr.skip (Evr.seq (Evr.sr rfl (Opl.p1 (n := Opl.nil (Evr.block ?_))))))
  refine Evr.loop (Evr.rounds (n := k1) (Inv := fun n tm S => n ≤ k1 ∧ ∃ (x5_1 : Int), spec_TimesValid.l0 n l0 a1 x5_1 = some r ∧ Has tm [(0, v0), (1, .lit (.int .i64 a1)), (5, .lit (.int .i64 x5_1))]) ?_ ?_ ?_)
  · exact ⟨Nat.le_refl _, _, H, ⟨rfl, rfl, rfl, trivial⟩⟩
  ·
   rintro tm S ⟨_, _, H, -⟩
   simp [spec_TimesValid.l0] at H
  ·
   rintro n1 ih1 tm S ⟨hle, x5_1, H, hh⟩
   simp only [spec_TimesValid.l0] at H
   rw [hh.eq]
   refine Evr.seq (Evr.sr rfl (Opl.p1 (n := Opl.p1 (n := Opl.len (xs := l0) (by exact hv0) K28 rfl rfl rfl rfl (Opl.p1 (n := Opl.nil ?_))))))
   by_cases c2 : x5_1 < (l0.length : Int)
   case neg =>
    rw [if_neg c2] at H
    have e4 : (decide (x5_1 < (l0.length : Int))) = false := by simpa using c2
    try rw [e4]
    refine Evr.condF rfl (Evr.exit rfl (Evr.sr rfl (Opl.p1 (n := Opl.nil ?_))))
    obtain rfl := Option.some.inj H
    refine Evr.ret1 Try.func70 rfl ?_
    show (.lit (.bool true) : PV) = _
    first | rfl | (simp only [go_sem]; rfl)
   rw [if_pos c2] at H
   have e1 : (decide (x5_1 < (l0.length : Int))) = true := by simpa using c2
   try rw [e1]
   refine Evr.condT rfl (Evr.skip (Evr.seq (Evr.block (Evr.sr rfl (Opl.p1 (n := Opl.p1 (n := ?_)))))))
   obtain ⟨c3, H⟩ := peel H
   refine Opl.idx (M := cITime) (xs := l0) (j := x5_1) zITime (by exact hv0) rfl (by omega) (by omega) K28 Z64 rfl rfl ?_
   rintro p1 q1 h1
   obtain rfl := cITime_R (x := (rd_ITime l0 x5_1)) h1
   refine Opl.lda (.agg [.lit (.int .i64 ((rd_ITime l0 x5_1).f0)), .lit (.int .i64 ((rd_ITime l0 x5_1).f1)), .lit (.int .i64 ((rd_ITime l0 x5_1).f2)), .lit (.int .i64 ((rd_ITime l0 x5_1).f3))]) rfl T64 rfl rfl rfl rfl (Opl.p1 (n := Opl.p1 (n := ?_)))
   obtain ⟨t112, h_t112, H⟩ := Option.bind_eq_some_iff.1 H
   refine Opl.callc (spec_l20Step.ev h_t112) rfl rfl rfl rfl ⟨(.aggL ⟨(.lit _), (.lit _), (.lit _), (.lit _), trivial⟩), (.lit _), (.lit _), trivial⟩ (by decide) (Opl.p1 (n := Opl.nil ?_))
   by_cases c4 : t112 = true
   case neg =>
    rw [if_neg c4] at H
    have e3 : (!t112) = true := by simpa using c4
    try rw [e3]
    refine Evr.condT rfl (Evr.sr rfl (Opl.p1 (n := Opl.nil ?_)))
    obtain rfl := Option.some.inj H
    refine Evr.ret1 Try.func70 rfl ?_
    show (.lit (.bool false) : PV) = _
    first | rfl | (simp only [go_sem]; rfl)
   rw [if_pos c4] at H
   have e2 : (!t112) = false := by simpa using c4
   try rw [e2]
   refine Evr.condF rfl (Evr.skip (Evr.inBlock (Evr.regionN rfl (Opl.p1 (n := Opl.add (k := .i64) (a := x5_1) (b := 1) K3 rfl rfl rfl rfl (Opl.one (v := .lit (.int .i64 (wrap64 (x5_1 + 1)))) rfl rfl rfl (Opl.nil ?_)))))))
   exact ih1 _ (by omega) _ _ ⟨by omega, _, H, ⟨rfl, rfl, rfl, trivial⟩⟩
 ·
  refine Evr.regionN rfl (Opl.p1 (n := ?_))
  obtain ⟨t109, h_t109, H⟩ := Option.bind_eq_some_iff.1 H
  refine Opl.callc (spec_l1In.ev h_t109) rfl rfl rfl rfl ⟨(.lit _), (.lit _), (.lit _), trivial⟩ (by decide) (Opl.p1 (n := Opl.p1 (n := ?_)))
  by_cases c5 : t109 = true
  case neg =>
   rw [if_neg c5] at H
   have e6 : (!t109) = true := by simpa using c5
   try rw [e6]
   refine Opl.skp rfl (Opl.skp rfl (Opl.skp rfl (Opl.skp rfl (Opl.p1 (n := Opl.nil ?_)))))
   exact hk1 _ _ ⟨_, _, H, ⟨rfl, rfl, (by first | rfl | (show PV.lit (.bool _) = _; congr 2; simp_all)), trivial⟩⟩
  rw [if_pos c5] at H
  have e5 : (!t109) = false := by simpa using c5
  try rw [e5]
  refine Opl.p1 (n := Opl.len (xs := l0) (by exact hv0) K28 rfl rfl rfl rfl ?_)
  obtain ⟨t110, h_t110, H⟩ := Option.bind_eq_some_iff.1 H
  refine Opl.callc (spec_l1In.ev h_t110) rfl rfl rfl rfl ⟨(.lit _), (.lit _), (.lit _), trivial⟩ (by decide) (Opl.p1 (n := Opl.p1 (n := Opl.nil ?_)))
  exact hk1 _ _ ⟨_, _, H, ⟨rfl, rfl, (by first | rfl | (show PV.lit (.bool _) = _; congr 2; simp_all)), trivial⟩⟩
theorem spec_l21Steps.ev {k : Nat} {l0 : List ITime} {v0 : PV} (hv0 : Sl cITime l0 v0) {r : (List Int)} (H : spec_l21Steps.f k l0 = some r) : Ret Try.prog 63 [v0] fun v S => Vec (cInt .i64) r v S := by
 unfold spec_l21Steps.f at H
 refine Ret.intro Try.func63 rfl (Nat.le_of_ble_eq_true rfl) rfl ?_
 rw [tm1]
 refine Evr.sr rfl (Opl.p1 (n := Opl.nil (Evr.sr rfl (Opl.lits (M := (cInt .i64)) (ys := []) [] K26 T3 rfl rfl rfl trivial rfl (by decide) rfl rfl rfl ?_))))
 rintro pv1 S h1 u1 w1
 refine Opl.p1 (n := Opl.nil (Evr.seq (Evr.sr rfl (Opl.p1 (n := Opl.nil (Evr.block ?_))))))
 refine Evr.loop (Evr.rounds (n := k) (Inv := fun n tm S => n ≤ k ∧ ∃ (x3_1 : List Int) (x4_1 : Int) (pv2 : PV), spec_l21Steps.l0 n l0 x3_1 x4_1 = some r ∧ Has tm [(0, v0), (3, pv2), (4, .lit (.int .i64 x4_1))] ∧ Vec (cInt .i64) x3_1 pv2 S) ?_ ?_ ?_)
 · exact ⟨Nat.le_refl _, _, _, _, H, ⟨rfl, rfl, rfl, trivial⟩, h1⟩
 ·
  rintro tm S ⟨_, _, _, _, H, -⟩
  simp [spec_l21Steps.l0] at H
 ·
  rintro n1 ih1 tm S ⟨hle, x3_1, x4_1, pv2, H, hh, h2⟩
  simp only [spec_l21Steps.l0] at H
  rw [hh.eq]
  refine Evr.seq (Evr.sr rfl (Opl.p1 (n := Opl.p1 (n := Opl.len (xs := l0) (by exact hv0) K28 rfl rfl rfl rfl (Opl.p1 (n := Opl.nil ?_))))))
  by_cases c1 : x4_1 < (l0.length : Int)
  case neg =>
   rw [if_neg c1] at H
   have e4 : (decide (x4_1 < (l0.length : Int))) = false := by simpa using c1
   try rw [e4]
   refine Evr.condF rfl (Evr.exit rfl (Evr.sr rfl (Opl.p1 (n := Opl.p1 (n := Opl.nil ?_)))))
   obtain rfl := Option.some.inj H
   refine Evr.ret1 Try.func63 rfl ?_
   show Vec _ _ pv2 _
   exact h2
  rw [if_pos c1] at H
  have e1 : (decide (x4_1 < (l0.length : Int))) = true := by simpa using c1
  try rw [e1]
  refine Evr.condT rfl (Evr.skip (Evr.seq (Evr.block (Evr.sr rfl (Opl.p1 (n := Opl.p1 (n := ?_)))))))
  obtain ⟨c2, H⟩ := peel H
  refine Opl.idx (M := cITime) (xs := l0) (j := x4_1) zITime (by exact hv0) rfl (by omega) (by omega) K28 Z64 rfl rfl ?_
  rintro p1 q1 h3
  obtain rfl := cITime_R (x := (rd_ITime l0 x4_1)) h3
  refine Opl.p1 (v := .fel ((.lit (.int .i64 ((rd_ITime l0 x4_1).f0))) :: (.lit (.int .i64 ((rd_ITime l0 x4_1).f1))) :: (.lit (.int .i64 ((rd_ITime l0 x4_1).f2))) :: (.lit (.int .i64 ((rd_ITime l0 x4_1).f3))) :: q1)) (n := Opl.lda (.lit (.int .i64 ((rd_ITime l0 x4_1).f0))) rfl T3 rfl rfl rfl rfl (Opl.p1 (n := Opl.nil ?_)))
  refine Evr.join (fun tm S => ∃ (kq1 : Nat) (x3_2 : List Int) (pv3 : PV), spec_l21Steps.l0 kq1 l0 x3_2 (wrap64 (x4_1 + 1)) = some r ∧ kq1 ≤ n1 ∧ Has tm [(0, v0), (3, pv3), (4, .lit (.int .i64 x4_1))] ∧ Vec (cInt .i64) x3_2 pv3 S) ?_ fun hk1 => ?_
  ·
   rintro tm S ⟨kq1, x3_2, pv3, H, hle, hh, h4⟩
   rw [hh.eq]
   refine Evr.inBlock (Evr.regionN rfl (Opl.p1 (n := Opl.add (k := .i64) (a := x4_1) (b := 1) K3 rfl rfl rfl rfl (Opl.one (v := .lit (.int .i64 (wrap64 (x4_1 + 1)))) rfl rfl rfl (Opl.nil ?_)))))
   exact ih1 _ (by omega) _ _ ⟨by omega, _, _, _, H, ⟨rfl, rfl, rfl, trivial⟩, h4⟩
  ·
   by_cases c3 : ((rd_ITime l0 x4_1).f0) ≥ 5
   case neg =>
    rw [if_neg c3] at H
    have e3 : (decide (((rd_ITime l0 x4_1).f0) ≥ 5)) = false := by simpa using c3
    try rw [e3]
    refine Evr.condF rfl (Evr.skip ?_)
    exact hk1 _ _ ⟨_, _, _, H, by omega, ⟨rfl, rfl, rfl, trivial⟩, h2⟩
   rw [if_pos c3] at H
   have e2 : (decide (((rd_ITime l0 x4_1).f0) ≥ 5)) = true := by simpa using c3
   try rw [e2]
   refine Evr.condT rfl (Evr.regionN rfl (Opl.p1 (n := Opl.p1 (n := Opl.lits (M := (cInt .i64)) (ys := [x4_1]) [.tmp 19] K26 T3 rfl rfl rfl (by exact ⟨rfl, trivial⟩) rfl (by decide) rfl rfl rfl ?_))))
   rintro pv4 S h5 u2 w2
   have ap1 := w2.vec h2
   have h6 := u2.vec h2 ap1
   obtain ⟨c4, H⟩ := peel H
   refine Opl.app (M := (cInt .i64)) (xs := x3_1) (ys := [x4_1]) (v := pv2) h6 (.vec h5) (oInt .i64) rfl rfl K26 T3 rfl rfl (by (try simp only [List.length_cons, List.length_nil]); omega) (by show (_ + _) * 8 ≤ 140737488355328; (try simp only [List.length_cons, List.length_nil]); omega) rfl rfl rfl rfl rfl ?_
   rintro pv5 S h7 u3 w3
   have ap2 := w3.vec h5
   have h8 := u3.vec h5 ap1.symm
   refine Opl.p1 (n := Opl.nil ?_)
   exact hk1 _ _ ⟨_, _, _, H, by omega, ⟨rfl, rfl, rfl, trivial⟩, h7⟩
theorem spec_l21Asked.ev {k : Nat} {l0 : List ITime} {v0 : PV} (hv0 : Sl cITime l0 v0) {a1 : Int} {r : Bool} (H : spec_l21Asked.f k l0 a1 = some r) : Ret Try.prog 39 [v0, .lit (.int .i64 a1)] fun v S => v = .lit (.bool r) := by
 unfold spec_l21Asked.f at H
 refine Ret.intro Try.func39 rfl (Nat.le_of_ble_eq_true rfl) rfl ?_
 rw [tm2]
 refine Evr.sr rfl (Opl.p1 (n := Opl.nil (Evr.sr rfl (Opl.p1 (n := Opl.p1 (n := ?_))))))
 obtain ⟨t213, h_t213, H⟩ := Option.bind_eq_some_iff.1 H
 refine Opl.callc (spec_TimesValid.ev hv0 h_t213) rfl rfl rfl rfl ⟨hv0.plain, (.lit _), trivial⟩ (by decide) (Opl.p1 (n := ?_))
 by_cases c1 : t213 = true
 case neg =>
  rw [if_neg c1] at H
  obtain rfl : t213 = false := by simpa using c1
  refine Opl.skp rfl (Opl.skp rfl (Opl.skp rfl (Opl.skp rfl (Opl.skp rfl (Opl.skp rfl (Opl.p1 (n := Opl.p1 (n := Opl.nil ?_))))))))
  obtain rfl := Option.some.inj H
  refine Evr.ret1 Try.func39 rfl ?_
  show (.lit (.bool false) : PV) = _
  first | rfl | (simp only [go_sem]; rfl)
 rw [if_pos c1] at H
 obtain rfl : t213 = true := by simpa using c1
 refine Opl.p1 (n := Opl.p1 (n := ?_))
 obtain ⟨t214, h_t214, H⟩ := Option.bind_eq_some_iff.1 H
 refine Opl.call ((spec_l21Steps.ev hv0 h_t214).mono fun _ _ h => Out.vec h) rfl rfl rfl rfl ⟨hv0.plain, trivial⟩ (by decide) ?_
 rintro pv1 h1
 refine Opl.len (xs := t214) (by exact h1) K26 rfl rfl rfl rfl (Opl.add (k := .i64) (a := a1) (b := (t214.length : Int)) K3 rfl rfl rfl rfl (Opl.leq (a := (wrap64 (a1 + (t214.length : Int)))) (b := 7) K3 rfl rfl rfl rfl (Opl.one (v := .lit (.bool (decide ((wrap64 (a1 + (t214.length : Int))) ≤ 7)))) rfl rfl rfl (Opl.one (v := .lit (.bool (decide ((wrap64 (a1 + (t214.length : Int))) ≤ 7)))) rfl rfl rfl (Opl.nil ?_)))))
 obtain rfl := Option.some.inj H
 refine Evr.ret1 Try.func39 rfl ?_
 show (.lit (.bool (decide ((wrap64 (a1 + (t214.length : Int))) ≤ 7))) : PV) = _
 first | rfl | (simp only [go_sem]; rfl)
theorem spec_GuessCount.ev {k : Nat} {l0 : List ITime} {v0 : PV} (hv0 : Sl cITime l0 v0) {a1 : Int} {r : Int} (H : spec_GuessCount.f k l0 a1 = some r) : Ret Try.prog 32 [v0, .lit (.int .i64 a1)] fun v S => v = .lit (.int .i64 r) := by
 unfold spec_GuessCount.f at H
 refine Ret.intro Try.func32 rfl (Nat.le_of_ble_eq_true rfl) rfl ?_
 rw [tm2]
 refine Evr.sr rfl (Opl.p1 (n := Opl.nil (Evr.seq (Evr.sr rfl (Opl.p1 (n := Opl.p1 (n := ?_)))))))
 obtain ⟨t784, h_t784, H⟩ := Option.bind_eq_some_iff.1 H
 refine Opl.callc (spec_l21Asked.ev hv0 h_t784) rfl rfl rfl rfl ⟨hv0.plain, (.lit _), trivial⟩ (by decide) (Opl.p1 (n := Opl.nil ?_))
 by_cases c1 : t784 = true
 case neg =>
  rw [if_neg c1] at H
  have e2 : (!t784) = true := by simpa using c1
  try rw [e2]
  refine Evr.condT rfl (Evr.sr rfl (Opl.p1 (n := Opl.nil ?_)))
  obtain rfl := Option.some.inj H
  refine Evr.ret1 Try.func32 rfl ?_
  show (.lit (.int .i64 0) : PV) = _
  first | rfl | (simp only [go_sem]; rfl)
 rw [if_pos c1] at H
 have e1 : (!t784) = false := by simpa using c1
 try rw [e1]
 refine Evr.condF rfl (Evr.skip (Evr.sr rfl (Opl.p1 (n := Opl.p1 (n := ?_)))))
 obtain ⟨t785, h_t785, H⟩ := Option.bind_eq_some_iff.1 H
 refine Opl.call ((spec_l21Steps.ev hv0 h_t785).mono fun _ _ h => Out.vec h) rfl rfl rfl rfl ⟨hv0.plain, trivial⟩ (by decide) ?_
 rintro pv1 h1
 refine Opl.len (xs := t785) (by exact h1) K26 rfl rfl rfl rfl (Opl.add (k := .i64) (a := a1) (b := (t785.length : Int)) K3 rfl rfl rfl rfl ?_)
 obtain ⟨c2, H⟩ := peel H
 refine Opl.one (v := .lit (.int .i64 (shl .i64 1 (wrap64 (a1 + (t785.length : Int)))))) rfl rfl (by simp only [go_sem]; rw [if_neg (by omega)]; simp only [shl, w64, IntKind.bits]; rfl) (Opl.one (v := .lit (.int .i64 (shl .i64 1 (wrap64 (a1 + (t785.length : Int)))))) rfl rfl rfl (Opl.nil ?_))
 obtain rfl := Option.some.inj H
 refine Evr.ret1 Try.func32 rfl ?_
 show (.lit (.int .i64 (shl .i64 1 (wrap64 (a1 + (t785.length : Int))))) : PV) = _
 first | rfl | (simp only [go_sem]; rfl)
theorem spec_l6Are.ev {k : Nat} {l0 : List Int} {v0 : PV} (hv0 : Sl (cInt .i64) l0 v0) {r : Bool} (H : spec_l6Are.f k l0 = some r) : Ret Try.prog 117 [v0] fun v S => v = .lit (.bool r) := by
 unfold spec_l6Are.f at H
 refine Ret.intro Try.func117 rfl (Nat.le_of_ble_eq_true rfl) rfl ?_
 rw [tm1]
 refine Evr.sr rfl (Opl.p1 (n := Opl.nil (Evr.seq (Evr.sr rfl (Opl.p1 (n := Opl.nil (Evr.block ?_)))))))
 refine Evr.loop (Evr.rounds (n := k) (Inv := fun n tm S => n ≤ k ∧ ∃ (x3_1 : Int), spec_l6Are.l0 n l0 x3_1 = some r ∧ Has tm [(0, v0), (3, .lit (.int .i64 x3_1))]) ?_ ?_ ?_)
 · exact ⟨Nat.le_refl _, _, H, ⟨rfl, rfl, trivial⟩⟩
 ·
  rintro tm S ⟨_, _, H, -⟩
  simp [spec_l6Are.l0] at H
 ·
  rintro n1 ih1 tm S ⟨hle, x3_1, H, hh⟩
  simp only [spec_l6Are.l0] at H
  rw [hh.eq]
  refine Evr.seq (Evr.sr rfl (Opl.p1 (n := Opl.p1 (n := Opl.len (xs := l0) (by exact hv0) K26 rfl rfl rfl rfl (Opl.p1 (n := Opl.nil ?_))))))
  by_cases c1 : x3_1 < (l0.length : Int)
  case neg =>
   rw [if_neg c1] at H
   have e4 : (decide (x3_1 < (l0.length : Int))) = false := by simpa using c1
   try rw [e4]
   refine Evr.condF rfl (Evr.exit rfl (Evr.sr rfl (Opl.p1 (n := Opl.nil ?_))))
   obtain rfl := Option.some.inj H
   refine Evr.ret1 Try.func117 rfl ?_
   show (.lit (.bool true) : PV) = _
   first | rfl | (simp only [go_sem]; rfl)
  rw [if_pos c1] at H
  have e1 : (decide (x3_1 < (l0.length : Int))) = true := by simpa using c1
  try rw [e1]
  refine Evr.condT rfl (Evr.skip (Evr.seq (Evr.block (Evr.sr rfl (Opl.p1 (n := Opl.p1 (n := ?_)))))))
  obtain ⟨c2, H⟩ := peel H
  refine Opl.idx (M := (cInt .i64)) (xs := l0) (j := x3_1) (0 : Int) (by exact hv0) rfl (by omega) (by omega) K26 Z3 rfl rfl ?_
  rintro p1 q1 h1
  obtain rfl : p1 = [.lit (.int .i64 (rd l0 x3_1))] := h1
  refine Opl.lda (.lit (.int .i64 (rd l0 x3_1))) rfl T3 rfl rfl rfl rfl ?_
  obtain ⟨t114, h_t114, H⟩ := Option.bind_eq_some_iff.1 H
  refine Opl.callc (spec_l1In.ev h_t114) rfl rfl rfl rfl ⟨(.lit _), (.lit _), (.lit _), trivial⟩ (by decide) (Opl.p1 (n := Opl.nil ?_))
  by_cases c3 : t114 = true
  case neg =>
   rw [if_neg c3] at H
   have e3 : (!t114) = true := by simpa using c3
   try rw [e3]
   refine Evr.condT rfl (Evr.sr rfl (Opl.p1 (n := Opl.nil ?_)))
   obtain rfl := Option.some.inj H
   refine Evr.ret1 Try.func117 rfl ?_
   show (.lit (.bool false) : PV) = _
   first | rfl | (simp only [go_sem]; rfl)
  rw [if_pos c3] at H
  have e2 : (!t114) = false := by simpa using c3
  try rw [e2]
  refine Evr.condF rfl (Evr.skip (Evr.inBlock (Evr.regionN rfl (Opl.p1 (n := Opl.add (k := .i64) (a := x3_1) (b := 1) K3 rfl rfl rfl rfl (Opl.one (v := .lit (.int .i64 (wrap64 (x3_1 + 1)))) rfl rfl rfl (Opl.nil ?_)))))))
  exact ih1 _ (by omega) _ _ ⟨by omega, _, H, ⟨rfl, rfl, trivial⟩⟩
theorem spec_l20Letters.ev {k : Nat} {l0 : List (List Int)} {v0 : PV} (hv0 : Sl (cSl (cInt .i64)) l0 v0) {a1 : Int} {r : Bool} (H : spec_l20Letters.f k l0 a1 = some r) : Ret Try.prog 83 [v0, .lit (.int .i64 a1)] fun v S => v = .lit (.bool r) := by
 unfold spec_l20Letters.f at H
 refine Ret.intro Try.func83 rfl (Nat.le_of_ble_eq_true rfl) rfl ?_
 rw [tm2]
 refine Evr.sr rfl (Opl.p1 (n := Opl.nil (Evr.seq (Evr.sr rfl (Opl.p1 (n := Opl.nil (Evr.block ?_)))))))
 refine Evr.loop (Evr.rounds (n := k) (Inv := fun n tm S => n ≤ k ∧ ∃ (x5_1 : Int), spec_l20Letters.l0 n l0 a1 x5_1 = some r ∧ Has tm [(0, v0), (1, .lit (.int .i64 a1)), (5, .lit (.int .i64 x5_1))]) ?_ ?_ ?_)
 · exact ⟨Nat.le_refl _, _, H, ⟨rfl, rfl, rfl, trivial⟩⟩
 ·
  rintro tm S ⟨_, _, H, -⟩
  simp [spec_l20Letters.l0] at H
 ·
  rintro n1 ih1 tm S ⟨hle, x5_1, H, hh⟩
  simp only [spec_l20Letters.l0] at H
  rw [hh.eq]
  refine Evr.seq (Evr.sr rfl (Opl.p1 (n := Opl.p1 (n := Opl.len (xs := l0) (by exact hv0) K23 rfl rfl rfl rfl (Opl.p1 (n := Opl.nil ?_))))))
  by_cases c1 : x5_1 < (l0.length : Int)
  case neg =>
   rw [if_neg c1] at H
   have e6 : (decide (x5_1 < (l0.length : Int))) = false := by simpa using c1
   try rw [e6]
   refine Evr.condF rfl (Evr.exit rfl (Evr.sr rfl (Opl.p1 (n := Opl.nil ?_))))
   obtain rfl := Option.some.inj H
   refine Evr.ret1 Try.func83 rfl ?_
   show (.lit (.bool true) : PV) = _
   first | rfl | (simp only [go_sem]; rfl)
  rw [if_pos c1] at H
  have e1 : (decide (x5_1 < (l0.length : Int))) = true := by simpa using c1
  try rw [e1]
  refine Evr.condT rfl (Evr.skip (Evr.seq (Evr.block (Evr.sr rfl (Opl.p1 (n := Opl.p1 (n := ?_)))))))
  obtain ⟨c2, H⟩ := peel H
  refine Opl.idx (M := (cSl (cInt .i64))) (xs := l0) (j := x5_1) ([] : List Int) (by exact hv0) rfl (by omega) (by omega) K23 Z26 rfl rfl ?_
  rintro p1 q1 h1
  obtain ⟨pv1, rfl, h2⟩ := h1
  refine Opl.lda (pv1) rfl T26 rfl rfl rfl rfl (Opl.len (xs := (rd_Lint l0 x5_1)) (by exact h2) K26 rfl rfl rfl rfl (Opl.p1 (n := Opl.p1 (n := Opl.p1 (n := ?_)))))
  by_cases c3 : ((rd_Lint l0 x5_1).length : Int) = a1
  case neg =>
   rw [if_neg c3] at H
   have e5 : (((rd_Lint l0 x5_1).length : Int) != a1) = true := by simpa using c3
   try rw [e5]
   refine Opl.skp rfl (Opl.skp rfl (Opl.skp rfl (Opl.skp rfl (Opl.skp rfl (Opl.skp rfl (Opl.p1 (n := Opl.nil (Evr.condT rfl (Evr.sr rfl (Opl.p1 (n := Opl.nil ?_)))))))))))
   obtain rfl := Option.some.inj H
   refine Evr.ret1 Try.func83 rfl ?_
   show (.lit (.bool false) : PV) = _
   first | rfl | (simp only [go_sem]; rfl)
  rw [if_pos c3] at H
  have e2 : (((rd_Lint l0 x5_1).length : Int) != a1) = false := by simpa using c3
  try rw [e2]
  refine Opl.p1 (n := Opl.p1 (n := Opl.idx (M := (cSl (cInt .i64))) (xs := l0) (j := x5_1) ([] : List Int) (by exact hv0) rfl (by omega) (by omega) K23 Z26 rfl rfl ?_))
  rintro p2 q2 h3
  obtain ⟨pv2, rfl, h4⟩ := h3
  refine Opl.lda (pv2) rfl T26 rfl rfl rfl rfl ?_
  obtain ⟨t117, h_t117, H⟩ := Option.bind_eq_some_iff.1 H
  refine Opl.callc (spec_l6Are.ev h4 h_t117) rfl rfl rfl rfl ⟨h4.plain, trivial⟩ (by decide) (Opl.p1 (n := Opl.p1 (n := Opl.nil ?_)))
  by_cases c4 : t117 = true
  case neg =>
   rw [if_neg c4] at H
   have e4 : (!t117) = true := by simpa using c4
   try rw [e4]
   refine Evr.condT rfl (Evr.sr rfl (Opl.p1 (n := Opl.nil ?_)))
   obtain rfl := Option.some.inj H
   refine Evr.ret1 Try.func83 rfl ?_
   show (.lit (.bool false) : PV) = _
   first | rfl | (simp only [go_sem]; rfl)
  rw [if_pos c4] at H
  have e3 : (!t117) = false := by simpa using c4
  try rw [e3]
  refine Evr.condF rfl (Evr.skip (Evr.inBlock (Evr.regionN rfl (Opl.p1 (n := Opl.add (k := .i64) (a := x5_1) (b := 1) K3 rfl rfl rfl rfl (Opl.one (v := .lit (.int .i64 (wrap64 (x5_1 + 1)))) rfl rfl rfl (Opl.nil ?_)))))))
  exact ih1 _ (by omega) _ _ ⟨by omega, _, H, ⟨rfl, rfl, rfl, trivial⟩⟩
theorem spec_WordValid.ev {k : Nat} {l0 : List (List Int)} {v0 : PV} (hv0 : Sl (cSl (cInt .i64)) l0 v0) {l1 : List (List Int)} {v1 : PV} (hv1 : Sl (cSl (cInt .i64)) l1 v1) {a2 : Int} {r : Bool} (H : spec_WordValid.f k l0 l1 a2 = some r) : Ret Try.prog 71 [v0, v1, .lit (.int .i64 a2)] fun v S => v = .lit (.bool r) := by
 unfold spec_WordValid.f at H
 refine Ret.intro Try.func71 rfl (Nat.le_of_ble_eq_true rfl) rfl ?_
 rw [tm3]
 refine Evr.sr rfl (Opl.p1 (n := Opl.nil (Evr.sr rfl (Opl.p1 (n := ?_)))))
 obtain ⟨t118, h_t118, H⟩ := Option.bind_eq_some_iff.1 H
 refine Opl.callc (spec_l1In.ev h_t118) rfl rfl rfl rfl ⟨(.lit _), (.lit _), (.lit _), trivial⟩ (by decide) (Opl.p1 (n := ?_))
 by_cases c1 : t118 = true
 case neg =>
  rw [if_neg c1] at H
  obtain rfl : t118 = false := by simpa using c1
  refine Opl.skp rfl (Opl.skp rfl (Opl.skp rfl (Opl.p1 (n := Opl.p1 (n := Opl.skp rfl (Opl.skp rfl (Opl.skp rfl (Opl.skp rfl (Opl.skp rfl (Opl.skp rfl (Opl.p1 (n := Opl.p1 (n := Opl.skp rfl (Opl.skp rfl (Opl.skp rfl (Opl.p1 (n := Opl.p1 (n := Opl.skp rfl (Opl.skp rfl (Opl.skp rfl (Opl.p1 (n := Opl.p1 (n := Opl.nil ?_)))))))))))))))))))))))
  obtain rfl := Option.some.inj H
  refine Evr.ret1 Try.func71 rfl ?_
  show (.lit (.bool false) : PV) = _
  first | rfl | (simp only [go_sem]; rfl)
 rw [if_pos c1] at H
 obtain rfl : t118 = true := by simpa using c1
 refine Opl.p1 (n := Opl.len (xs := l1) (by exact hv1) K23 rfl rfl rfl rfl (Opl.p1 (n := Opl.p1 (n := Opl.p1 (n := ?_)))))
 by_cases c2 : (l1.length : Int) > 0
 case neg =>
  rw [if_neg c2] at H
  have e4 : (decide ((l1.length : Int) > 0)) = false := by simpa using c2
  try rw [e4]
  refine Opl.skp rfl (Opl.skp rfl (Opl.skp rfl (Opl.skp rfl (Opl.skp rfl (Opl.skp rfl (Opl.p1 (n := Opl.p1 (n := Opl.skp rfl (Opl.skp rfl (Opl.skp rfl (Opl.p1 (n := Opl.p1 (n := Opl.skp rfl (Opl.skp rfl (Opl.skp rfl (Opl.p1 (n := Opl.p1 (n := Opl.nil ?_))))))))))))))))))
  obtain rfl := Option.some.inj H
  refine Evr.ret1 Try.func71 rfl ?_
  show (.lit (.bool false) : PV) = _
  first | rfl | (simp only [go_sem]; rfl)
 rw [if_pos c2] at H
 have e1 : (decide ((l1.length : Int) > 0)) = true := by simpa using c2
 try rw [e1]
 refine Opl.p1 (n := Opl.len (xs := l0) (by exact hv0) K23 rfl rfl rfl rfl (Opl.p1 (n := Opl.len (xs := l1) (by exact hv1) K23 rfl rfl rfl rfl (Opl.add (k := .i64) (a := (l0.length : Int)) (b := (l1.length : Int)) K3 rfl rfl rfl rfl (Opl.leq (a := (wrap64 ((l0.length : Int) + (l1.length : Int)))) (b := 60) K3 rfl rfl rfl rfl (Opl.one (v := .lit (.bool (decide ((wrap64 ((l0.length : Int) + (l1.length : Int))) ≤ 60)))) rfl rfl rfl (Opl.one (v := .lit (.bool (decide ((wrap64 ((l0.length : Int) + (l1.length : Int))) ≤ 60)))) rfl rfl rfl ?_)))))))
 by_cases c3 : (wrap64 ((l0.length : Int) + (l1.length : Int))) ≤ 60
 case neg =>
  rw [if_neg c3] at H
  have e3 : (decide ((wrap64 ((l0.length : Int) + (l1.length : Int))) ≤ 60)) = false := by simpa using c3
  try rw [e3]
  refine Opl.skp rfl (Opl.skp rfl (Opl.skp rfl (Opl.one (v := .lit (.bool false)) rfl rfl rfl (Opl.one (v := .lit (.bool false)) rfl rfl rfl (Opl.skp rfl (Opl.skp rfl (Opl.skp rfl (Opl.one (v := .lit (.bool false)) rfl rfl rfl (Opl.one (v := .lit (.bool false)) rfl rfl rfl (Opl.nil ?_))))))))))
  obtain rfl := Option.some.inj H
  refine Evr.ret1 Try.func71 rfl ?_
  show (.lit (.bool false) : PV) = _
  first | rfl | (simp only [go_sem]; rfl)
 rw [if_pos c3] at H
 have e2 : (decide ((wrap64 ((l0.length : Int) + (l1.length : Int))) ≤ 60)) = true := by simpa using c3
 try rw [e2]
 refine Opl.one (v := v0) rfl rfl rfl (Opl.one (v := .lit (.int .i64 a2)) rfl rfl rfl ?_)
 obtain ⟨t119, h_t119, H⟩ := Option.bind_eq_some_iff.1 H
 refine Opl.callc (spec_l20Letters.ev hv0 h_t119) rfl rfl rfl rfl ⟨hv0.plain, (.lit _), trivial⟩ (by decide) (Opl.one (v := .lit (.bool t119)) rfl rfl rfl (Opl.one (v := .lit (.bool t119)) rfl rfl rfl ?_))
 by_cases c4 : t119 = true
 case neg =>
  rw [if_neg c4] at H
  obtain rfl : t119 = false := by simpa using c4
  refine Opl.skp rfl (Opl.skp rfl (Opl.skp rfl (Opl.one (v := .lit (.bool false)) rfl rfl rfl (Opl.one (v := .lit (.bool false)) rfl rfl rfl (Opl.nil ?_)))))
  obtain rfl := Option.some.inj H
  refine Evr.ret1 Try.func71 rfl ?_
  show (.lit (.bool false) : PV) = _
  first | rfl | (simp only [go_sem]; rfl)
 rw [if_pos c4] at H
 obtain rfl : t119 = true := by simpa using c4
 refine Opl.one (v := v1) rfl rfl rfl (Opl.one (v := .lit (.int .i64 a2)) rfl rfl rfl ?_)
 obtain ⟨t120, h_t120, H⟩ := Option.bind_eq_some_iff.1 H
 refine Opl.callc (spec_l20Letters.ev hv1 h_t120) rfl rfl rfl rfl ⟨hv1.plain, (.lit _), trivial⟩ (by decide) (Opl.one (v := .lit (.bool t120)) rfl rfl rfl (Opl.one (v := .lit (.bool t120)) rfl rfl rfl (Opl.nil ?_)))
 obtain rfl := Option.some.inj H
 refine Evr.ret1 Try.func71 rfl ?_
 show (.lit (.bool t120) : PV) = _
 first | rfl | (simp only [go_sem]; rfl)
theorem spec_l1Truth.ev {a0 : Bool} {r : Int} (H : spec_l1Truth.f a0 = some r) : Ret Try.prog 113 [.lit (.bool a0)] fun v S => v = .lit (.int .i64 r) := by
 unfold spec_l1Truth.f at H
 refine Ret.intro Try.func113 rfl (Nat.le_of_ble_eq_true rfl) rfl ?_
 rw [tm1]
 refine Evr.sr rfl (Opl.p1 (n := Opl.nil (Evr.seq (Evr.sr rfl (Opl.p1 (n := Opl.nil ?_))))))
 by_cases c1 : a0 = true
 case pos =>
  rw [if_pos c1] at H
  obtain rfl : a0 = true := by simpa using c1
  refine Evr.condT rfl (Evr.sr rfl (Opl.p1 (n := Opl.nil ?_)))
  obtain rfl := Option.some.inj H
  refine Evr.ret1 Try.func113 rfl ?_
  show (.lit (.int .i64 1) : PV) = _
  first | rfl | (simp only [go_sem]; rfl)
 rw [if_neg c1] at H
 obtain rfl : a0 = false := by simpa using c1
 refine Evr.condF rfl (Evr.skip (Evr.sr rfl (Opl.p1 (n := Opl.nil ?_))))
 obtain rfl := Option.some.inj H
 refine Evr.ret1 Try.func113 rfl ?_
 show (.lit (.int .i64 0) : PV) = _
 first | rfl | (simp only [go_sem]; rfl)
theorem spec_l20Next.ev {a0 : Int} {a1 : Int} {a2 : Int} {r : Int} (H : spec_l20Next.f a0 a1 a2 = some r) : Ret Try.prog 114 [.lit (.int .i64 a0), .lit (.int .i64 a1), .lit (.int .i64 a2)] fun v S => v = .lit (.int .i64 r) := by
 unfold spec_l20Next.f at H
 refine Ret.intro Try.func114 rfl (Nat.le_of_ble_eq_true rfl) rfl ?_
 rw [tm3]
 refine Evr.sr rfl (Opl.p1 (n := Opl.nil (Evr.seq (Evr.sr rfl (Opl.p1 (n := Opl.add (k := .i64) (a := a0) (b := 1) K3 rfl rfl rfl rfl (Opl.one (v := .lit (.int .i64 a2)) rfl rfl rfl (Opl.lss (a := (wrap64 (a0 + 1))) (b := a2) K3 rfl rfl rfl rfl (Opl.nil ?_)))))))))
 by_cases c1 : (wrap64 (a0 + 1)) < a2
 case neg =>
  rw [if_neg c1] at H
  have e2 : (decide ((wrap64 (a0 + 1)) < a2)) = false := by simpa using c1
  try rw [e2]
  refine Evr.condF rfl (Evr.skip (Evr.sr rfl (Opl.one (v := .lit (.int .i64 a1)) rfl rfl rfl (Opl.one (v := .lit (.int .i64 a1)) rfl rfl rfl (Opl.nil ?_)))))
  obtain rfl := Option.some.inj H
  refine Evr.ret1 Try.func114 rfl ?_
  show (.lit (.int .i64 a1) : PV) = _
  first | rfl | (simp only [go_sem]; rfl)
 rw [if_pos c1] at H
 have e1 : (decide ((wrap64 (a0 + 1)) < a2)) = true := by simpa using c1
 try rw [e1]
 refine Evr.condT rfl (Evr.sr rfl (Opl.one (v := .lit (.int .i64 a0)) rfl rfl rfl (Opl.add (k := .i64) (a := a0) (b := 1) K3 rfl rfl rfl rfl (Opl.one (v := .lit (.int .i64 (wrap64 (a0 + 1)))) rfl rfl rfl (Opl.nil ?_)))))
 obtain rfl := Option.some.inj H
 refine Evr.ret1 Try.func114 rfl ?_
 show (.lit (.int .i64 (wrap64 (a0 + 1))) : PV) = _
 first | rfl | (simp only [go_sem]; rfl)
theorem spec_l20Later.ev {k : Nat} {a0_0 : Int} {a0_1 : Int} {a0_2 : Int} {a0_3 : Int} {l1 : List (List Int)} {v1 : PV} (hv1 : Sl (cSl (cInt .i64)) l1 v1) {a2 : Int} {a3 : Int} {r : (List Int)} (H : spec_l20Later.f k a0_0 a0_1 a0_2 a0_3 l1 a2 a3 = some r) : Ret Try.prog 112 [.agg [.lit (.int .i64 a0_0), .lit (.int .i64 a0_1), .lit (.int .i64 a0_2), .lit (.int .i64 a0_3)], v1, .lit (.int .i64 a2), .lit (.int .i64 a3)] fun v S => Vec (cInt .i64) r v S := by
 unfold spec_l20Later.f at H
 refine Ret.intro Try.func112 rfl (Nat.le_of_ble_eq_true rfl) rfl ?_
 rw [tm4]
 refine Evr.sr rfl (Opl.box (cs := [.lit (.int .i64 a0_0), .lit (.int .i64 a0_1), .lit (.int .i64 a0_2), .lit (.int .i64 a0_3)]) rfl rfl rfl rfl ?_)
 rintro i1 S h1 u1 w1
 refine Opl.p1 (n := Opl.nil (Evr.sr rfl (Opl.lits (M := (cInt .i64)) (ys := []) [] K26 T3 rfl rfl rfl trivial rfl (by decide) rfl rfl rfl ?_)))
 rintro pv1 S h2 u2 w2
 have ap1 := w2.box h1
 have h3 := u2.box h1 ap1
 refine Opl.p1 (n := Opl.nil (Evr.seq (Evr.sr rfl (Opl.p1 (n := Opl.nil (Evr.block ?_))))))
 refine Evr.loop (Evr.rounds (n := k) (Inv := fun n tm S => n ≤ k ∧ ∃ (x9_1 : List Int) (x10_1 : Int) (i2 : Abs.Id) (pv2 : PV), spec_l20Later.l0 n l1 a2 a3 x9_1 x10_1 a0_0 a0_1 a0_2 a0_3 = some r ∧ Has tm [(1, v1), (2, .lit (.int .i64 a2)), (3, .lit (.int .i64 a3)), (4, .ptr i2 0), (9, pv2), (10, .lit (.int .i64 x10_1))] ∧ Box (.ptr i2 0) [.lit (.int .i64 a0_0), .lit (.int .i64 a0_1), .lit (.int .i64 a0_2), .lit (.int .i64 a0_3)] S ∧ Vec (cInt .i64) x9_1 pv2 S ∧ Ap (.ptr i2 0) pv2) ?_ ?_ ?_)
 · exact ⟨Nat.le_refl _, _, _, _, _, H, ⟨rfl, rfl, rfl, rfl, rfl, rfl, trivial⟩, h3, h2, ap1⟩
 ·
  rintro tm S ⟨_, _, _, _, _, H, -⟩
  simp [spec_l20Later.l0] at H
 ·
  rintro n1 ih1 tm S ⟨hle, x9_1, x10_1, i2, pv2, H, hh, h4, h5, ap2⟩
  simp only [spec_l20Later.l0] at H
  rw [hh.eq]
  refine Evr.seq (Evr.sr rfl (Opl.p1 (n := Opl.p1 (n := Opl.p1 (n := Opl.nil ?_)))))
  by_cases c1 : x10_1 < a3
  case pos =>
   rw [if_pos c1] at H
   have e1 : (decide (x10_1 < a3)) = true := by simpa using c1
   try rw [e1]
   refine Evr.condT rfl (Evr.skip (Evr.seq (Evr.block (Evr.sr rfl (Opl.p1 (v := .ptr i2 0) (n := Opl.ldb (v := .lit (.int .i64 a0_0)) h4 rfl T3 rfl rfl rfl rfl (Opl.p1 (n := Opl.nil ?_))))))))
   refine Evr.join (fun tm S => ∃ (kq1 : Nat) (x9_2 : List Int) (i3 : Abs.Id) (pv3 : PV), spec_l20Later.l0 kq1 l1 a2 a3 x9_2 (wrap64 (x10_1 + 1)) a0_0 a0_1 a0_2 a0_3 = some r ∧ kq1 ≤ n1 ∧ Has tm [(1, v1), (2, .lit (.int .i64 a2)), (3, .lit (.int .i64 a3)), (4, .ptr i3 0), (9, pv3), (10, .lit (.int .i64 x10_1))] ∧ Box (.ptr i3 0) [.lit (.int .i64 a0_0), .lit (.int .i64 a0_1), .lit (.int .i64 a0_2), .lit (.int .i64 a0_3)] S ∧ Vec (cInt .i64) x9_2 pv3 S ∧ Ap (.ptr i3 0) pv3) ?_ fun hk1 => ?_
   ·
    rintro tm S ⟨kq1, x9_2, i3, pv3, H, hle, hh, h6, h7, ap3⟩
    rw [hh.eq]
    refine Evr.inBlock (Evr.regionN rfl (Opl.p1 (n := Opl.add (k := .i64) (a := x10_1) (b := 1) K3 rfl rfl rfl rfl (Opl.one (v := .lit (.int .i64 (wrap64 (x10_1 + 1)))) rfl rfl rfl (Opl.nil ?_)))))
    exact ih1 _ (by omega) _ _ ⟨by omega, _, _, _, _, H, ⟨rfl, rfl, rfl, rfl, rfl, rfl, trivial⟩, h6, h7, ap3⟩
   ·
    by_cases c2 : a0_0 = 7
    case pos =>
     rw [if_pos c2] at H
     have e2 : (a0_0 == 7) = true := by simpa using c2
     try rw [e2]
     refine Evr.condT rfl (Evr.regionN rfl (Opl.p1 (n := Opl.lits (M := (cInt .i64)) (ys := [1]) [.const (.int .i64 1)] K26 T3 rfl rfl rfl (by exact ⟨rfl, trivial⟩) rfl (by decide) rfl rfl rfl ?_)))
     rintro pv4 S h8 u3 w3
     have ap4 := w3.box h4
     have h9 := u3.box h4 ap4
     have ap5 := w3.vec h5
     have h10 := u3.vec h5 ap5
     obtain ⟨c3, H⟩ := peel H
     refine Opl.app (M := (cInt .i64)) (xs := x9_1) (ys := [1]) (v := pv2) h10 (.vec h8) (oInt .i64) rfl rfl K26 T3 rfl rfl (by (try simp only [List.length_cons, List.length_nil]); omega) (by show (_ + _) * 8 ≤ 140737488355328; (try simp only [List.length_cons, List.length_nil]); omega) rfl rfl rfl rfl rfl ?_
     rintro pv5 S h11 u4 w4
     have ap6 := w4.box h9
     have h12 := u4.box h9 ap2
     have ap7 := w4.vec h8
     have h13 := u4.vec h8 ap5.symm
     refine Opl.p1 (n := Opl.nil ?_)
     exact hk1 _ _ ⟨_, _, _, _, H, by omega, ⟨rfl, rfl, rfl, rfl, rfl, rfl, trivial⟩, h12, h11, ap6⟩
    rw [if_neg c2] at H
    have e3 : (a0_0 == 7) = false := by simpa using c2
    try rw [e3]
    refine Evr.condF rfl (Evr.regionN rfl (Opl.p1 (n := Opl.lits (M := (cInt .i64)) (ys := [0]) [.const (.int .i64 0)] K26 T3 rfl rfl rfl (by exact ⟨rfl, trivial⟩) rfl (by decide) rfl rfl rfl ?_)))
    rintro pv6 S h14 u5 w5
    have ap8 := w5.box h4
    have h15 := u5.box h4 ap8
    have ap9 := w5.vec h5
    have h16 := u5.vec h5 ap9
    obtain ⟨c4, H⟩ := peel H
    refine Opl.app (M := (cInt .i64)) (xs := x9_1) (ys := [0]) (v := pv2) h16 (.vec h14) (oInt .i64) rfl rfl K26 T3 rfl rfl (by (try simp only [List.length_cons, List.length_nil]); omega) (by show (_ + _) * 8 ≤ 140737488355328; (try simp only [List.length_cons, List.length_nil]); omega) rfl rfl rfl rfl rfl ?_
    rintro pv7 S h17 u6 w6
    have ap10 := w6.box h15
    have h18 := u6.box h15 ap2
    have ap11 := w6.vec h14
    have h19 := u6.vec h14 ap9.symm
    refine Opl.p1 (n := Opl.nil ?_)
    exact hk1 _ _ ⟨_, _, _, _, H, by omega, ⟨rfl, rfl, rfl, rfl, rfl, rfl, trivial⟩, h18, h17, ap10⟩
  rw [if_neg c1] at H
  have e4 : (decide (x10_1 < a3)) = false := by simpa using c1
  try rw [e4]
  refine Evr.condF rfl (Evr.exit rfl (Evr.seq (Evr.sr rfl (Opl.p1 (n := Opl.nil (Evr.block ?_))))))
  refine Evr.loop (Evr.rounds (n := n1) (Inv := fun n tm S => n ≤ n1 ∧ ∃ (x9_3 : List Int) (x11_1 : Int) (i4 : Abs.Id) (pv8 : PV), spec_l20Later.l1 n l1 a2 a3 x9_3 x11_1 a0_0 a0_1 a0_2 a0_3 = some r ∧ Has tm [(1, v1), (2, .lit (.int .i64 a2)), (3, .lit (.int .i64 a3)), (4, .ptr i4 0), (9, pv8), (11, .lit (.int .i64 x11_1))] ∧ Box (.ptr i4 0) [.lit (.int .i64 a0_0), .lit (.int .i64 a0_1), .lit (.int .i64 a0_2), .lit (.int .i64 a0_3)] S ∧ Vec (cInt .i64) x9_3 pv8 S ∧ Ap (.ptr i4 0) pv8) ?_ ?_ ?_)
  · exact ⟨Nat.le_refl _, _, _, _, _, H, ⟨rfl, rfl, rfl, rfl, rfl, rfl, trivial⟩, h4, h5, ap2⟩
  ·
   rintro tm S ⟨_, _, _, _, _, H, -⟩
   simp [spec_l20Later.l1] at H
  ·
   rintro n2 ih2 tm S ⟨hle, x9_3, x11_1, i4, pv8, H, hh, h20, h21, ap12⟩
   simp only [spec_l20Later.l1] at H
   rw [hh.eq]
   refine Evr.seq (Evr.sr rfl (Opl.p1 (n := Opl.p1 (n := Opl.p1 (n := Opl.nil ?_)))))
   by_cases c5 : x11_1 ≤ a3
   case neg =>
    rw [if_neg c5] at H
    have e18 : (decide (x11_1 ≤ a3)) = false := by simpa using c5
    try rw [e18]
    refine Evr.condF rfl (Evr.exit rfl (Evr.sr rfl (Opl.p1 (n := Opl.p1 (n := Opl.nil ?_)))))
    obtain rfl := Option.some.inj H
    refine Evr.ret1 Try.func112 rfl ?_
    show Vec _ _ pv8 _
    exact h21
   rw [if_pos c5] at H
   have e5 : (decide (x11_1 ≤ a3)) = true := by simpa using c5
   try rw [e5]
   refine Evr.condT rfl (Evr.skip (Evr.seq (Evr.block (Evr.sr rfl (Opl.p1 (n := Opl.subi (k := .i64) (a := a3) (b := 1) K3 rfl rfl rfl rfl (Opl.one (v := .lit (.int .i64 (wrap64 (a3 - 1)))) rfl rfl rfl (Opl.nil (Evr.block ?_)))))))))
   refine Evr.loop (Evr.rounds (n := n2) (Inv := fun n tm S => n ≤ n2 ∧ ∃ (x9_4 : List Int) (x12_1 : Int) (i5 : Abs.Id) (pv9 : PV), spec_l20Later.l2 n l1 a2 a3 x9_4 x11_1 x12_1 a0_0 a0_1 a0_2 a0_3 = some r ∧ Has tm [(1, v1), (2, .lit (.int .i64 a2)), (3, .lit (.int .i64 a3)), (4, .ptr i5 0), (9, pv9), (11, .lit (.int .i64 x11_1)), (12, .lit (.int .i64 x12_1))] ∧ Box (.ptr i5 0) [.lit (.int .i64 a0_0), .lit (.int .i64 a0_1), .lit (.int .i64 a0_2), .lit (.int .i64 a0_3)] S ∧ Vec (cInt .i64) x9_4 pv9 S ∧ Ap (.ptr i5 0) pv9) ?_ ?_ ?_)
   · exact ⟨Nat.le_refl _, _, _, _, _, H, ⟨rfl, rfl, rfl, rfl, rfl, rfl, rfl, trivial⟩, h20, h21, ap12⟩
   ·
    rintro tm S ⟨_, _, _, _, _, H, -⟩
    simp [spec_l20Later.l2] at H
   ·
    rintro n3 ih3 tm S ⟨hle, x9_4, x12_1, i5, pv9, H, hh, h22, h23, ap13⟩
    simp only [spec_l20Later.l2] at H
    rw [hh.eq]
    refine Evr.seq (Evr.sr rfl (Opl.p1 (n := Opl.p1 (n := Opl.nil ?_))))
    by_cases c6 : x12_1 ≥ 0
    case neg =>
     rw [if_neg c6] at H
     have e17 : (decide (x12_1 ≥ 0)) = false := by simpa using c6
     try rw [e17]
     refine Evr.condF rfl (Evr.exit rfl (Evr.inBlock (Evr.regionN rfl (Opl.p1 (n := Opl.add (k := .i64) (a := x11_1) (b := 1) K3 rfl rfl rfl rfl (Opl.one (v := .lit (.int .i64 (wrap64 (x11_1 + 1)))) rfl rfl rfl (Opl.nil ?_)))))))
     exact ih2 _ (by omega) _ _ ⟨by omega, _, _, _, _, H, ⟨rfl, rfl, rfl, rfl, rfl, rfl, trivial⟩, h22, h23, ap13⟩
    rw [if_pos c6] at H
    have e6 : (decide (x12_1 ≥ 0)) = true := by simpa using c6
    try rw [e6]
    refine Evr.condT rfl (Evr.skip (Evr.seq (Evr.block (Evr.sr rfl (Opl.p1 (n := Opl.p1 (v := .ptr i5 2) (n := Opl.ldb (v := .lit (.int .i64 a0_2)) h22 rfl T3 rfl rfl rfl rfl ?_)))))))
    obtain ⟨c7, H⟩ := peel H
    obtain ⟨c8, H⟩ := peel H
    obtain ⟨c9, H⟩ := peel H
    obtain ⟨c10, H⟩ := peel H
    obtain ⟨c11, H⟩ := peel H
    obtain ⟨c12, H⟩ := peel H
    obtain ⟨c13, H⟩ := peel H
    refine Opl.idx (M := (cSl (cInt .i64))) (xs := l1) (j := a0_2) ([] : List Int) (by exact hv1) rfl (by omega) (by omega) K23 Z26 rfl rfl ?_
    rintro p1 q1 h24
    obtain ⟨pv10, rfl, h25⟩ := h24
    refine Opl.lda (pv10) rfl T26 rfl rfl rfl rfl (Opl.p1 (n := Opl.idx (M := (cInt .i64)) (xs := (rd_Lint l1 a0_2)) (j := x12_1) (0 : Int) (by exact h25) rfl (by omega) (by omega) K26 Z3 rfl rfl ?_))
    rintro p2 q2 h26
    obtain rfl : p2 = [.lit (.int .i64 (rd (rd_Lint l1 a0_2) x12_1))] := h26
    refine Opl.lda (.lit (.int .i64 (rd (rd_Lint l1 a0_2) x12_1))) rfl T3 rfl rfl rfl rfl (Opl.p1 (n := Opl.nil (Evr.sr rfl (Opl.p1 (n := Opl.p1 (v := .ptr i5 3) (n := Opl.ldb (v := .lit (.int .i64 a0_3)) h22 rfl T3 rfl rfl rfl rfl (Opl.idx (M := (cSl (cInt .i64))) (xs := l1) (j := a0_3) ([] : List Int) (by exact hv1) rfl (by omega) (by omega) K23 Z26 rfl rfl ?_)))))))
    rintro p3 q3 h27
    obtain ⟨pv11, rfl, h28⟩ := h27
    refine Opl.lda (pv11) rfl T26 rfl rfl rfl rfl (Opl.p1 (n := Opl.idx (M := (cInt .i64)) (xs := (rd_Lint l1 a0_3)) (j := x12_1) (0 : Int) (by exact h28) rfl (by omega) (by omega) K26 Z3 rfl rfl ?_))
    rintro p4 q4 h29
    obtain rfl : p4 = [.lit (.int .i64 (rd (rd_Lint l1 a0_3) x12_1))] := h29
    refine Opl.lda (.lit (.int .i64 (rd (rd_Lint l1 a0_3) x12_1))) rfl T3 rfl rfl rfl rfl (Opl.p1 (n := Opl.nil (Evr.sr rfl (Opl.p1 (n := Opl.p1 (n := Opl.p1 (n := Opl.p1 (n := ?_))))))))
    obtain ⟨t137, h_t137, H⟩ := Option.bind_eq_some_iff.1 H
    refine Opl.callc (spec_l20Next.ev h_t137) rfl rfl rfl rfl ⟨(.lit _), (.lit _), (.lit _), trivial⟩ (by decide) ?_
    obtain ⟨c14, H⟩ := peel H
    obtain ⟨c15, H⟩ := peel H
    refine Opl.idv (M := (cInt .i64)) (xs := x9_4) (j := t137) (v := pv9) h23 rfl rfl (by omega) (by omega) K26 Z3 rfl rfl ?_
    rintro d1 z1 q5 h30 h31
    refine Opl.ldv (M := (cInt .i64)) (xs := x9_4) (j := t137) (0 : Int) h30 h31 (by omega) (by omega) rfl T3 rfl rfl rfl ?_
    rintro p5 q6 h32
    obtain rfl : p5 = [.lit (.int .i64 (rd x9_4 t137))] := h32
    refine ⟨.lit (.int .i64 (rd x9_4 t137)), rfl, ?_⟩
    refine Opl.p1 (n := Opl.nil (Evr.sr rfl (Opl.p1 (v := .ptr i5 0) (n := Opl.ldb (v := .lit (.int .i64 a0_0)) h22 rfl T3 rfl rfl rfl rfl (Opl.p1 (n := Opl.nil ?_))))))
    refine Evr.join (fun tm S => ∃ (kq2 : Nat) (x9_5 : List Int) (i6 : Abs.Id) (pv12 : PV), spec_l20Later.l2 kq2 l1 a2 a3 x9_5 x11_1 (wrap64 (x12_1 - 1)) a0_0 a0_1 a0_2 a0_3 = some r ∧ kq2 ≤ n3 ∧ Has tm [(1, v1), (2, .lit (.int .i64 a2)), (3, .lit (.int .i64 a3)), (4, .ptr i6 0), (9, pv12), (11, .lit (.int .i64 x11_1)), (12, .lit (.int .i64 x12_1))] ∧ Box (.ptr i6 0) [.lit (.int .i64 a0_0), .lit (.int .i64 a0_1), .lit (.int .i64 a0_2), .lit (.int .i64 a0_3)] S ∧ Vec (cInt .i64) x9_5 pv12 S ∧ Ap (.ptr i6 0) pv12) ?_ fun hk2 => ?_
    ·
     rintro tm S ⟨kq2, x9_5, i6, pv12, H, hle, hh, h33, h34, ap14⟩
     rw [hh.eq]
     refine Evr.inBlock (Evr.regionN rfl (Opl.p1 (n := Opl.subi (k := .i64) (a := x12_1) (b := 1) K3 rfl rfl rfl rfl (Opl.one (v := .lit (.int .i64 (wrap64 (x12_1 - 1)))) rfl rfl rfl (Opl.nil ?_)))))
     exact ih3 _ (by omega) _ _ ⟨by omega, _, _, _, _, H, ⟨rfl, rfl, rfl, rfl, rfl, rfl, rfl, trivial⟩, h33, h34, ap14⟩
    ·
     by_cases c16 : a0_0 = 6
     case pos =>
      rw [if_pos c16] at H
      have e7 : (a0_0 == 6) = true := by simpa using c16
      try rw [e7]
      refine Evr.condT rfl ?_
      refine Evr.join (fun tm S => ∃ (kq3 : Nat) (x9_6 : List Int) (i7 : Abs.Id) (pv13 : PV), spec_l20Later.l2 kq3 l1 a2 a3 x9_6 x11_1 (wrap64 (x12_1 - 1)) a0_0 a0_1 a0_2 a0_3 = some r ∧ kq3 ≤ n3 ∧ Has tm [(1, v1), (2, .lit (.int .i64 a2)), (3, .lit (.int .i64 a3)), (4, .ptr i7 0), (9, pv13), (11, .lit (.int .i64 x11_1)), (12, .lit (.int .i64 x12_1))] ∧ Box (.ptr i7 0) [.lit (.int .i64 a0_0), .lit (.int .i64 a0_1), .lit (.int .i64 a0_2), .lit (.int .i64 a0_3)] S ∧ Vec (cInt .i64) x9_6 pv13 S ∧ Ap (.ptr i7 0) pv13) ?_ fun hk3 => ?_
      ·
       rintro tm S ⟨kq3, x9_6, i7, pv13, H, hle, hh, h35, h36, ap15⟩
       rw [hh.eq]
       exact hk2 _ _ ⟨_, _, _, _, H, by omega, ⟨rfl, rfl, rfl, rfl, rfl, rfl, rfl, trivial⟩, h35, h36, ap15⟩
      ·
       refine Evr.regionN rfl (Opl.p1 (n := Opl.p1 (n := Opl.p1 (n := Opl.p1 (n := Opl.p1 (n := ?_))))))
       by_cases c17 : (rd (rd_Lint l1 a0_3) x12_1) = 1
       case pos =>
        rw [if_pos c17] at H
        have e8 : ((rd (rd_Lint l1 a0_3) x12_1) == 1) = true := by simpa using c17
        try rw [e8]
        refine Opl.skp rfl (Opl.skp rfl (Opl.skp rfl (Opl.skp rfl (Opl.skp rfl (Opl.skp rfl (Opl.p1 (n := ?_)))))))
        obtain ⟨t139, h_t139, H⟩ := Option.bind_eq_some_iff.1 H
        refine Opl.callc (spec_l1Truth.ev h_t139) rfl rfl rfl rfl ⟨(.lit _), trivial⟩ (by decide) ?_
        obtain ⟨c18, H⟩ := peel H
        refine Opl.idv (M := (cInt .i64)) (xs := x9_4) (j := x12_1) (v := pv9) h23 rfl rfl (by omega) (by omega) K26 Z3 rfl rfl ?_
        rintro d2 z2 q7 h37 h38
        refine Opl.stv (M := (cInt .i64)) (xs := x9_4) (j := x12_1) (y := t139) (vs := [.lit (.int .i64 t139)]) h37 h38 (by omega) (by omega) rfl rfl (by exact rfl) Z3 rfl rfl rfl rfl ?_
        rw [← q7]
        rintro S h39 u7
        have h40 := u7.box h22 ap13
        refine Opl.nil ?_
        exact hk3 _ _ ⟨_, _, _, _, H, by omega, ⟨rfl, rfl, rfl, rfl, rfl, rfl, rfl, trivial⟩, h40, h39, ap13⟩
       rw [if_neg c17] at H
       have e9 : ((rd (rd_Lint l1 a0_3) x12_1) == 1) = false := by simpa using c17
       try rw [e9]
       refine Opl.p1 (n := Opl.p1 (n := Opl.p1 (n := ?_)))
       by_cases c19 : (rd (rd_Lint l1 a0_2) x12_1) = 1
       case pos =>
        rw [if_pos c19] at H
        have e10 : ((rd (rd_Lint l1 a0_2) x12_1) == 1) = true := by simpa using c19
        try rw [e10]
        refine Opl.p1 (n := Opl.p1 (n := Opl.p1 (n := Opl.p1 (n := ?_))))
        obtain ⟨t141, h_t141, H⟩ := Option.bind_eq_some_iff.1 H
        refine Opl.callc (spec_l1Truth.ev h_t141) rfl rfl rfl rfl ⟨(.lit _), trivial⟩ (by decide) ?_
        obtain ⟨c20, H⟩ := peel H
        refine Opl.idv (M := (cInt .i64)) (xs := x9_4) (j := x12_1) (v := pv9) h23 rfl rfl (by omega) (by omega) K26 Z3 rfl rfl ?_
        rintro d3 z3 q8 h41 h42
        refine Opl.stv (M := (cInt .i64)) (xs := x9_4) (j := x12_1) (y := t141) (vs := [.lit (.int .i64 t141)]) h41 h42 (by omega) (by omega) rfl rfl (by exact rfl) Z3 rfl rfl rfl rfl ?_
        rw [← q8]
        rintro S h43 u8
        have h44 := u8.box h22 ap13
        refine Opl.nil ?_
        exact hk3 _ _ ⟨_, _, _, _, H, by omega, ⟨rfl, rfl, rfl, rfl, rfl, rfl, rfl, trivial⟩, h44, h43, ap13⟩
       rw [if_neg c19] at H
       have e11 : ((rd (rd_Lint l1 a0_2) x12_1) == 1) = false := by simpa using c19
       try rw [e11]
       refine Opl.skp rfl (Opl.skp rfl (Opl.p1 (n := Opl.p1 (n := ?_))))
       obtain ⟨t143, h_t143, H⟩ := Option.bind_eq_some_iff.1 H
       refine Opl.callc (spec_l1Truth.ev h_t143) rfl rfl rfl rfl ⟨(.lit _), trivial⟩ (by decide) ?_
       obtain ⟨c21, H⟩ := peel H
       refine Opl.idv (M := (cInt .i64)) (xs := x9_4) (j := x12_1) (v := pv9) h23 rfl rfl (by omega) (by omega) K26 Z3 rfl rfl ?_
       rintro d4 z4 q9 h45 h46
       refine Opl.stv (M := (cInt .i64)) (xs := x9_4) (j := x12_1) (y := t143) (vs := [.lit (.int .i64 t143)]) h45 h46 (by omega) (by omega) rfl rfl (by exact rfl) Z3 rfl rfl rfl rfl ?_
       rw [← q9]
       rintro S h47 u9
       have h48 := u9.box h22 ap13
       refine Opl.nil ?_
       exact hk3 _ _ ⟨_, _, _, _, H, by omega, ⟨rfl, rfl, rfl, rfl, rfl, rfl, rfl, trivial⟩, h48, h47, ap13⟩
     rw [if_neg c16] at H
     have e12 : (a0_0 == 6) = false := by simpa using c16
     try rw [e12]
     refine Evr.condF rfl ?_
     refine Evr.join (fun tm S => ∃ (kq4 : Nat) (x9_7 : List Int) (i8 : Abs.Id) (pv14 : PV), spec_l20Later.l2 kq4 l1 a2 a3 x9_7 x11_1 (wrap64 (x12_1 - 1)) a0_0 a0_1 a0_2 a0_3 = some r ∧ kq4 ≤ n3 ∧ Has tm [(1, v1), (2, .lit (.int .i64 a2)), (3, .lit (.int .i64 a3)), (4, .ptr i8 0), (9, pv14), (11, .lit (.int .i64 x11_1)), (12, .lit (.int .i64 x12_1))] ∧ Box (.ptr i8 0) [.lit (.int .i64 a0_0), .lit (.int .i64 a0_1), .lit (.int .i64 a0_2), .lit (.int .i64 a0_3)] S ∧ Vec (cInt .i64) x9_7 pv14 S ∧ Ap (.ptr i8 0) pv14) ?_ fun hk4 => ?_
     ·
      rintro tm S ⟨kq4, x9_7, i8, pv14, H, hle, hh, h49, h50, ap16⟩
      rw [hh.eq]
      exact hk2 _ _ ⟨_, _, _, _, H, by omega, ⟨rfl, rfl, rfl, rfl, rfl, rfl, rfl, trivial⟩, h49, h50, ap16⟩
     ·
      refine Evr.regionN rfl (Opl.p1 (n := Opl.p1 (n := Opl.p1 (n := Opl.p1 (n := Opl.p1 (n := ?_))))))
      by_cases c22 : (rd (rd_Lint l1 a0_3) x12_1) = 1
      case neg =>
       rw [if_neg c22] at H
       have e16 : ((rd (rd_Lint l1 a0_3) x12_1) == 1) = false := by simpa using c22
       try rw [e16]
       refine Opl.skp rfl (Opl.skp rfl (Opl.skp rfl (Opl.skp rfl (Opl.skp rfl (Opl.skp rfl (Opl.p1 (n := ?_)))))))
       obtain ⟨t149, h_t149, H⟩ := Option.bind_eq_some_iff.1 H
       refine Opl.callc (spec_l1Truth.ev h_t149) rfl rfl rfl rfl ⟨(.lit _), trivial⟩ (by decide) ?_
       obtain ⟨c26, H⟩ := peel H
       refine Opl.idv (M := (cInt .i64)) (xs := x9_4) (j := x12_1) (v := pv9) h23 rfl rfl (by omega) (by omega) K26 Z3 rfl rfl ?_
       rintro d7 z7 q12 h59 h60
       refine Opl.stv (M := (cInt .i64)) (xs := x9_4) (j := x12_1) (y := t149) (vs := [.lit (.int .i64 t149)]) h59 h60 (by omega) (by omega) rfl rfl (by exact rfl) Z3 rfl rfl rfl rfl ?_
       rw [← q12]
       rintro S h61 u12
       have h62 := u12.box h22 ap13
       refine Opl.nil ?_
       exact hk4 _ _ ⟨_, _, _, _, H, by omega, ⟨rfl, rfl, rfl, rfl, rfl, rfl, rfl, trivial⟩, h62, h61, ap13⟩
      rw [if_pos c22] at H
      have e13 : ((rd (rd_Lint l1 a0_3) x12_1) == 1) = true := by simpa using c22
      try rw [e13]
      refine Opl.p1 (n := Opl.p1 (n := Opl.p1 (n := ?_)))
      by_cases c23 : (rd (rd_Lint l1 a0_2) x12_1) = 1
      case pos =>
       rw [if_pos c23] at H
       have e14 : ((rd (rd_Lint l1 a0_2) x12_1) == 1) = true := by simpa using c23
       try rw [e14]
       refine Opl.skp rfl (Opl.skp rfl (Opl.p1 (n := Opl.p1 (n := ?_))))
       obtain ⟨t145, h_t145, H⟩ := Option.bind_eq_some_iff.1 H
       refine Opl.callc (spec_l1Truth.ev h_t145) rfl rfl rfl rfl ⟨(.lit _), trivial⟩ (by decide) ?_
       obtain ⟨c24, H⟩ := peel H
       refine Opl.idv (M := (cInt .i64)) (xs := x9_4) (j := x12_1) (v := pv9) h23 rfl rfl (by omega) (by omega) K26 Z3 rfl rfl ?_
       rintro d5 z5 q10 h51 h52
       refine Opl.stv (M := (cInt .i64)) (xs := x9_4) (j := x12_1) (y := t145) (vs := [.lit (.int .i64 t145)]) h51 h52 (by omega) (by omega) rfl rfl (by exact rfl) Z3 rfl rfl rfl rfl ?_
       rw [← q10]
       rintro S h53 u10
       have h54 := u10.box h22 ap13
       refine Opl.nil ?_
       exact hk4 _ _ ⟨_, _, _, _, H, by omega, ⟨rfl, rfl, rfl, rfl, rfl, rfl, rfl, trivial⟩, h54, h53, ap13⟩
      rw [if_neg c23] at H
      have e15 : ((rd (rd_Lint l1 a0_2) x12_1) == 1) = false := by simpa using c23
      try rw [e15]
      refine Opl.p1 (n := Opl.p1 (n := Opl.p1 (n := Opl.p1 (n := ?_))))
      obtain ⟨t147, h_t147, H⟩ := Option.bind_eq_some_iff.1 H
      refine Opl.callc (spec_l1Truth.ev h_t147) rfl rfl rfl rfl ⟨(.lit _), trivial⟩ (by decide) ?_
      obtain ⟨c25, H⟩ := peel H
      refine Opl.idv (M := (cInt .i64)) (xs := x9_4) (j := x12_1) (v := pv9) h23 rfl rfl (by omega) (by omega) K26 Z3 rfl rfl ?_
      rintro d6 z6 q11 h55 h56
      refine Opl.stv (M := (cInt .i64)) (xs := x9_4) (j := x12_1) (y := t147) (vs := [.lit (.int .i64 t147)]) h55 h56 (by omega) (by omega) rfl rfl (by exact rfl) Z3 rfl rfl rfl rfl ?_
      rw [← q11]
      rintro S h57 u11
      have h58 := u11.box h22 ap13
      refine Opl.nil ?_
      exact hk4 _ _ ⟨_, _, _, _, H, by omega, ⟨rfl, rfl, rfl, rfl, rfl, rfl, rfl, trivial⟩, h58, h57, ap13⟩
theorem spec_l3At.ev {l0 : List (List Int)} {v0 : PV} (hv0 : Sl (cSl (cInt .i64)) l0 v0) {l1 : List (List Int)} {v1 : PV} (hv1 : Sl (cSl (cInt .i64)) l1 v1) {a2 : Int} {r : (List Int)} (H : spec_l3At.f l0 l1 a2 = some r) : Ret Try.prog 41 [v0, v1, .lit (.int .i64 a2)] fun v S => Out (fun q => Sl (cInt .i64) r q) v S := by
 unfold spec_l3At.f at H
 refine Ret.intro Try.func41 rfl (Nat.le_of_ble_eq_true rfl) rfl ?_
 rw [tm3]
 refine Evr.sr rfl (Opl.p1 (n := Opl.nil (Evr.seq (Evr.sr rfl (Opl.p1 (n := Opl.p1 (n := Opl.len (xs := l0) (by exact hv0) K23 rfl rfl rfl rfl (Opl.p1 (n := Opl.nil ?_)))))))))
 by_cases c1 : a2 < (l0.length : Int)
 case pos =>
  rw [if_pos c1] at H
  have e1 : (decide (a2 < (l0.length : Int))) = true := by simpa using c1
  try rw [e1]
  refine Evr.condT rfl (Evr.sr rfl (Opl.p1 (n := Opl.p1 (n := ?_))))
  obtain ⟨c2, H⟩ := peel H
  refine Opl.idx (M := (cSl (cInt .i64))) (xs := l0) (j := a2) ([] : List Int) (by exact hv0) rfl (by omega) (by omega) K23 Z26 rfl rfl ?_
  rintro p1 q1 h1
  obtain ⟨pv1, rfl, h2⟩ := h1
  refine Opl.lda (pv1) rfl T26 rfl rfl rfl rfl (Opl.p1 (n := Opl.nil ?_))
  obtain rfl := Option.some.inj H
  refine Evr.ret1 Try.func41 rfl ?_
  show Out _ pv1 _
  exact (.sl h2)
 rw [if_neg c1] at H
 have e2 : (decide (a2 < (l0.length : Int))) = false := by simpa using c1
 try rw [e2]
 refine Evr.condF rfl (Evr.skip (Evr.sr rfl (Opl.p1 (n := Opl.p1 (n := Opl.p1 (n := Opl.len (xs := l0) (by exact hv0) K23 rfl rfl rfl rfl (Opl.subi (k := .i64) (a := a2) (b := (l0.length : Int)) K3 rfl rfl rfl rfl (Opl.one (v := v1) rfl rfl rfl (Opl.len (xs := l1) (by exact hv1) K23 rfl rfl rfl rfl ?_)))))))))
 obtain ⟨c3, H⟩ := peelN H
 obtain ⟨c4, H⟩ := peel H
 obtain ⟨c5, H⟩ := peel H
 refine Opl.one (v := .lit (.int .i64 (Int.tmod (wrap64 (a2 - (l0.length : Int))) (l1.length : Int)))) rfl rfl (by simp only [go_sem]; rw [if_neg (by first | assumption | decide | omega)]; rfl) (Opl.idx (M := (cSl (cInt .i64))) (xs := l1) (j := (Int.tmod (wrap64 (a2 - (l0.length : Int))) (l1.length : Int))) ([] : List Int) (by exact hv1) rfl (by omega) (by omega) K23 Z26 rfl rfl ?_)
 rintro p2 q2 h3
 obtain ⟨pv2, rfl, h4⟩ := h3
 refine Opl.lda (pv2) rfl T26 rfl rfl rfl rfl (Opl.one (v := pv2) rfl rfl rfl (Opl.nil ?_))
 obtain rfl := Option.some.inj H
 refine Evr.ret1 Try.func41 rfl ?_
 show Out _ pv2 _
 exact (.sl h4)
theorem spec_l20Row.ev {k : Nat} {a0_0 : Int} {a0_1 : Int} {a0_2 : Int} {a0_3 : Int} {l1 : List (List Int)} {v1 : PV} (hv1 : Sl (cSl (cInt .i64)) l1 v1) {l2 : List (List Int)} {v2 : PV} (hv2 : Sl (cSl (cInt .i64)) l2 v2) {l3 : List (List Int)} {v3 : PV} (hv3 : Sl (cSl (cInt .i64)) l3 v3) {r : (List Int)} (H : spec_l20Row.f k a0_0 a0_1 a0_2 a0_3 l1 l2 l3 = some r) : Ret Try.prog 72 [.agg [.lit (.int .i64 a0_0), .lit (.int .i64 a0_1), .lit (.int .i64 a0_2), .lit (.int .i64 a0_3)], v1, v2, v3] fun v S => Vec (cInt .i64) r v S := by
 unfold spec_l20Row.f at H
 refine Ret.intro Try.func72 rfl (Nat.le_of_ble_eq_true rfl) rfl ?_
 rw [tm4]
 refine Evr.sr rfl (Opl.box (cs := [.lit (.int .i64 a0_0), .lit (.int .i64 a0_1), .lit (.int .i64 a0_2), .lit (.int .i64 a0_3)]) rfl rfl rfl rfl ?_)
 rintro i1 S h1 u1 w1
 refine Opl.p1 (n := Opl.nil (Evr.sr rfl (Opl.p1 (n := Opl.len (xs := l2) (by exact hv2) K23 rfl rfl rfl rfl (Opl.p1 (n := Opl.len (xs := l3) (by exact hv3) K23 rfl rfl rfl rfl (Opl.add (k := .i64) (a := (l2.length : Int)) (b := (l3.length : Int)) K3 rfl rfl rfl rfl (Opl.one (v := .lit (.int .i64 (wrap64 ((l2.length : Int) + (l3.length : Int))))) rfl rfl rfl (Opl.nil (Evr.seq (Evr.sr rfl (Opl.p1 (v := .ptr i1 0) (n := Opl.ldb (v := .lit (.int .i64 a0_0)) h1 rfl T3 rfl rfl rfl rfl (Opl.p1 (n := Opl.nil ?_)))))))))))))))
 by_cases c1 : a0_0 ≥ 6
 case pos =>
  rw [if_pos c1] at H
  have e1 : (decide (a0_0 ≥ 6)) = true := by simpa using c1
  try rw [e1]
  refine Evr.condT rfl (Evr.sr rfl (Opl.ldb (v := .agg [.lit (.int .i64 a0_0), .lit (.int .i64 a0_1), .lit (.int .i64 a0_2), .lit (.int .i64 a0_3)]) h1 rfl T64 rfl rfl rfl rfl (Opl.one (v := v1) rfl rfl rfl (Opl.one (v := v2) rfl rfl rfl (Opl.len (xs := l2) (by exact hv2) K23 rfl rfl rfl rfl (Opl.one (v := .lit (.int .i64 (wrap64 ((l2.length : Int) + (l3.length : Int))))) rfl rfl rfl ?_))))))
  obtain ⟨t152, h_t152, H⟩ := Option.bind_eq_some_iff.1 H
  refine Opl.calla (spec_l20Later.ev hv1 h_t152) rfl rfl rfl rfl ⟨(.aggL ⟨(.lit _), (.lit _), (.lit _), (.lit _), trivial⟩), hv1.plain, (.lit _), (.lit _), trivial⟩ rfl ?_
  rintro pv1 S h2 u2 w2
  have ap1 := w2.box h1
  have h3 := u2.box h1 ap1
  refine Opl.one (v := pv1) rfl rfl rfl (Opl.nil ?_)
  obtain rfl := Option.some.inj H
  refine Evr.ret1 Try.func72 rfl ?_
  show Vec _ _ pv1 _
  exact h2
 rw [if_neg c1] at H
 have e2 : (decide (a0_0 ≥ 6)) = false := by simpa using c1
 try rw [e2]
 refine Evr.condF rfl (Evr.skip (Evr.sr rfl (Opl.lits (M := (cInt .i64)) (ys := []) [] K26 T3 rfl rfl rfl trivial rfl (by decide) rfl rfl rfl ?_)))
 rintro pv2 S h4 u3 w3
 have ap2 := w3.box h1
 have h5 := u3.box h1 ap2
 refine Opl.one (v := pv2) rfl rfl rfl (Opl.nil (Evr.seq (Evr.sr rfl (Opl.one (v := .lit (.int .i64 0)) rfl rfl rfl (Opl.nil (Evr.block ?_))))))
 refine Evr.loop (Evr.rounds (n := k) (Inv := fun n tm S => n ≤ k ∧ ∃ (x10_1 : List Int) (x11_1 : Int) (i2 : Abs.Id) (pv3 : PV), spec_l20Row.l0 n l1 l2 l3 (wrap64 ((l2.length : Int) + (l3.length : Int))) x10_1 x11_1 a0_0 a0_1 a0_2 a0_3 = some r ∧ Has tm [(1, v1), (2, v2), (3, v3), (4, .ptr i2 0), (9, .lit (.int .i64 (wrap64 ((l2.length : Int) + (l3.length : Int))))), (10, pv3), (11, .lit (.int .i64 x11_1))] ∧ Box (.ptr i2 0) [.lit (.int .i64 a0_0), .lit (.int .i64 a0_1), .lit (.int .i64 a0_2), .lit (.int .i64 a0_3)] S ∧ Vec (cInt .i64) x10_1 pv3 S ∧ Ap (.ptr i2 0) pv3) ?_ ?_ ?_)
 · exact ⟨Nat.le_refl _, _, _, _, _, H, ⟨rfl, rfl, rfl, rfl, rfl, rfl, rfl, trivial⟩, h5, h4, ap2⟩
 ·
  rintro tm S ⟨_, _, _, _, _, H, -⟩
  simp [spec_l20Row.l0] at H
 ·
  rintro n1 ih1 tm S ⟨hle, x10_1, x11_1, i2, pv3, H, hh, h6, h7, ap3⟩
  simp only [spec_l20Row.l0] at H
  rw [hh.eq]
  refine Evr.seq (Evr.sr rfl (Opl.one (v := .lit (.int .i64 x11_1)) rfl rfl rfl (Opl.one (v := .lit (.int .i64 (wrap64 ((l2.length : Int) + (l3.length : Int))))) rfl rfl rfl (Opl.lss (a := x11_1) (b := (wrap64 ((l2.length : Int) + (l3.length : Int)))) K3 rfl rfl rfl rfl (Opl.nil ?_)))))
  by_cases c2 : x11_1 < (wrap64 ((l2.length : Int) + (l3.length : Int)))
  case neg =>
   rw [if_neg c2] at H
   have e14 : (decide (x11_1 < (wrap64 ((l2.length : Int) + (l3.length : Int))))) = false := by simpa using c2
   try rw [e14]
   refine Evr.condF rfl (Evr.exit rfl (Evr.sr rfl (Opl.one (v := pv3) rfl rfl rfl (Opl.one (v := pv3) rfl rfl rfl (Opl.nil ?_)))))
   obtain rfl := Option.some.inj H
   refine Evr.ret1 Try.func72 rfl ?_
   show Vec _ _ pv3 _
   exact h7
  rw [if_pos c2] at H
  have e3 : (decide (x11_1 < (wrap64 ((l2.length : Int) + (l3.length : Int))))) = true := by simpa using c2
  try rw [e3]
  refine Evr.condT rfl (Evr.skip (Evr.seq (Evr.block (Evr.sr rfl (Opl.one (v := .lit (.int .i64 1)) rfl rfl rfl (Opl.nil (Evr.seq (Evr.sr rfl (Opl.p1 (v := .ptr i2 0) (n := Opl.ldb (v := .lit (.int .i64 a0_0)) h6 rfl T3 rfl rfl rfl rfl (Opl.p1 (n := Opl.nil ?_))))))))))))
  by_cases c3 : a0_0 = 1
  case pos =>
   rw [if_pos c3] at H
   have e4 : (a0_0 == 1) = true := by simpa using c3
   try rw [e4]
   refine Evr.condT rfl (Evr.regionD rfl (by kernel_rfl) (Opl.one (v := v2) rfl rfl rfl (Opl.one (v := v3) rfl rfl rfl (Opl.one (v := .lit (.int .i64 x11_1)) rfl rfl rfl ?_))))
   obtain ⟨t158, h_t158, H⟩ := Option.bind_eq_some_iff.1 H
   refine Opl.call (spec_l3At.ev hv2 hv3 h_t158) rfl rfl rfl rfl ⟨hv2.plain, hv3.plain, (.lit _), trivial⟩ (by decide) ?_
   rintro pv4 h8
   refine Opl.p1 (v := .ptr i2 1) (n := Opl.ldb (v := .lit (.int .i64 a0_1)) h6 rfl T3 rfl rfl rfl rfl ?_)
   obtain ⟨c4, H⟩ := peel H
   obtain ⟨c5, H⟩ := peel H
   obtain ⟨c6, H⟩ := peel H
   refine Opl.idx (M := (cInt .i64)) (xs := t158) (j := a0_1) (0 : Int) (by exact h8) rfl (by omega) (by omega) K26 Z3 rfl rfl ?_
   rintro p1 q1 h9
   obtain rfl : p1 = [.lit (.int .i64 (rd t158 a0_1))] := h9
   refine Opl.lda (.lit (.int .i64 (rd t158 a0_1))) rfl T3 rfl rfl rfl rfl (Opl.one (v := .lit (.int .i64 (rd t158 a0_1))) rfl rfl rfl (Opl.nil (Evr.regionN rfl (Opl.one (v := pv3) rfl rfl rfl (Opl.one (v := .lit (.int .i64 (rd t158 a0_1))) rfl rfl rfl (Opl.lits (M := (cInt .i64)) (ys := [(rd t158 a0_1)]) [.tmp 114] K26 T3 rfl rfl rfl (by exact ⟨rfl, trivial⟩) rfl (by decide) rfl rfl rfl ?_))))))
   rintro pv5 S h10 u4 w4
   have ap4 := w4.box h6
   have h11 := u4.box h6 ap4
   have ap5 := w4.vec h7
   have h12 := u4.vec h7 ap5
   refine Opl.app (M := (cInt .i64)) (xs := x10_1) (ys := [(rd t158 a0_1)]) (v := pv3) h12 (.vec h10) (oInt .i64) rfl rfl K26 T3 rfl rfl (by (try simp only [List.length_cons, List.length_nil]); omega) (by show (_ + _) * 8 ≤ 140737488355328; (try simp only [List.length_cons, List.length_nil]); omega) rfl rfl rfl rfl rfl ?_
   rintro pv6 S h13 u5 w5
   have ap6 := w5.box h11
   have h14 := u5.box h11 ap3
   have ap7 := w5.vec h10
   have h15 := u5.vec h10 ap5.symm
   refine Opl.one (v := pv6) rfl rfl rfl (Opl.nil (Evr.inBlock (Evr.regionN rfl (Opl.one (v := .lit (.int .i64 x11_1)) rfl rfl rfl (Opl.add (k := .i64) (a := x11_1) (b := 1) K3 rfl rfl rfl rfl (Opl.one (v := .lit (.int .i64 (wrap64 (x11_1 + 1)))) rfl rfl rfl (Opl.nil ?_)))))))
   exact ih1 _ (by omega) _ _ ⟨by omega, _, _, _, _, H, ⟨rfl, rfl, rfl, rfl, rfl, rfl, rfl, trivial⟩, h14, h13, ap6⟩
  rw [if_neg c3] at H
  have e5 : (a0_0 == 1) = false := by simpa using c3
  try rw [e5]
  refine Evr.condF rfl (Evr.sr rfl (Opl.p1 (v := .ptr i2 0) (n := Opl.ldb (v := .lit (.int .i64 a0_0)) h6 rfl T3 rfl rfl rfl rfl (Opl.p1 (n := Opl.nil ?_)))))
  by_cases c7 : a0_0 = 2
  case pos =>
   rw [if_pos c7] at H
   have e6 : (a0_0 == 2) = true := by simpa using c7
   try rw [e6]
   refine Evr.condT rfl (Evr.regionN rfl (Opl.one (v := v1) rfl rfl rfl (Opl.p1 (v := .ptr i2 2) (n := Opl.ldb (v := .lit (.int .i64 a0_2)) h6 rfl T3 rfl rfl rfl rfl ?_))))
   obtain ⟨c8, H⟩ := peel H
   obtain ⟨c9, H⟩ := peel H
   obtain ⟨c10, H⟩ := peel H
   obtain ⟨c11, H⟩ := peel H
   obtain ⟨c12, H⟩ := peel H
   refine Opl.idx (M := (cSl (cInt .i64))) (xs := l1) (j := a0_2) ([] : List Int) (by exact hv1) rfl (by omega) (by omega) K23 Z26 rfl rfl ?_
   rintro p2 q2 h16
   obtain ⟨pv7, rfl, h17⟩ := h16
   refine Opl.lda (pv7) rfl T26 rfl rfl rfl rfl (Opl.one (v := .lit (.int .i64 x11_1)) rfl rfl rfl (Opl.idx (M := (cInt .i64)) (xs := (rd_Lint l1 a0_2)) (j := x11_1) (0 : Int) (by exact h17) rfl (by omega) (by omega) K26 Z3 rfl rfl ?_))
   rintro p3 q3 h18
   obtain rfl : p3 = [.lit (.int .i64 (rd (rd_Lint l1 a0_2) x11_1))] := h18
   refine Opl.lda (.lit (.int .i64 (rd (rd_Lint l1 a0_2) x11_1))) rfl T3 rfl rfl rfl rfl (Opl.subi (k := .i64) (a := 1) (b := (rd (rd_Lint l1 a0_2) x11_1)) K3 rfl rfl rfl rfl (Opl.one (v := .lit (.int .i64 (wrap64 (1 - (rd (rd_Lint l1 a0_2) x11_1))))) rfl rfl rfl (Opl.nil (Evr.regionN rfl (Opl.one (v := pv3) rfl rfl rfl (Opl.one (v := .lit (.int .i64 (wrap64 (1 - (rd (rd_Lint l1 a0_2) x11_1))))) rfl rfl rfl (Opl.lits (M := (cInt .i64)) (ys := [(wrap64 (1 - (rd (rd_Lint l1 a0_2) x11_1)))]) [.tmp 114] K26 T3 rfl rfl rfl (by exact ⟨rfl, trivial⟩) rfl (by decide) rfl rfl rfl ?_)))))))
   rintro pv8 S h19 u6 w6
   have ap8 := w6.box h6
   have h20 := u6.box h6 ap8
   have ap9 := w6.vec h7
   have h21 := u6.vec h7 ap9
   refine Opl.app (M := (cInt .i64)) (xs := x10_1) (ys := [(wrap64 (1 - (rd (rd_Lint l1 a0_2) x11_1)))]) (v := pv3) h21 (.vec h19) (oInt .i64) rfl rfl K26 T3 rfl rfl (by (try simp only [List.length_cons, List.length_nil]); omega) (by show (_ + _) * 8 ≤ 140737488355328; (try simp only [List.length_cons, List.length_nil]); omega) rfl rfl rfl rfl rfl ?_
   rintro pv9 S h22 u7 w7
   have ap10 := w7.box h20
   have h23 := u7.box h20 ap3
   have ap11 := w7.vec h19
   have h24 := u7.vec h19 ap9.symm
   refine Opl.one (v := pv9) rfl rfl rfl (Opl.nil (Evr.inBlock (Evr.regionN rfl (Opl.one (v := .lit (.int .i64 x11_1)) rfl rfl rfl (Opl.add (k := .i64) (a := x11_1) (b := 1) K3 rfl rfl rfl rfl (Opl.one (v := .lit (.int .i64 (wrap64 (x11_1 + 1)))) rfl rfl rfl (Opl.nil ?_)))))))
   exact ih1 _ (by omega) _ _ ⟨by omega, _, _, _, _, H, ⟨rfl, rfl, rfl, rfl, rfl, rfl, rfl, trivial⟩, h23, h22, ap10⟩
  rw [if_neg c7] at H
  have e7 : (a0_0 == 2) = false := by simpa using c7
  try rw [e7]
  refine Evr.condF rfl (Evr.sr rfl (Opl.p1 (v := .ptr i2 0) (n := Opl.ldb (v := .lit (.int .i64 a0_0)) h6 rfl T3 rfl rfl rfl rfl (Opl.p1 (n := Opl.nil ?_)))))
  by_cases c13 : a0_0 = 3
  case pos =>
   rw [if_pos c13] at H
   have e8 : (a0_0 == 3) = true := by simpa using c13
   try rw [e8]
   refine Evr.condT rfl (Evr.regionD rfl (by kernel_rfl) (Opl.one (v := v1) rfl rfl rfl (Opl.p1 (v := .ptr i2 2) (n := Opl.ldb (v := .lit (.int .i64 a0_2)) h6 rfl T3 rfl rfl rfl rfl ?_))))
   obtain ⟨c14, H⟩ := peel H
   obtain ⟨c15, H⟩ := peel H
   obtain ⟨c16, H⟩ := peel H
   obtain ⟨c17, H⟩ := peel H
   obtain ⟨c18, H⟩ := peel H
   obtain ⟨c19, H⟩ := peel H
   obtain ⟨c20, H⟩ := peel H
   obtain ⟨c21, H⟩ := peel H
   refine Opl.idx (M := (cSl (cInt .i64))) (xs := l1) (j := a0_2) ([] : List Int) (by exact hv1) rfl (by omega) (by omega) K23 Z26 rfl rfl ?_
   rintro p4 q4 h25
   obtain ⟨pv10, rfl, h26⟩ := h25
   refine Opl.lda (pv10) rfl T26 rfl rfl rfl rfl (Opl.one (v := .lit (.int .i64 x11_1)) rfl rfl rfl (Opl.idx (M := (cInt .i64)) (xs := (rd_Lint l1 a0_2)) (j := x11_1) (0 : Int) (by exact h26) rfl (by omega) (by omega) K26 Z3 rfl rfl ?_))
   rintro p5 q5 h27
   obtain rfl : p5 = [.lit (.int .i64 (rd (rd_Lint l1 a0_2) x11_1))] := h27
   refine Opl.lda (.lit (.int .i64 (rd (rd_Lint l1 a0_2) x11_1))) rfl T3 rfl rfl rfl rfl (Opl.one (v := v1) rfl rfl rfl (Opl.p1 (v := .ptr i2 3) (n := Opl.ldb (v := .lit (.int .i64 a0_3)) h6 rfl T3 rfl rfl rfl rfl (Opl.idx (M := (cSl (cInt .i64))) (xs := l1) (j := a0_3) ([] : List Int) (by exact hv1) rfl (by omega) (by omega) K23 Z26 rfl rfl ?_))))
   rintro p6 q6 h28
   obtain ⟨pv11, rfl, h29⟩ := h28
   refine Opl.lda (pv11) rfl T26 rfl rfl rfl rfl (Opl.one (v := .lit (.int .i64 x11_1)) rfl rfl rfl (Opl.idx (M := (cInt .i64)) (xs := (rd_Lint l1 a0_3)) (j := x11_1) (0 : Int) (by exact h29) rfl (by omega) (by omega) K26 Z3 rfl rfl ?_))
   rintro p7 q7 h30
   obtain rfl : p7 = [.lit (.int .i64 (rd (rd_Lint l1 a0_3) x11_1))] := h30
   refine Opl.lda (.lit (.int .i64 (rd (rd_Lint l1 a0_3) x11_1))) rfl T3 rfl rfl rfl rfl (Opl.mul (k := .i64) (a := (rd (rd_Lint l1 a0_2) x11_1)) (b := (rd (rd_Lint l1 a0_3) x11_1)) K3 rfl rfl rfl rfl (Opl.one (v := .lit (.int .i64 (wrap64 ((rd (rd_Lint l1 a0_2) x11_1) * (rd (rd_Lint l1 a0_3) x11_1))))) rfl rfl rfl (Opl.nil (Evr.regionN rfl (Opl.one (v := pv3) rfl rfl rfl (Opl.one (v := .lit (.int .i64 (wrap64 ((rd (rd_Lint l1 a0_2) x11_1) * (rd (rd_Lint l1 a0_3) x11_1))))) rfl rfl rfl (Opl.lits (M := (cInt .i64)) (ys := [(wrap64 ((rd (rd_Lint l1 a0_2) x11_1) * (rd (rd_Lint l1 a0_3) x11_1)))]) [.tmp 114] K26 T3 rfl rfl rfl (by exact ⟨rfl, trivial⟩) rfl (by decide) rfl rfl rfl ?_)))))))
   rintro pv12 S h31 u8 w8
   have ap12 := w8.box h6
   have h32 := u8.box h6 ap12
   have ap13 := w8.vec h7
   have h33 := u8.vec h7 ap13
   refine Opl.app (M := (cInt .i64)) (xs := x10_1) (ys := [(wrap64 ((rd (rd_Lint l1 a0_2) x11_1) * (rd (rd_Lint l1 a0_3) x11_1)))]) (v := pv3) h33 (.vec h31) (oInt .i64) rfl rfl K26 T3 rfl rfl (by (try simp only [List.length_cons, List.length_nil]); omega) (by show (_ + _) * 8 ≤ 140737488355328; (try simp only [List.length_cons, List.length_nil]); omega) rfl rfl rfl rfl rfl ?_
   rintro pv13 S h34 u9 w9
   have ap14 := w9.box h32
   have h35 := u9.box h32 ap3
   have ap15 := w9.vec h31
   have h36 := u9.vec h31 ap13.symm
   refine Opl.one (v := pv13) rfl rfl rfl (Opl.nil (Evr.inBlock (Evr.regionN rfl (Opl.one (v := .lit (.int .i64 x11_1)) rfl rfl rfl (Opl.add (k := .i64) (a := x11_1) (b := 1) K3 rfl rfl rfl rfl (Opl.one (v := .lit (.int .i64 (wrap64 (x11_1 + 1)))) rfl rfl rfl (Opl.nil ?_)))))))
   exact ih1 _ (by omega) _ _ ⟨by omega, _, _, _, _, H, ⟨rfl, rfl, rfl, rfl, rfl, rfl, rfl, trivial⟩, h35, h34, ap14⟩
  rw [if_neg c13] at H
  have e9 : (a0_0 == 3) = false := by simpa using c13
  try rw [e9]
  refine Evr.condF rfl (Evr.sr rfl (Opl.p1 (v := .ptr i2 0) (n := Opl.ldb (v := .lit (.int .i64 a0_0)) h6 rfl T3 rfl rfl rfl rfl (Opl.p1 (n := Opl.nil ?_)))))
  by_cases c22 : a0_0 = 4
  case pos =>
   rw [if_pos c22] at H
   have e10 : (a0_0 == 4) = true := by simpa using c22
   try rw [e10]
   refine Evr.condT rfl (Evr.regionD rfl (by kernel_rfl) (Opl.one (v := v1) rfl rfl rfl (Opl.p1 (v := .ptr i2 2) (n := Opl.ldb (v := .lit (.int .i64 a0_2)) h6 rfl T3 rfl rfl rfl rfl ?_))))
   obtain ⟨c23, H⟩ := peel H
   obtain ⟨c24, H⟩ := peel H
   obtain ⟨c25, H⟩ := peel H
   obtain ⟨c26, H⟩ := peel H
   obtain ⟨c27, H⟩ := peel H
   obtain ⟨c28, H⟩ := peel H
   obtain ⟨c29, H⟩ := peel H
   refine Opl.idx (M := (cSl (cInt .i64))) (xs := l1) (j := a0_2) ([] : List Int) (by exact hv1) rfl (by omega) (by omega) K23 Z26 rfl rfl ?_
   rintro p8 q8 h37
   obtain ⟨pv14, rfl, h38⟩ := h37
   refine Opl.lda (pv14) rfl T26 rfl rfl rfl rfl (Opl.one (v := .lit (.int .i64 x11_1)) rfl rfl rfl (Opl.idx (M := (cInt .i64)) (xs := (rd_Lint l1 a0_2)) (j := x11_1) (0 : Int) (by exact h38) rfl (by omega) (by omega) K26 Z3 rfl rfl ?_))
   rintro p9 q9 h39
   obtain rfl : p9 = [.lit (.int .i64 (rd (rd_Lint l1 a0_2) x11_1))] := h39
   refine Opl.lda (.lit (.int .i64 (rd (rd_Lint l1 a0_2) x11_1))) rfl T3 rfl rfl rfl rfl (Opl.one (v := v1) rfl rfl rfl (Opl.p1 (v := .ptr i2 3) (n := Opl.ldb (v := .lit (.int .i64 a0_3)) h6 rfl T3 rfl rfl rfl rfl (Opl.idx (M := (cSl (cInt .i64))) (xs := l1) (j := a0_3) ([] : List Int) (by exact hv1) rfl (by omega) (by omega) K23 Z26 rfl rfl ?_))))
   rintro p10 q10 h40
   obtain ⟨pv15, rfl, h41⟩ := h40
   refine Opl.lda (pv15) rfl T26 rfl rfl rfl rfl (Opl.one (v := .lit (.int .i64 x11_1)) rfl rfl rfl (Opl.idx (M := (cInt .i64)) (xs := (rd_Lint l1 a0_3)) (j := x11_1) (0 : Int) (by exact h41) rfl (by omega) (by omega) K26 Z3 rfl rfl ?_))
   rintro p11 q11 h42
   obtain rfl : p11 = [.lit (.int .i64 (rd (rd_Lint l1 a0_3) x11_1))] := h42
   refine Opl.lda (.lit (.int .i64 (rd (rd_Lint l1 a0_3) x11_1))) rfl T3 rfl rfl rfl rfl (Opl.add (k := .i64) (a := (rd (rd_Lint l1 a0_2) x11_1)) (b := (rd (rd_Lint l1 a0_3) x11_1)) K3 rfl rfl rfl rfl (Opl.gtr (a := (wrap64 ((rd (rd_Lint l1 a0_2) x11_1) + (rd (rd_Lint l1 a0_3) x11_1)))) (b := 0) K3 rfl rfl rfl rfl ?_))
   obtain ⟨t181, h_t181, H⟩ := Option.bind_eq_some_iff.1 H
   refine Opl.callc (spec_l1Truth.ev h_t181) rfl rfl rfl rfl ⟨(.lit _), trivial⟩ (by decide) (Opl.one (v := .lit (.int .i64 t181)) rfl rfl rfl (Opl.nil (Evr.regionN rfl (Opl.one (v := pv3) rfl rfl rfl (Opl.one (v := .lit (.int .i64 t181)) rfl rfl rfl (Opl.lits (M := (cInt .i64)) (ys := [t181]) [.tmp 114] K26 T3 rfl rfl rfl (by exact ⟨rfl, trivial⟩) rfl (by decide) rfl rfl rfl ?_))))))
   rintro pv16 S h43 u10 w10
   have ap16 := w10.box h6
   have h44 := u10.box h6 ap16
   have ap17 := w10.vec h7
   have h45 := u10.vec h7 ap17
   obtain ⟨c30, H⟩ := peel H
   refine Opl.app (M := (cInt .i64)) (xs := x10_1) (ys := [t181]) (v := pv3) h45 (.vec h43) (oInt .i64) rfl rfl K26 T3 rfl rfl (by (try simp only [List.length_cons, List.length_nil]); omega) (by show (_ + _) * 8 ≤ 140737488355328; (try simp only [List.length_cons, List.length_nil]); omega) rfl rfl rfl rfl rfl ?_
   rintro pv17 S h46 u11 w11
   have ap18 := w11.box h44
   have h47 := u11.box h44 ap3
   have ap19 := w11.vec h43
   have h48 := u11.vec h43 ap17.symm
   refine Opl.one (v := pv17) rfl rfl rfl (Opl.nil (Evr.inBlock (Evr.regionN rfl (Opl.one (v := .lit (.int .i64 x11_1)) rfl rfl rfl (Opl.add (k := .i64) (a := x11_1) (b := 1) K3 rfl rfl rfl rfl (Opl.one (v := .lit (.int .i64 (wrap64 (x11_1 + 1)))) rfl rfl rfl (Opl.nil ?_)))))))
   exact ih1 _ (by omega) _ _ ⟨by omega, _, _, _, _, H, ⟨rfl, rfl, rfl, rfl, rfl, rfl, rfl, trivial⟩, h47, h46, ap18⟩
  rw [if_neg c22] at H
  have e11 : (a0_0 == 4) = false := by simpa using c22
  try rw [e11]
  refine Evr.condF rfl (Evr.sr rfl (Opl.p1 (v := .ptr i2 0) (n := Opl.ldb (v := .lit (.int .i64 a0_0)) h6 rfl T3 rfl rfl rfl rfl (Opl.p1 (n := Opl.nil ?_)))))
  by_cases c31 : a0_0 = 5
  case neg =>
   rw [if_neg c31] at H
   have e13 : (a0_0 == 5) = false := by simpa using c31
   try rw [e13]
   refine Evr.condF rfl (Evr.skip (Evr.regionN rfl (Opl.one (v := pv3) rfl rfl rfl (Opl.one (v := .lit (.int .i64 1)) rfl rfl rfl (Opl.lits (M := (cInt .i64)) (ys := [1]) [.tmp 114] K26 T3 rfl rfl rfl (by exact ⟨rfl, trivial⟩) rfl (by decide) rfl rfl rfl ?_)))))
   rintro pv21 S h58 u14 w14
   have ap24 := w14.box h6
   have h59 := u14.box h6 ap24
   have ap25 := w14.vec h7
   have h60 := u14.vec h7 ap25
   obtain ⟨c37, H⟩ := peel H
   refine Opl.app (M := (cInt .i64)) (xs := x10_1) (ys := [1]) (v := pv3) h60 (.vec h58) (oInt .i64) rfl rfl K26 T3 rfl rfl (by (try simp only [List.length_cons, List.length_nil]); omega) (by show (_ + _) * 8 ≤ 140737488355328; (try simp only [List.length_cons, List.length_nil]); omega) rfl rfl rfl rfl rfl ?_
   rintro pv22 S h61 u15 w15
   have ap26 := w15.box h59
   have h62 := u15.box h59 ap3
   have ap27 := w15.vec h58
   have h63 := u15.vec h58 ap25.symm
   refine Opl.one (v := pv22) rfl rfl rfl (Opl.nil (Evr.inBlock (Evr.regionN rfl (Opl.one (v := .lit (.int .i64 x11_1)) rfl rfl rfl (Opl.add (k := .i64) (a := x11_1) (b := 1) K3 rfl rfl rfl rfl (Opl.one (v := .lit (.int .i64 (wrap64 (x11_1 + 1)))) rfl rfl rfl (Opl.nil ?_)))))))
   exact ih1 _ (by omega) _ _ ⟨by omega, _, _, _, _, H, ⟨rfl, rfl, rfl, rfl, rfl, rfl, rfl, trivial⟩, h62, h61, ap26⟩
  rw [if_pos c31] at H
  have e12 : (a0_0 == 5) = true := by simpa using c31
  try rw [e12]
  refine Evr.condT rfl (Evr.regionD rfl (by kernel_rfl) (Opl.one (v := v1) rfl rfl rfl (Opl.p1 (v := .ptr i2 2) (n := Opl.ldb (v := .lit (.int .i64 a0_2)) h6 rfl T3 rfl rfl rfl rfl ?_))))
  obtain ⟨c32, H⟩ := peel H
  obtain ⟨c33, H⟩ := peel H
  refine Opl.idx (M := (cSl (cInt .i64))) (xs := l1) (j := a0_2) ([] : List Int) (by exact hv1) rfl (by omega) (by omega) K23 Z26 rfl rfl ?_
  rintro p12 q12 h49
  obtain ⟨pv18, rfl, h50⟩ := h49
  refine Opl.lda (pv18) rfl T26 rfl rfl rfl rfl (Opl.one (v := .lit (.int .i64 x11_1)) rfl rfl rfl (Opl.one (v := v2) rfl rfl rfl (Opl.len (xs := l2) (by exact hv2) K23 rfl rfl rfl rfl (Opl.one (v := .lit (.int .i64 (wrap64 ((l2.length : Int) + (l3.length : Int))))) rfl rfl rfl ?_))))
  obtain ⟨t186, h_t186, H⟩ := Option.bind_eq_some_iff.1 H
  refine Opl.callc (spec_l20Next.ev h_t186) rfl rfl rfl rfl ⟨(.lit _), (.lit _), (.lit _), trivial⟩ (by decide) ?_
  obtain ⟨c34, H⟩ := peel H
  obtain ⟨c35, H⟩ := peel H
  obtain ⟨c36, H⟩ := peel H
  refine Opl.idx (M := (cInt .i64)) (xs := (rd_Lint l1 a0_2)) (j := t186) (0 : Int) (by exact h50) rfl (by omega) (by omega) K26 Z3 rfl rfl ?_
  rintro p13 q13 h51
  obtain rfl : p13 = [.lit (.int .i64 (rd (rd_Lint l1 a0_2) t186))] := h51
  refine Opl.lda (.lit (.int .i64 (rd (rd_Lint l1 a0_2) t186))) rfl T3 rfl rfl rfl rfl (Opl.one (v := .lit (.int .i64 (rd (rd_Lint l1 a0_2) t186))) rfl rfl rfl (Opl.nil (Evr.regionN rfl (Opl.one (v := pv3) rfl rfl rfl (Opl.one (v := .lit (.int .i64 (rd (rd_Lint l1 a0_2) t186))) rfl rfl rfl (Opl.lits (M := (cInt .i64)) (ys := [(rd (rd_Lint l1 a0_2) t186)]) [.tmp 114] K26 T3 rfl rfl rfl (by exact ⟨rfl, trivial⟩) rfl (by decide) rfl rfl rfl ?_))))))
  rintro pv19 S h52 u12 w12
  have ap20 := w12.box h6
  have h53 := u12.box h6 ap20
  have ap21 := w12.vec h7
  have h54 := u12.vec h7 ap21
  refine Opl.app (M := (cInt .i64)) (xs := x10_1) (ys := [(rd (rd_Lint l1 a0_2) t186)]) (v := pv3) h54 (.vec h52) (oInt .i64) rfl rfl K26 T3 rfl rfl (by (try simp only [List.length_cons, List.length_nil]); omega) (by show (_ + _) * 8 ≤ 140737488355328; (try simp only [List.length_cons, List.length_nil]); omega) rfl rfl rfl rfl rfl ?_
  rintro pv20 S h55 u13 w13
  have ap22 := w13.box h53
  have h56 := u13.box h53 ap3
  have ap23 := w13.vec h52
  have h57 := u13.vec h52 ap21.symm
  refine Opl.one (v := pv20) rfl rfl rfl (Opl.nil (Evr.inBlock (Evr.regionN rfl (Opl.one (v := .lit (.int .i64 x11_1)) rfl rfl rfl (Opl.add (k := .i64) (a := x11_1) (b := 1) K3 rfl rfl rfl rfl (Opl.one (v := .lit (.int .i64 (wrap64 (x11_1 + 1)))) rfl rfl rfl (Opl.nil ?_)))))))
  exact ih1 _ (by omega) _ _ ⟨by omega, _, _, _, _, H, ⟨rfl, rfl, rfl, rfl, rfl, rfl, rfl, trivial⟩, h56, h55, ap22⟩
theorem spec_TimesOn.ev {k : Nat} {l0 : List ITime} {v0 : PV} (hv0 : Sl cITime l0 v0) {l1 : List (List Int)} {v1 : PV} (hv1 : Sl (cSl (cInt .i64)) l1 v1) {l2 : List (List Int)} {v2 : PV} (hv2 : Sl (cSl (cInt .i64)) l2 v2) {a3 : Int} {r : (List (List Int))} (H : spec_TimesOn.f k l0 l1 l2 a3 = some r) : Ret Try.prog 38 [v0, v1, v2, .lit (.int .i64 a3)] fun v S => Vec (cSl (cInt .i64)) r v S := by
 unfold spec_TimesOn.f at H
 refine Ret.intro Try.func38 rfl (Nat.le_of_ble_eq_true rfl) rfl ?_
 rw [tm4]
 refine Evr.sr rfl (Opl.p1 (n := Opl.nil (Evr.seq (Evr.seq ?_))))
 refine Evr.join (fun tm S => ∃ (kq1 : Nat) (x21_1 : Bool), spec_TimesOn.j0 kq1 l0 l1 l2 x21_1 = some r ∧ Has tm [(0, v0), (1, v1), (2, v2), (21, .lit (.bool x21_1))]) ?_ fun hk1 => ?_
 ·
  rintro tm S ⟨kq1, x21_1, H, hh⟩
  rw [hh.eq]
  obtain _ | k1 := kq1
  · simp [spec_TimesOn.j0] at H
  simp only [spec_TimesOn.j0] at H
  by_cases c1 : x21_1 = true
  case pos =>
   rw [if_pos c1] at H
   obtain rfl : x21_1 = true := by simpa using c1
   refine Evr.condT rfl (Evr.sr rfl (Opl.p1 (n := Opl.nil ?_)))
   obtain rfl := Option.some.inj H
   refine Evr.ret1 Try.func38 rfl ?_
   show Vec _ _ (.lit (.slice none 0 0)) _
   exact .nil
  rw [if_neg c1] at H
  obtain rfl : x21_1 = false := by simpa using c1
  refine Evr.condF rfl (Evr.skip (Evr.sr rfl (Opl.lits (M := (cSl (cInt .i64))) (ys := []) [] K23 T26 rfl rfl rfl trivial rfl (by decide) rfl rfl rfl ?_)))
  rintro pv1 S h1 u1 w1
  refine Opl.p1 (n := Opl.nil (Evr.seq (Evr.sr rfl (Opl.p1 (n := Opl.nil (Evr.block ?_))))))
  refine Evr.loop (Evr.rounds (n := k1) (Inv := fun n tm S => n ≤ k1 ∧ ∃ (x9_1 : List (List Int)) (x10_1 : Int) (pv2 : PV), spec_TimesOn.l0 n l0 l1 l2 x9_1 x10_1 = some r ∧ Has tm [(0, v0), (1, v1), (2, v2), (9, pv2), (10, .lit (.int .i64 x10_1))] ∧ Vec (cSl (cInt .i64)) x9_1 pv2 S) ?_ ?_ ?_)
  · exact ⟨Nat.le_refl _, _, _, _, H, ⟨rfl, rfl, rfl, rfl, rfl, trivial⟩, h1⟩
  ·
   rintro tm S ⟨_, _, _, _, H, -⟩
   simp [spec_TimesOn.l0] at H
  ·
   rintro n1 ih1 tm S ⟨hle, x9_1, x10_1, pv2, H, hh, h2⟩
   simp only [spec_TimesOn.l0] at H
   rw [hh.eq]
   refine Evr.seq (Evr.sr rfl (Opl.p1 (n := Opl.p1 (n := Opl.len (xs := l0) (by exact hv0) K28 rfl rfl rfl rfl (Opl.p1 (n := Opl.nil ?_))))))
   by_cases c2 : x10_1 < (l0.length : Int)
   case neg =>
    rw [if_neg c2] at H
    have e2 : (decide (x10_1 < (l0.length : Int))) = false := by simpa using c2
    try rw [e2]
    refine Evr.condF rfl (Evr.exit rfl (Evr.sr rfl (Opl.p1 (n := Opl.p1 (n := Opl.nil ?_)))))
    obtain rfl := Option.some.inj H
    refine Evr.ret1 Try.func38 rfl ?_
    show Vec _ _ pv2 _
    exact h2
   rw [if_pos c2] at H
   have e1 : (decide (x10_1 < (l0.length : Int))) = true := by simpa using c2
   try rw [e1]
   refine Evr.condT rfl (Evr.skip (Evr.seq (Evr.block (Evr.regionN rfl (Opl.p1 (n := Opl.p1 (n := Opl.p1 (n := ?_))))))))
   obtain ⟨c3, H⟩ := peel H
   refine Opl.idx (M := cITime) (xs := l0) (j := x10_1) zITime (by exact hv0) rfl (by omega) (by omega) K28 Z64 rfl rfl ?_
   rintro p1 q1 h3
   obtain rfl := cITime_R (x := (rd_ITime l0 x10_1)) h3
   refine Opl.lda (.agg [.lit (.int .i64 ((rd_ITime l0 x10_1).f0)), .lit (.int .i64 ((rd_ITime l0 x10_1).f1)), .lit (.int .i64 ((rd_ITime l0 x10_1).f2)), .lit (.int .i64 ((rd_ITime l0 x10_1).f3))]) rfl T64 rfl rfl rfl rfl (Opl.p1 (n := Opl.p1 (n := Opl.p1 (n := ?_))))
   obtain ⟨t200, h_t200, H⟩ := Option.bind_eq_some_iff.1 H
   obtain ⟨pv3, h4, -, h5⟩ := Out.vec h2
   refine Opl.callv (sInt .i64) (spec_l20Row.ev h5 hv1 hv2 h_t200) rfl rfl rfl (.cons (.refl _) (.cons h4 (.cons (.refl _) (.cons (.refl _) .nil)))) ⟨(.aggL ⟨(.lit _), (.lit _), (.lit _), (.lit _), trivial⟩), h5.plain, hv1.plain, hv2.plain, trivial⟩ (by decide) ?_
   rintro pv4 h6
   refine Opl.lits (M := (cSl (cInt .i64))) (ys := [t200]) [.tmp 37] K23 T26 rfl rfl rfl (by exact ⟨⟨_, by first | rfl | exact h6.cells, h6⟩, trivial⟩) rfl (by decide) rfl rfl rfl ?_
   rintro pv5 S h7 u2 w2
   have ap1 := w2.vec h2
   have h8 := u2.vec h2 ap1
   obtain ⟨c4, H⟩ := peel H
   refine Opl.app (M := (cSl (cInt .i64))) (xs := x9_1) (ys := [t200]) (v := pv2) h8 (.vec h7) (oSl (cInt .i64)) rfl rfl K23 T26 rfl rfl (by (try simp only [List.length_cons, List.length_nil]); omega) (by show (_ + _) * 24 ≤ 140737488355328; (try simp only [List.length_cons, List.length_nil]); omega) rfl rfl rfl rfl rfl ?_
   rintro pv6 S h9 u3 w3
   have ap2 := w3.vec h7
   have h10 := u3.vec h7 ap1.symm
   refine Opl.p1 (n := Opl.nil (Evr.inBlock (Evr.regionN rfl (Opl.p1 (n := Opl.add (k := .i64) (a := x10_1) (b := 1) K3 rfl rfl rfl rfl (Opl.one (v := .lit (.int .i64 (wrap64 (x10_1 + 1)))) rfl rfl rfl (Opl.nil ?_)))))))
   exact ih1 _ (by omega) _ _ ⟨by omega, _, _, _, H, ⟨rfl, rfl, rfl, rfl, rfl, trivial⟩, h9⟩
 ·
  refine Evr.regionN rfl (Opl.p1 (n := Opl.p1 (n := ?_)))
  obtain ⟨t194, h_t194, H⟩ := Option.bind_eq_some_iff.1 H
  refine Opl.callc (spec_TimesValid.ev hv0 h_t194) rfl rfl rfl rfl ⟨hv0.plain, (.lit _), trivial⟩ (by decide) (Opl.p1 (n := Opl.p1 (n := ?_)))
  by_cases c5 : t194 = true
  case neg =>
   rw [if_neg c5] at H
   have e4 : (!t194) = true := by simpa using c5
   try rw [e4]
   refine Opl.skp rfl (Opl.skp rfl (Opl.skp rfl (Opl.skp rfl (Opl.skp rfl (Opl.p1 (n := Opl.nil ?_))))))
   exact hk1 _ _ ⟨_, _, H, ⟨rfl, rfl, rfl, (by first | rfl | (show PV.lit (.bool _) = _; congr 2; simp_all)), trivial⟩⟩
  rw [if_pos c5] at H
  have e3 : (!t194) = false := by simpa using c5
  try rw [e3]
  refine Opl.p1 (n := Opl.p1 (n := Opl.p1 (n := ?_)))
  obtain ⟨t195, h_t195, H⟩ := Option.bind_eq_some_iff.1 H
  refine Opl.callc (spec_WordValid.ev hv1 hv2 h_t195) rfl rfl rfl rfl ⟨hv1.plain, hv2.plain, (.lit _), trivial⟩ (by decide) (Opl.p1 (n := Opl.p1 (n := Opl.nil ?_)))
  exact hk1 _ _ ⟨_, _, H, ⟨rfl, rfl, rfl, (by first | rfl | (show PV.lit (.bool _) = _; congr 2; simp_all)), trivial⟩⟩
theorem spec_l3Copy.ev {k : Nat} {l0 : List Int} {v0 : PV} (hv0 : Sl (cInt .i64) l0 v0) {r : (List Int)} (H : spec_l3Copy.f k l0 = some r) : Ret Try.prog 73 [v0] fun v S => Vec (cInt .i64) r v S := by
 unfold spec_l3Copy.f at H
 refine Ret.intro Try.func73 rfl (Nat.le_of_ble_eq_true rfl) rfl ?_
 rw [tm1]
 refine Evr.sr rfl (Opl.p1 (n := Opl.nil (Evr.sr rfl (Opl.lits (M := (cInt .i64)) (ys := []) [] K26 T3 rfl rfl rfl trivial rfl (by decide) rfl rfl rfl ?_))))
 rintro pv1 S h1 u1 w1
 refine Opl.p1 (n := Opl.nil (Evr.seq (Evr.sr rfl (Opl.p1 (n := Opl.nil (Evr.block ?_))))))
 refine Evr.loop (Evr.rounds (n := k) (Inv := fun n tm S => n ≤ k ∧ ∃ (x3_1 : List Int) (x4_1 : Int) (pv2 : PV), spec_l3Copy.l0 n l0 x3_1 x4_1 = some r ∧ Has tm [(0, v0), (3, pv2), (4, .lit (.int .i64 x4_1))] ∧ Vec (cInt .i64) x3_1 pv2 S) ?_ ?_ ?_)
 · exact ⟨Nat.le_refl _, _, _, _, H, ⟨rfl, rfl, rfl, trivial⟩, h1⟩
 ·
  rintro tm S ⟨_, _, _, _, H, -⟩
  simp [spec_l3Copy.l0] at H
 ·
  rintro n1 ih1 tm S ⟨hle, x3_1, x4_1, pv2, H, hh, h2⟩
  simp only [spec_l3Copy.l0] at H
  rw [hh.eq]
  refine Evr.seq (Evr.sr rfl (Opl.p1 (n := Opl.p1 (n := Opl.len (xs := l0) (by exact hv0) K26 rfl rfl rfl rfl (Opl.p1 (n := Opl.nil ?_))))))
  by_cases c1 : x4_1 < (l0.length : Int)
  case neg =>
   rw [if_neg c1] at H
   have e2 : (decide (x4_1 < (l0.length : Int))) = false := by simpa using c1
   try rw [e2]
   refine Evr.condF rfl (Evr.exit rfl (Evr.sr rfl (Opl.p1 (n := Opl.p1 (n := Opl.nil ?_)))))
   obtain rfl := Option.some.inj H
   refine Evr.ret1 Try.func73 rfl ?_
   show Vec _ _ pv2 _
   exact h2
  rw [if_pos c1] at H
  have e1 : (decide (x4_1 < (l0.length : Int))) = true := by simpa using c1
  try rw [e1]
  refine Evr.condT rfl (Evr.skip (Evr.seq (Evr.block (Evr.regionN rfl (Opl.p1 (n := Opl.p1 (n := Opl.p1 (n := ?_))))))))
  obtain ⟨c2, H⟩ := peel H
  obtain ⟨c3, H⟩ := peel H
  refine Opl.idx (M := (cInt .i64)) (xs := l0) (j := x4_1) (0 : Int) (by exact hv0) rfl (by omega) (by omega) K26 Z3 rfl rfl ?_
  rintro p1 q1 h3
  obtain rfl : p1 = [.lit (.int .i64 (rd l0 x4_1))] := h3
  refine Opl.lda (.lit (.int .i64 (rd l0 x4_1))) rfl T3 rfl rfl rfl rfl (Opl.lits (M := (cInt .i64)) (ys := [(rd l0 x4_1)]) [.tmp 16] K26 T3 rfl rfl rfl (by exact ⟨rfl, trivial⟩) rfl (by decide) rfl rfl rfl ?_)
  rintro pv3 S h4 u2 w2
  have ap1 := w2.vec h2
  have h5 := u2.vec h2 ap1
  refine Opl.app (M := (cInt .i64)) (xs := x3_1) (ys := [(rd l0 x4_1)]) (v := pv2) h5 (.vec h4) (oInt .i64) rfl rfl K26 T3 rfl rfl (by (try simp only [List.length_cons, List.length_nil]); omega) (by show (_ + _) * 8 ≤ 140737488355328; (try simp only [List.length_cons, List.length_nil]); omega) rfl rfl rfl rfl rfl ?_
  rintro pv4 S h6 u3 w3
  have ap2 := w3.vec h4
  have h7 := u3.vec h4 ap1.symm
  refine Opl.p1 (n := Opl.nil (Evr.inBlock (Evr.regionN rfl (Opl.p1 (n := Opl.add (k := .i64) (a := x4_1) (b := 1) K3 rfl rfl rfl rfl (Opl.one (v := .lit (.int .i64 (wrap64 (x4_1 + 1)))) rfl rfl rfl (Opl.nil ?_)))))))
  exact ih1 _ (by omega) _ _ ⟨by omega, _, _, _, H, ⟨rfl, rfl, rfl, trivial⟩, h6⟩
theorem spec_l6Number.ev {k : Nat} {l0 : List Int} {v0 : PV} (hv0 : Sl (cInt .i64) l0 v0) {r : Int} (H : spec_l6Number.f k l0 = some r) : Ret Try.prog 74 [v0] fun v S => v = .lit (.int .i64 r) := by
 unfold spec_l6Number.f at H
 refine Ret.intro Try.func74 rfl (Nat.le_of_ble_eq_true rfl) rfl ?_
 rw [tm1]
 refine Evr.sr rfl (Opl.p1 (n := Opl.nil (Evr.sr rfl (Opl.p1 (n := Opl.nil (Evr.seq (Evr.sr rfl (Opl.p1 (n := Opl.nil (Evr.block ?_))))))))))
 refine Evr.loop (Evr.rounds (n := k) (Inv := fun n tm S => n ≤ k ∧ ∃ (x3_1 : Int) (x4_1 : Int), spec_l6Number.l0 n l0 x3_1 x4_1 = some r ∧ Has tm [(0, v0), (3, .lit (.int .i64 x3_1)), (4, .lit (.int .i64 x4_1))]) ?_ ?_ ?_)
 · exact ⟨Nat.le_refl _, _, _, H, ⟨rfl, rfl, rfl, trivial⟩⟩
 ·
  rintro tm S ⟨_, _, _, H, -⟩
  simp [spec_l6Number.l0] at H
 ·
  rintro n1 ih1 tm S ⟨hle, x3_1, x4_1, H, hh⟩
  simp only [spec_l6Number.l0] at H
  rw [hh.eq]
  refine Evr.seq (Evr.sr rfl (Opl.p1 (n := Opl.p1 (n := Opl.len (xs := l0) (by exact hv0) K26 rfl rfl rfl rfl (Opl.p1 (n := Opl.nil ?_))))))
  by_cases c1 : x4_1 < (l0.length : Int)
  case neg =>
   rw [if_neg c1] at H
   have e2 : (decide (x4_1 < (l0.length : Int))) = false := by simpa using c1
   try rw [e2]
   refine Evr.condF rfl (Evr.exit rfl (Evr.sr rfl (Opl.p1 (n := Opl.p1 (n := Opl.nil ?_)))))
   obtain rfl := Option.some.inj H
   refine Evr.ret1 Try.func74 rfl ?_
   show (.lit (.int .i64 x3_1) : PV) = _
   first | rfl | (simp only [go_sem]; rfl)
  rw [if_pos c1] at H
  have e1 : (decide (x4_1 < (l0.length : Int))) = true := by simpa using c1
  try rw [e1]
  refine Evr.condT rfl (Evr.skip (Evr.seq (Evr.block (Evr.regionN rfl (Opl.p1 (n := Opl.mul (k := .i64) (a := x3_1) (b := 2) K3 rfl rfl rfl rfl (Opl.one (v := v0) rfl rfl rfl (Opl.one (v := .lit (.int .i64 x4_1)) rfl rfl rfl ?_))))))))
  obtain ⟨c2, H⟩ := peel H
  refine Opl.idx (M := (cInt .i64)) (xs := l0) (j := x4_1) (0 : Int) (by exact hv0) rfl (by omega) (by omega) K26 Z3 rfl rfl ?_
  rintro p1 q1 h1
  obtain rfl : p1 = [.lit (.int .i64 (rd l0 x4_1))] := h1
  refine Opl.lda (.lit (.int .i64 (rd l0 x4_1))) rfl T3 rfl rfl rfl rfl (Opl.add (k := .i64) (a := (wrap64 (x3_1 * 2))) (b := (rd l0 x4_1)) K3 rfl rfl rfl rfl (Opl.one (v := .lit (.int .i64 (wrap64 ((wrap64 (x3_1 * 2)) + (rd l0 x4_1))))) rfl rfl rfl (Opl.nil (Evr.inBlock (Evr.regionN rfl (Opl.one (v := .lit (.int .i64 x4_1)) rfl rfl rfl (Opl.add (k := .i64) (a := x4_1) (b := 1) K3 rfl rfl rfl rfl (Opl.one (v := .lit (.int .i64 (wrap64 (x4_1 + 1)))) rfl rfl rfl (Opl.nil ?_)))))))))
  exact ih1 _ (by omega) _ _ ⟨by omega, _, _, H, ⟨rfl, rfl, rfl, trivial⟩⟩
theorem spec_l21Number.ev {k : Nat} {l0 : List ITime} {v0 : PV} (hv0 : Sl cITime l0 v0) {l1 : List Int} {v1 : PV} (hv1 : Sl (cInt .i64) l1 v1) {l2 : List (List Int)} {v2 : PV} (hv2 : Sl (cSl (cInt .i64)) l2 v2) {a3 : Int} {r : Int} (H : spec_l21Number.f k l0 l1 l2 a3 = some r) : Ret Try.prog 40 [v0, v1, v2, .lit (.int .i64 a3)] fun v S => v = .lit (.int .i64 r) := by
 unfold spec_l21Number.f at H
 refine Ret.intro Try.func40 rfl (Nat.le_of_ble_eq_true rfl) rfl ?_
 rw [tm4]
 refine Evr.sr rfl (Opl.p1 (n := Opl.nil (Evr.sr rfl (Opl.p1 (n := ?_)))))
 obtain ⟨t225, h_t225, H⟩ := Option.bind_eq_some_iff.1 H
 refine Opl.calla (spec_l3Copy.ev hv1 h_t225) rfl rfl rfl rfl ⟨hv1.plain, trivial⟩ rfl ?_
 rintro pv1 S h1 u1 w1
 refine Opl.p1 (n := Opl.nil (Evr.sr rfl (Opl.p1 (n := ?_))))
 obtain ⟨t228, h_t228, H⟩ := Option.bind_eq_some_iff.1 H
 refine Opl.call ((spec_l21Steps.ev hv0 h_t228).mono fun _ _ h => Out.vec h) rfl rfl rfl rfl ⟨hv0.plain, trivial⟩ (by decide) ?_
 rintro pv2 h2
 refine Opl.p1 (n := Opl.nil (Evr.seq (Evr.sr rfl (Opl.p1 (n := Opl.nil (Evr.block ?_))))))
 refine Evr.loop (Evr.rounds (n := k) (Inv := fun n tm S => n ≤ k ∧ ∃ (x9_1 : List Int) (x11_1 : Int) (pv3 : PV), spec_l21Number.l0 n l2 a3 x9_1 t228 x11_1 = some r ∧ Has tm [(2, v2), (3, .lit (.int .i64 a3)), (9, pv3), (10, pv2), (11, .lit (.int .i64 x11_1))] ∧ Vec (cInt .i64) x9_1 pv3 S) ?_ ?_ ?_)
 · exact ⟨Nat.le_refl _, _, _, _, H, ⟨rfl, rfl, rfl, rfl, rfl, trivial⟩, h1⟩
 ·
  rintro tm S ⟨_, _, _, _, H, -⟩
  simp [spec_l21Number.l0] at H
 ·
  rintro n1 ih1 tm S ⟨hle, x9_1, x11_1, pv3, H, hh, h3⟩
  simp only [spec_l21Number.l0] at H
  rw [hh.eq]
  refine Evr.seq (Evr.sr rfl (Opl.p1 (n := Opl.p1 (n := Opl.len (xs := t228) (by exact h2) K26 rfl rfl rfl rfl (Opl.p1 (n := Opl.nil ?_))))))
  by_cases c1 : x11_1 < (t228.length : Int)
  case neg =>
   rw [if_neg c1] at H
   have e2 : (decide (x11_1 < (t228.length : Int))) = false := by simpa using c1
   try rw [e2]
   refine Evr.condF rfl (Evr.exit rfl (Evr.sr rfl (Opl.p1 (n := ?_))))
   obtain ⟨t237, h_t237, H⟩ := Option.bind_eq_some_iff.1 H
   obtain ⟨pv7, h12, -, h13⟩ := Out.vec h3
   refine Opl.callw (spec_l6Number.ev h13 h_t237) rfl rfl rfl (.cons h12 .nil) ⟨h13.plain, trivial⟩ (by decide) (Opl.p1 (n := Opl.nil ?_))
   obtain rfl := Option.some.inj H
   refine Evr.ret1 Try.func40 rfl ?_
   show (.lit (.int .i64 t237) : PV) = _
   first | rfl | (simp only [go_sem]; rfl)
  rw [if_pos c1] at H
  have e1 : (decide (x11_1 < (t228.length : Int))) = true := by simpa using c1
  try rw [e1]
  refine Evr.condT rfl (Evr.skip (Evr.seq (Evr.block (Evr.regionN rfl (Opl.p1 (n := Opl.p1 (n := Opl.p1 (n := Opl.p1 (n := ?_)))))))))
  obtain ⟨c2, H⟩ := peel H
  obtain ⟨c3, H⟩ := peel H
  obtain ⟨c4, H⟩ := peel H
  obtain ⟨c5, H⟩ := peel H
  obtain ⟨c6, H⟩ := peel H
  obtain ⟨c7, H⟩ := peel H
  refine Opl.idx (M := (cInt .i64)) (xs := t228) (j := x11_1) (0 : Int) (by exact h2) rfl (by omega) (by omega) K26 Z3 rfl rfl ?_
  rintro p1 q1 h4
  obtain rfl : p1 = [.lit (.int .i64 (rd t228 x11_1))] := h4
  refine Opl.lda (.lit (.int .i64 (rd t228 x11_1))) rfl T3 rfl rfl rfl rfl (Opl.idx (M := (cSl (cInt .i64))) (xs := l2) (j := (rd t228 x11_1)) ([] : List Int) (by exact hv2) rfl (by omega) (by omega) K23 Z26 rfl rfl ?_)
  rintro p2 q2 h5
  obtain ⟨pv4, rfl, h6⟩ := h5
  refine Opl.lda (pv4) rfl T26 rfl rfl rfl rfl (Opl.p1 (n := Opl.idx (M := (cInt .i64)) (xs := (rd_Lint l2 (rd t228 x11_1))) (j := a3) (0 : Int) (by exact h6) rfl (by omega) (by omega) K26 Z3 rfl rfl ?_))
  rintro p3 q3 h7
  obtain rfl : p3 = [.lit (.int .i64 (rd (rd_Lint l2 (rd t228 x11_1)) a3))] := h7
  refine Opl.lda (.lit (.int .i64 (rd (rd_Lint l2 (rd t228 x11_1)) a3))) rfl T3 rfl rfl rfl rfl (Opl.lits (M := (cInt .i64)) (ys := [(rd (rd_Lint l2 (rd t228 x11_1)) a3)]) [.tmp 32] K26 T3 rfl rfl rfl (by exact ⟨rfl, trivial⟩) rfl (by decide) rfl rfl rfl ?_)
  rintro pv5 S h8 u2 w2
  have ap1 := w2.vec h3
  have h9 := u2.vec h3 ap1
  refine Opl.app (M := (cInt .i64)) (xs := x9_1) (ys := [(rd (rd_Lint l2 (rd t228 x11_1)) a3)]) (v := pv3) h9 (.vec h8) (oInt .i64) rfl rfl K26 T3 rfl rfl (by (try simp only [List.length_cons, List.length_nil]); omega) (by show (_ + _) * 8 ≤ 140737488355328; (try simp only [List.length_cons, List.length_nil]); omega) rfl rfl rfl rfl rfl ?_
  rintro pv6 S h10 u3 w3
  have ap2 := w3.vec h8
  have h11 := u3.vec h8 ap1.symm
  refine Opl.p1 (n := Opl.nil (Evr.inBlock (Evr.regionN rfl (Opl.p1 (n := Opl.add (k := .i64) (a := x11_1) (b := 1) K3 rfl rfl rfl rfl (Opl.one (v := .lit (.int .i64 (wrap64 (x11_1 + 1)))) rfl rfl rfl (Opl.nil ?_)))))))
  exact ih1 _ (by omega) _ _ ⟨by omega, _, _, _, H, ⟨rfl, rfl, rfl, rfl, rfl, trivial⟩, h10⟩
theorem spec_GuessesAt.ev {k : Nat} {l0 : List ITime} {v0 : PV} (hv0 : Sl cITime l0 v0) {l1 : List (List Int)} {v1 : PV} (hv1 : Sl (cSl (cInt .i64)) l1 v1) {l2 : List (List Int)} {v2 : PV} (hv2 : Sl (cSl (cInt .i64)) l2 v2) {a3 : Int} {r : (List Int)} (H : spec_GuessesAt.f k l0 l1 l2 a3 = some r) : Ret Try.prog 8 [v0, v1, v2, .lit (.int .i64 a3)] fun v S => Vec (cInt .i64) r v S := by
 unfold spec_GuessesAt.f at H
 refine Ret.intro Try.func8 rfl (Nat.le_of_ble_eq_true rfl) rfl ?_
 rw [tm4]
 refine Evr.sr rfl (Opl.p1 (n := Opl.nil (Evr.sr rfl (Opl.p1 (n := Opl.p1 (n := Opl.p1 (n := Opl.p1 (n := ?_))))))))
 obtain ⟨t238, h_t238, H⟩ := Option.bind_eq_some_iff.1 H
 refine Opl.call ((spec_TimesOn.ev hv0 hv1 hv2 h_t238).mono fun _ _ h => Out.vec h) rfl rfl rfl rfl ⟨hv0.plain, hv1.plain, hv2.plain, (.lit _), trivial⟩ (by decide) ?_
 rintro pv1 h1
 refine Opl.p1 (n := Opl.nil (Evr.sr rfl (Opl.lits (M := (cInt .i64)) (ys := []) [] K26 T3 rfl rfl rfl trivial rfl (by decide) rfl rfl rfl ?_)))
 rintro pv2 S h2 u1 w1
 refine Opl.p1 (n := Opl.nil (Evr.seq (Evr.sr rfl (Opl.p1 (n := Opl.nil (Evr.block ?_))))))
 refine Evr.loop (Evr.rounds (n := k) (Inv := fun n tm S => n ≤ k ∧ ∃ (x10_1 : List Int) (x11_1 : Int) (pv3 : PV), spec_GuessesAt.l0 n l0 l1 l2 a3 t238 x10_1 x11_1 = some r ∧ Has tm [(0, v0), (1, v1), (2, v2), (3, .lit (.int .i64 a3)), (9, pv1), (10, pv3), (11, .lit (.int .i64 x11_1))] ∧ Vec (cInt .i64) x10_1 pv3 S) ?_ ?_ ?_)
 · exact ⟨Nat.le_refl _, _, _, _, H, ⟨rfl, rfl, rfl, rfl, rfl, rfl, rfl, trivial⟩, h2⟩
 ·
  rintro tm S ⟨_, _, _, _, H, -⟩
  simp [spec_GuessesAt.l0] at H
 ·
  rintro n1 ih1 tm S ⟨hle, x10_1, x11_1, pv3, H, hh, h3⟩
  simp only [spec_GuessesAt.l0] at H
  rw [hh.eq]
  refine Evr.seq (Evr.seq ?_)
  refine Evr.join (fun tm S => ∃ (kq1 : Nat) (x34_1 : Bool) (pv4 : PV), spec_GuessesAt.j1 kq1 l0 l1 l2 a3 t238 x10_1 x11_1 x34_1 = some r ∧ kq1 ≤ n1 ∧ Has tm [(0, v0), (1, v1), (2, v2), (3, .lit (.int .i64 a3)), (9, pv1), (10, pv4), (11, .lit (.int .i64 x11_1)), (34, .lit (.bool x34_1))] ∧ Vec (cInt .i64) x10_1 pv4 S) ?_ fun hk1 => ?_
  ·
   rintro tm S ⟨kq1, x34_1, pv4, H, hle, hh, h4⟩
   rw [hh.eq]
   obtain _ | k1 := kq1
   · simp [spec_GuessesAt.j1] at H
   simp only [spec_GuessesAt.j1] at H
   by_cases c1 : x34_1 = true
   case neg =>
    rw [if_neg c1] at H
    obtain rfl : x34_1 = false := by simpa using c1
    refine Evr.condF rfl (Evr.exit rfl (Evr.sr rfl (Opl.p1 (n := Opl.p1 (n := Opl.nil ?_)))))
    obtain rfl := Option.some.inj H
    refine Evr.ret1 Try.func8 rfl ?_
    show Vec _ _ pv4 _
    exact h4
   rw [if_pos c1] at H
   obtain rfl : x34_1 = true := by simpa using c1
   refine Evr.condT rfl (Evr.skip (Evr.seq (Evr.block (Evr.regionN rfl (Opl.p1 (n := Opl.p1 (n := Opl.p1 (n := Opl.p1 (n := Opl.p1 (n := ?_))))))))))
   obtain ⟨t245, h_t245, H⟩ := Option.bind_eq_some_iff.1 H
   refine Opl.call (spec_l3At.ev hv1 hv2 h_t245) rfl rfl rfl rfl ⟨hv1.plain, hv2.plain, (.lit _), trivial⟩ (by decide) ?_
   rintro pv5 h5
   refine Opl.p1 (n := Opl.p1 (n := ?_))
   obtain ⟨t248, h_t248, H⟩ := Option.bind_eq_some_iff.1 H
   refine Opl.callc (spec_l21Number.ev hv0 h5 h1 h_t248) rfl rfl rfl rfl ⟨hv0.plain, h5.plain, h1.plain, (.lit _), trivial⟩ (by decide) (Opl.lits (M := (cInt .i64)) (ys := [t248]) [.tmp 45] K26 T3 rfl rfl rfl (by exact ⟨rfl, trivial⟩) rfl (by decide) rfl rfl rfl ?_)
   rintro pv6 S h6 u2 w2
   have ap1 := w2.vec h4
   have h7 := u2.vec h4 ap1
   obtain ⟨c2, H⟩ := peel H
   refine Opl.app (M := (cInt .i64)) (xs := x10_1) (ys := [t248]) (v := pv4) h7 (.vec h6) (oInt .i64) rfl rfl K26 T3 rfl rfl (by (try simp only [List.length_cons, List.length_nil]); omega) (by show (_ + _) * 8 ≤ 140737488355328; (try simp only [List.length_cons, List.length_nil]); omega) rfl rfl rfl rfl rfl ?_
   rintro pv7 S h8 u3 w3
   have ap2 := w3.vec h6
   have h9 := u3.vec h6 ap1.symm
   refine Opl.p1 (n := Opl.nil (Evr.inBlock (Evr.regionN rfl (Opl.p1 (n := Opl.add (k := .i64) (a := x11_1) (b := 1) K3 rfl rfl rfl rfl (Opl.one (v := .lit (.int .i64 (wrap64 (x11_1 + 1)))) rfl rfl rfl (Opl.nil ?_)))))))
   exact ih1 _ (by omega) _ _ ⟨by omega, _, _, _, H, ⟨rfl, rfl, rfl, rfl, rfl, rfl, rfl, trivial⟩, h8⟩
  ·
   refine Evr.regionN rfl (Opl.p1 (n := Opl.p1 (n := Opl.len (xs := l1) (by exact hv1) K23 rfl rfl rfl rfl (Opl.p1 (n := Opl.len (xs := l2) (by exact hv2) K23 rfl rfl rfl rfl (Opl.add (k := .i64) (a := (l1.length : Int)) (b := (l2.length : Int)) K3 rfl rfl rfl rfl (Opl.lss (a := x11_1) (b := (wrap64 ((l1.length : Int) + (l2.length : Int)))) K3 rfl rfl rfl rfl (Opl.one (v := .lit (.bool (decide (x11_1 < (wrap64 ((l1.length : Int) + (l2.length : Int))))))) rfl rfl rfl ?_))))))))
   by_cases c3 : x11_1 < (wrap64 ((l1.length : Int) + (l2.length : Int)))
   case neg =>
    rw [if_neg c3] at H
    have e4 : (decide (x11_1 < (wrap64 ((l1.length : Int) + (l2.length : Int))))) = false := by simpa using c3
    try rw [e4]
    refine Opl.skp rfl (Opl.skp rfl (Opl.skp rfl (Opl.one (v := .lit (.bool false)) rfl rfl rfl (Opl.one (v := .lit (.bool false)) rfl rfl rfl (Opl.skp rfl (Opl.skp rfl (Opl.skp rfl (Opl.one (v := .lit (.bool false)) rfl rfl rfl (Opl.nil ?_)))))))))
    exact hk1 _ _ ⟨_, _, _, H, by omega, ⟨rfl, rfl, rfl, rfl, rfl, rfl, rfl, (by first | rfl | (show PV.lit (.bool _) = _; congr 2; simp_all)), trivial⟩, h3⟩
   rw [if_pos c3] at H
   have e1 : (decide (x11_1 < (wrap64 ((l1.length : Int) + (l2.length : Int))))) = true := by simpa using c3
   try rw [e1]
   refine Opl.one (v := pv1) rfl rfl rfl (Opl.len (xs := t238) (by exact h1) K23 rfl rfl rfl rfl (Opl.p1 (n := Opl.one (v := .lit (.bool (decide ((t238.length : Int) > 0)))) rfl rfl rfl (Opl.one (v := .lit (.bool (decide ((t238.length : Int) > 0)))) rfl rfl rfl ?_))))
   by_cases c4 : (t238.length : Int) > 0
   case neg =>
    rw [if_neg c4] at H
    have e3 : (decide ((t238.length : Int) > 0)) = false := by simpa using c4
    try rw [e3]
    refine Opl.skp rfl (Opl.skp rfl (Opl.skp rfl (Opl.one (v := .lit (.bool false)) rfl rfl rfl (Opl.nil ?_))))
    exact hk1 _ _ ⟨_, _, _, H, by omega, ⟨rfl, rfl, rfl, rfl, rfl, rfl, rfl, (by first | rfl | (show PV.lit (.bool _) = _; congr 2; simp_all)), trivial⟩, h3⟩
   rw [if_pos c4] at H
   have e2 : (decide ((t238.length : Int) > 0)) = true := by simpa using c4
   try rw [e2]
   refine Opl.one (v := v0) rfl rfl rfl (Opl.one (v := .lit (.int .i64 a3)) rfl rfl rfl ?_)
   obtain ⟨t244, h_t244, H⟩ := Option.bind_eq_some_iff.1 H
   refine Opl.callc (spec_l21Asked.ev hv0 h_t244) rfl rfl rfl rfl ⟨hv0.plain, (.lit _), trivial⟩ (by decide) (Opl.one (v := .lit (.bool t244)) rfl rfl rfl (Opl.nil ?_))
   exact hk1 _ _ ⟨_, _, _, H, by omega, ⟨rfl, rfl, rfl, rfl, rfl, rfl, rfl, (by first | rfl | (show PV.lit (.bool _) = _; congr 2; simp_all)), trivial⟩, h3⟩
end Go.Proofs.Ytikjlbanfbkhmaa.PA
