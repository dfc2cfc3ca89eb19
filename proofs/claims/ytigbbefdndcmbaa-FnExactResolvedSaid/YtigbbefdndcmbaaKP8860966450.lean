/- Walks of Go functions: each is shown to answer as the Lean function beside it tells, under the conditions that its theorem names. -/
import Derived.Test.YtigbbefdndcmbaaProg
import Derived.KernelRfl
import Derived.Below
import Derived.Deep.Draws
import Derived.Deep.AppendLies
import Derived.Maps.AppendAt
import Derived.OwnWalk
import Derived.Laws.BytesArg
import Derived.Laws.MakeOwn
import Derived.Laws.OwnMore
import Derived.Deep.OwnRows
import Derived.Tactics
import Derived.Lib.ConvBytes
import Derived.Laws.Slices
import Derived.WalkKit
import Derived.RowKit3
import Derived.Deep.LoopGhost
import Derived.Deep.QuietTactic
import Derived.BigQuiet
import Derived.WideLaws
import Derived.Deep.DeepCutAuto
import Derived.Deep.CutBlock
import Derived.Deep.RegionHeld3
import Derived.Laws.Rows
import Derived.Lib.AppendStr
import Derived.ArgAppend
import Derived.Laws.IdiomCopy
import Derived.OrdersHeld
import Derived.Laws.BitsLemmas
import Derived.RowKit
import Derived.Laws.StructEq
import Derived.Lib.SliceRun
import Derived.WalkSpells
import Derived.ChangeArms
import Derived.ChangeSlices
import Derived.Deep.Slices
import Derived.Attr
import Derived.Laws.Append
import Derived.Laws.AppendOwn
import Derived.Laws.Entries
import Derived.Calls
import Derived.Laws.Sem
import Derived.Shelf.SlSortCmp.NoneTotal
import Derived.Test.YtigbbefdndcmbaaKWaf9a5ca07c
import Derived.Test.YtigbbefdndcmbaaKD6e4a1ceafe
section
namespace Go.Proofs.Ytigbbefdndcmbaa.PA
open Go Go.Abs Go.RowKit Go.Proofs Go.Proofs.YtigbbefdndcmbaaW.PrintWords Go.Proofs.YtigbbefdndcmbaaW.PrintLast Go.Proofs.YtigbbefdndcmbaaW.PrintMore
set_option maxRecDepth 100000
theorem K3 : tkAt Try.prog 3 = some (.int .i64) := by kernel_rfl
theorem Z3 : szAt Try.prog 3 = some 1 := by kernel_rfl
theorem T3 : tiOf Try.prog 3 = some ⟨(.int .i64), 1, 8, [.int .i64 0], []⟩ := by kernel_rfl
theorem K4 : tkAt Try.prog 4 = some .bool := by kernel_rfl
theorem Z4 : szAt Try.prog 4 = some 1 := by kernel_rfl
theorem T4 : tiOf Try.prog 4 = some ⟨.bool, 1, 1, [.bool false], []⟩ := by kernel_rfl
theorem K22 : tkAt Try.prog 22 = some (.slice 3) := by kernel_rfl
theorem Z22 : szAt Try.prog 22 = some 1 := by kernel_rfl
theorem T22 : tiOf Try.prog 22 = some ⟨(.slice 3), 1, 24, [.slice none 0 0], []⟩ := by kernel_rfl
theorem K31 : tkAt Try.prog 31 = some (.slice 89) := by kernel_rfl
theorem Z31 : szAt Try.prog 31 = some 1 := by kernel_rfl
theorem T31 : tiOf Try.prog 31 = some ⟨(.slice 89), 1, 24, [.slice none 0 0], []⟩ := by kernel_rfl
theorem K33 : tkAt Try.prog 33 = some .strct := by kernel_rfl
theorem Z33 : szAt Try.prog 33 = some 2 := by kernel_rfl
theorem T33 : tiOf Try.prog 33 = some ⟨.strct, 2, 32, [.int .i64 0, .slice none 0 0], [⟨0, 1, (.int .i64)⟩, ⟨1, 1, (.slice 89)⟩]⟩ := by kernel_rfl
theorem K35 : tkAt Try.prog 35 = some (.slice 22) := by kernel_rfl
theorem Z35 : szAt Try.prog 35 = some 1 := by kernel_rfl
theorem T35 : tiOf Try.prog 35 = some ⟨(.slice 22), 1, 24, [.slice none 0 0], []⟩ := by kernel_rfl
theorem K37 : tkAt Try.prog 37 = some .strct := by kernel_rfl
theorem Z37 : szAt Try.prog 37 = some 2 := by kernel_rfl
theorem T37 : tiOf Try.prog 37 = some ⟨.strct, 2, 32, [.int .i64 0, .slice none 0 0], [⟨0, 1, (.int .i64)⟩, ⟨1, 1, (.slice 22)⟩]⟩ := by kernel_rfl
theorem K40 : tkAt Try.prog 40 = some (.slice 69) := by kernel_rfl
theorem Z40 : szAt Try.prog 40 = some 1 := by kernel_rfl
theorem T40 : tiOf Try.prog 40 = some ⟨(.slice 69), 1, 24, [.slice none 0 0], []⟩ := by kernel_rfl
theorem K42 : tkAt Try.prog 42 = some .strct := by kernel_rfl
theorem Z42 : szAt Try.prog 42 = some 2 := by kernel_rfl
theorem T42 : tiOf Try.prog 42 = some ⟨.strct, 2, 32, [.int .i64 0, .slice none 0 0], [⟨0, 1, (.int .i64)⟩, ⟨1, 1, (.slice 69)⟩]⟩ := by kernel_rfl
theorem K60 : tkAt Try.prog 60 = some .func := by kernel_rfl
theorem Z60 : szAt Try.prog 60 = some 1 := by kernel_rfl
theorem T60 : tiOf Try.prog 60 = some ⟨.func, 1, 8, [.nilFunc], []⟩ := by kernel_rfl
theorem K69 : tkAt Try.prog 69 = some .strct := by kernel_rfl
theorem Z69 : szAt Try.prog 69 = some 2 := by kernel_rfl
theorem T69 : tiOf Try.prog 69 = some ⟨.strct, 2, 16, [.int .i64 0, .int .i64 0], [⟨0, 1, (.int .i64)⟩, ⟨1, 1, (.int .i64)⟩]⟩ := by kernel_rfl
theorem K81 : tkAt Try.prog 81 = some .func := by kernel_rfl
theorem Z81 : szAt Try.prog 81 = some 1 := by kernel_rfl
theorem T81 : tiOf Try.prog 81 = some ⟨.func, 1, 8, [.nilFunc], []⟩ := by kernel_rfl
theorem K89 : tkAt Try.prog 89 = some .strct := by kernel_rfl
theorem Z89 : szAt Try.prog 89 = some 2 := by kernel_rfl
theorem T89 : tiOf Try.prog 89 = some ⟨.strct, 2, 16, [.int .i64 0, .int .i64 0], [⟨0, 1, (.int .i64)⟩, ⟨1, 1, (.int .i64)⟩]⟩ := by kernel_rfl
attribute [go_sem] K3 Z3 T3 K4 Z4 T4 K22 Z22 T22 K31 Z31 T31 K33 Z33 T33 K35 Z35 T35 K37 Z37 T37 K40 Z40 T40 K42 Z42 T42 K60 Z60 T60 K69 Z69 T69 K81 Z81 T81 K89 Z89 T89
end Go.Proofs.Ytigbbefdndcmbaa.PA
end
section
namespace Go.Proofs.Ytigbbefdndcmbaa.PA
open Go Go.Abs Go.RowKit Go.Proofs Go.Proofs.YtigbbefdndcmbaaW.PrintWords Go.Proofs.YtigbbefdndcmbaaW.PrintLast Go.Proofs.YtigbbefdndcmbaaW.PrintMore
set_option maxRecDepth 100000
set_option maxHeartbeats 4000000
set_option linter.unusedVariables false
set_option linter.unusedSimpArgs false
theorem impl_atomOf.ev {a0 : Int} {r : Int} (H : impl_atomOf.f a0 = some r) : Ret Try.prog 77 [.lit (.int .i64 a0)] fun v S => v = .lit (.int .i64 r) := by
 unfold impl_atomOf.f at H
 refine Ret.intro Try.func77 rfl (Nat.le_of_ble_eq_true rfl) rfl ?_
 rw [tm1]
 refine Evr.sr rfl (Opl.p1 (n := Opl.nil (Evr.sr rfl (Opl.p1 (n := Opl.p1 (n := Opl.one (v := .lit (.int .i64 (wrap64 (-a0)))) rfl rfl (by simp only [go_sem, Int.zero_sub, w64]; rfl) (Opl.one rfl rfl (by simp only [go_sem, minFn, maxFn]; rfl) (Opl.one (v := .lit (.int .i64 (if (wrap64 (-a0)) > a0 then (wrap64 (-a0)) else a0))) rfl rfl rfl (Opl.nil ?_)))))))))
 obtain rfl := Option.some.inj H
 refine Evr.ret1 Try.func77 rfl ?_
 show (.lit (.int .i64 (if (wrap64 (-a0)) > a0 then (wrap64 (-a0)) else a0)) : PV) = _
 first | rfl | (simp only [go_sem]; rfl)
theorem impl_in.ev {a0 : Int} {a1 : Int} {a2 : Int} {r : Bool} (H : impl_in.f a0 a1 a2 = some r) : Ret Try.prog 34 [.lit (.int .i64 a0), .lit (.int .i64 a1), .lit (.int .i64 a2)] fun v S => v = .lit (.bool r) := by
 unfold impl_in.f at H
 refine Ret.intro Try.func34 rfl (Nat.le_of_ble_eq_true rfl) rfl ?_
 rw [tm3]
 refine Evr.sr rfl (Opl.p1 (n := Opl.nil (Evr.sr rfl (Opl.p1 (n := Opl.p1 (n := Opl.p1 (n := Opl.p1 (n := ?_))))))))
 by_cases c1 : a0 ≥ a1
 case neg =>
  rw [if_neg c1] at H
  have e2 : (decide (a0 ≥ a1)) = false := by simpa using c1
  try rw [e2]
  refine Opl.skp rfl (Opl.skp rfl (Opl.skp rfl (Opl.p1 (n := Opl.p1 (n := Opl.nil ?_)))))
  obtain rfl := Option.some.inj H
  refine Evr.ret1 Try.func34 rfl ?_
  show (.lit (.bool false) : PV) = _
  first | rfl | (simp only [go_sem]; rfl)
 rw [if_pos c1] at H
 have e1 : (decide (a0 ≥ a1)) = true := by simpa using c1
 try rw [e1]
 refine Opl.p1 (n := Opl.p1 (n := Opl.p1 (n := Opl.p1 (n := Opl.p1 (n := Opl.nil ?_)))))
 obtain rfl := Option.some.inj H
 refine Evr.ret1 Try.func34 rfl ?_
 show (.lit (.bool (decide (a0 ≤ a2))) : PV) = _
 first | rfl | (simp only [go_sem]; rfl)
theorem impl_ClauseValid.ev {k : Nat} {l0 : List Int} {v0 : PV} (hv0 : Sl (cInt .i64) l0 v0) {a1 : Int} {r : Bool} (H : impl_ClauseValid.f k l0 a1 = some r) : Ret Try.prog 42 [v0, .lit (.int .i64 a1)] fun v S => v = .lit (.bool r) := by
 unfold impl_ClauseValid.f at H
 refine Ret.intro Try.func42 rfl (Nat.le_of_ble_eq_true rfl) rfl ?_
 rw [tm2]
 refine Evr.sr rfl (Opl.p1 (n := Opl.nil (Evr.seq (Evr.sr rfl (Opl.p1 (n := ?_))))))
 obtain ⟨t312, h_t312, H⟩ := Option.bind_eq_some_iff.1 H
 refine Opl.callc (impl_in.ev h_t312) rfl rfl rfl rfl ⟨(.lit _), (.lit _), (.lit _), trivial⟩ (by decide) (Opl.p1 (n := Opl.nil ?_))
 by_cases c1 : t312 = true
 case neg =>
  rw [if_neg c1] at H
  have e10 : (!t312) = true := by simpa using c1
  try rw [e10]
  refine Evr.condT rfl (Evr.sr rfl (Opl.p1 (n := Opl.nil ?_)))
  obtain rfl := Option.some.inj H
  refine Evr.ret1 Try.func42 rfl ?_
  show (.lit (.bool false) : PV) = _
  first | rfl | (simp only [go_sem]; rfl)
 rw [if_pos c1] at H
 have e1 : (!t312) = false := by simpa using c1
 try rw [e1]
 refine Evr.condF rfl (Evr.skip (Evr.seq (Evr.sr rfl (Opl.p1 (n := Opl.len (xs := l0) (by exact hv0) K22 rfl rfl rfl rfl (Opl.p1 (n := Opl.nil (Evr.block ?_))))))))
 refine Evr.loop (Evr.rounds (n := k) (Inv := fun n tm S => n ≤ k ∧ ∃ (x12_1 : Int), impl_ClauseValid.l0 n l0 a1 l0 (l0.length : Int) x12_1 = some r ∧ Has tm [(0, v0), (1, .lit (.int .i64 a1)), (10, v0), (11, .lit (.int .i64 (l0.length : Int))), (12, .lit (.int .i64 x12_1))]) ?_ ?_ ?_)
 · exact ⟨Nat.le_refl _, _, H, ⟨rfl, rfl, rfl, rfl, rfl, trivial⟩⟩
 ·
  rintro tm S ⟨_, _, H, -⟩
  simp [impl_ClauseValid.l0] at H
 ·
  rintro n1 ih1 tm S ⟨hle, x12_1, H, hh⟩
  simp only [impl_ClauseValid.l0] at H
  rw [hh.eq]
  refine Evr.sr rfl (Opl.p1 (n := Opl.nil (Evr.seq ?_)))
  by_cases c2 : x12_1 < (l0.length : Int)
  case neg =>
   rw [if_neg c2] at H
   have e9 : (decide (x12_1 < (l0.length : Int))) = false := by simpa using c2
   try rw [e9]
   refine Evr.condF rfl (Evr.exit rfl (Evr.sr rfl (Opl.p1 (n := Opl.nil ?_))))
   obtain rfl := Option.some.inj H
   refine Evr.ret1 Try.func42 rfl ?_
   show (.lit (.bool true) : PV) = _
   first | rfl | (simp only [go_sem]; rfl)
  rw [if_pos c2] at H
  have e2 : (decide (x12_1 < (l0.length : Int))) = true := by simpa using c2
  try rw [e2]
  refine Evr.condT rfl (Evr.skip (Evr.seq (Evr.block (Evr.sr rfl (Opl.p1 (n := ?_))))))
  obtain ⟨c3, H⟩ := peel H
  obtain ⟨c4, H⟩ := peel H
  refine Opl.idx (M := (cInt .i64)) (xs := l0) (j := x12_1) (0 : Int) (by exact hv0) rfl (by omega) (by omega) K22 Z3 rfl rfl ?_
  rintro p1 q1 h1
  obtain rfl : p1 = [.lit (.int .i64 (rd l0 x12_1))] := h1
  refine Opl.lda (.lit (.int .i64 (rd l0 x12_1))) rfl T3 rfl rfl rfl rfl (Opl.p1 (n := Opl.p1 (n := Opl.nil (Evr.seq ?_))))
  refine Evr.join (fun tm S => ∃ (kq1 : Nat) (x41_1 : Bool), impl_ClauseValid.j1 kq1 l0 a1 l0 (l0.length : Int) x12_1 x41_1 = some r ∧ kq1 ≤ n1 ∧ Has tm [(0, v0), (1, .lit (.int .i64 a1)), (10, v0), (11, .lit (.int .i64 (l0.length : Int))), (12, .lit (.int .i64 x12_1)), (41, .lit (.bool x41_1))]) ?_ fun hk1 => ?_
  ·
   rintro tm S ⟨kq1, x41_1, H, hle, hh⟩
   rw [hh.eq]
   obtain _ | k1 := kq1
   · simp [impl_ClauseValid.j1] at H
   simp only [impl_ClauseValid.j1] at H
   by_cases c5 : x41_1 = true
   case pos =>
    rw [if_pos c5] at H
    obtain rfl : x41_1 = true := by simpa using c5
    refine Evr.condT rfl (Evr.sr rfl (Opl.p1 (n := Opl.nil ?_)))
    obtain rfl := Option.some.inj H
    refine Evr.ret1 Try.func42 rfl ?_
    show (.lit (.bool false) : PV) = _
    first | rfl | (simp only [go_sem]; rfl)
   rw [if_neg c5] at H
   obtain rfl : x41_1 = false := by simpa using c5
   refine Evr.condF rfl (Evr.skip (Evr.inBlock (Evr.regionN rfl (Opl.add (k := .i64) (a := x12_1) (b := 1) K3 rfl rfl rfl rfl (Opl.one (v := .lit (.int .i64 (wrap64 (x12_1 + 1)))) rfl rfl rfl (Opl.nil ?_))))))
   exact ih1 _ (by omega) _ _ ⟨by omega, _, H, ⟨rfl, rfl, rfl, rfl, rfl, trivial⟩⟩
  ·
   refine Evr.regionN rfl (Opl.p1 (n := Opl.p1 (n := Opl.one (v := .lit (.int .i64 (wrap64 (-a1)))) rfl rfl (by simp only [go_sem, Int.zero_sub, w64]; rfl) (Opl.one (v := .lit (.int .i64 a1)) rfl rfl rfl ?_))))
   obtain ⟨t314, h_t314, H⟩ := Option.bind_eq_some_iff.1 H
   refine Opl.callc (impl_in.ev h_t314) rfl rfl rfl rfl ⟨(.lit _), (.lit _), (.lit _), trivial⟩ (by decide) (Opl.p1 (n := Opl.one (v := .lit (.bool (!t314))) rfl rfl rfl ?_))
   by_cases c6 : t314 = true
   case neg =>
    rw [if_neg c6] at H
    have e8 : (!t314) = true := by simpa using c6
    try rw [e8]
    refine Opl.skp rfl (Opl.skp rfl (Opl.p1 (n := Opl.one (v := .lit (.bool true)) rfl rfl rfl (Opl.skp rfl (Opl.skp rfl (Opl.skp rfl (Opl.skp rfl (Opl.skp rfl (Opl.skp rfl (Opl.skp rfl (Opl.skp rfl (Opl.skp rfl (Opl.skp rfl (Opl.skp rfl (Opl.skp rfl (Opl.skp rfl (Opl.p1 (n := Opl.nil ?_))))))))))))))))))
    exact hk1 _ _ ⟨_, _, H, by omega, ⟨rfl, rfl, rfl, rfl, rfl, (by first | rfl | (show PV.lit (.bool _) = _; congr 2; simp_all)), trivial⟩⟩
   rw [if_pos c6] at H
   have e3 : (!t314) = false := by simpa using c6
   try rw [e3]
   refine Opl.one (v := .lit (.int .i64 (rd l0 x12_1))) rfl rfl rfl (Opl.p1 (n := Opl.p1 (n := Opl.one (v := .lit (.bool ((rd l0 x12_1) == 0))) rfl rfl rfl ?_)))
   by_cases c7 : (rd l0 x12_1) = 0
   case pos =>
    rw [if_pos c7] at H
    have e4 : ((rd l0 x12_1) == 0) = true := by simpa using c7
    try rw [e4]
    refine Opl.skp rfl (Opl.skp rfl (Opl.skp rfl (Opl.skp rfl (Opl.skp rfl (Opl.skp rfl (Opl.skp rfl (Opl.skp rfl (Opl.skp rfl (Opl.skp rfl (Opl.skp rfl (Opl.skp rfl (Opl.skp rfl (Opl.p1 (n := Opl.nil ?_))))))))))))))
    exact hk1 _ _ ⟨_, _, H, by omega, ⟨rfl, rfl, rfl, rfl, rfl, (by first | rfl | (show PV.lit (.bool _) = _; congr 2; simp_all)), trivial⟩⟩
   rw [if_neg c7] at H
   have e5 : ((rd l0 x12_1) == 0) = false := by simpa using c7
   try rw [e5]
   refine Opl.one (v := .lit (.int .i64 x12_1)) rfl rfl rfl (Opl.p1 (n := Opl.one (v := .lit (.bool (decide (x12_1 > 0)))) rfl rfl rfl ?_))
   by_cases c8 : x12_1 > 0
   case neg =>
    rw [if_neg c8] at H
    have e7 : (decide (x12_1 > 0)) = false := by simpa using c8
    try rw [e7]
    refine Opl.skp rfl (Opl.skp rfl (Opl.skp rfl (Opl.skp rfl (Opl.skp rfl (Opl.skp rfl (Opl.skp rfl (Opl.skp rfl (Opl.skp rfl (Opl.p1 (n := Opl.p1 (n := Opl.nil ?_)))))))))))
    exact hk1 _ _ ⟨_, _, H, by omega, ⟨rfl, rfl, rfl, rfl, rfl, (by first | rfl | (show PV.lit (.bool _) = _; congr 2; simp_all)), trivial⟩⟩
   rw [if_pos c8] at H
   have e6 : (decide (x12_1 > 0)) = true := by simpa using c8
   try rw [e6]
   refine Opl.one (v := v0) rfl rfl rfl (Opl.one (v := .lit (.int .i64 x12_1)) rfl rfl rfl (Opl.subi (k := .i64) (a := x12_1) (b := 1) K3 rfl rfl rfl rfl ?_))
   obtain ⟨c9, H⟩ := peel H
   obtain ⟨c10, H⟩ := peel H
   refine Opl.idx (M := (cInt .i64)) (xs := l0) (j := (wrap64 (x12_1 - 1))) (0 : Int) (by exact hv0) rfl (by omega) (by omega) K22 Z3 rfl rfl ?_
   rintro p2 q2 h2
   obtain rfl : p2 = [.lit (.int .i64 (rd l0 (wrap64 (x12_1 - 1))))] := h2
   refine Opl.lda (.lit (.int .i64 (rd l0 (wrap64 (x12_1 - 1))))) rfl T3 rfl rfl rfl rfl ?_
   obtain ⟨t316, h_t316, H⟩ := Option.bind_eq_some_iff.1 H
   refine Opl.callc (impl_atomOf.ev h_t316) rfl rfl rfl rfl ⟨(.lit _), trivial⟩ (by decide) (Opl.one (v := .lit (.int .i64 (rd l0 x12_1))) rfl rfl rfl ?_)
   obtain ⟨t317, h_t317, H⟩ := Option.bind_eq_some_iff.1 H
   refine Opl.callc (impl_atomOf.ev h_t317) rfl rfl rfl rfl ⟨(.lit _), trivial⟩ (by decide) (Opl.p1 (n := Opl.p1 (n := Opl.p1 (n := Opl.nil ?_))))
   exact hk1 _ _ ⟨_, _, H, by omega, ⟨rfl, rfl, rfl, rfl, rfl, (by first | rfl | (show PV.lit (.bool _) = _; congr 2; simp_all)), trivial⟩⟩
theorem impl_clone_int.ev {l0 : List Int} {v0 : PV} (hv0 : Sl (cInt .i64) l0 v0) {r : List Int} (H : impl_clone_int.f l0 = some r) : Ret Try.prog 64 [v0] fun v S => Vec (cInt .i64) r v S := by
 unfold impl_clone_int.f at H
 refine Ret.intro Try.func64 rfl (Nat.le_of_ble_eq_true rfl) rfl ?_
 rw [tm1]
 obtain ⟨c1, H⟩ := peel H
 obtain rfl := Option.some.inj H
 refine Evr.seq (Evr.regionN rfl (Opl.p1 (n := Opl.nil (Evr.seq (Evr.seq (Evr.regionN rfl (Opl.p1 (n := Opl.len (by exact hv0) K22 rfl rfl rfl rfl (Opl.p1 (n := Opl.nil ?_))))))))))
 by_cases c2 : (l0.length : Int) = 0
 · have e1 : ((l0.length : Int) == 0) = true := by simpa using c2
   try rw [e1]
   refine Evr.condT rfl (Evr.seq (Evr.regionN rfl (Opl.p1 (n := Opl.nil ?_))))
   obtain rfl : l0 = [] := List.eq_nil_of_length_eq_zero (by omega)
   refine Evr.ret1 Try.func64 rfl ?_
   exact .nil
 · have e1 : ((l0.length : Int) == 0) = false := by simpa using c2
   try rw [e1]
   refine Evr.condF rfl (Evr.skip (Evr.seq (Evr.regionN rfl (Opl.p1 (n := Opl.len (by exact hv0) K22 rfl rfl rfl rfl ?_)))))
   refine Opl.make (M := (cInt .i64)) (m := (l0.length : Int)) (0 : Int) (by exact rfl) rfl rfl K22 T3 rfl (by omega) (by show (_ : Nat) * 8 ≤ 281474976710656; omega) (by omega) rfl rfl rfl ?_
   rintro pv1 S h1 u1 w1
   refine Opl.p1 (n := Opl.nil (Evr.seq (Evr.regionN rfl (Opl.p1 (n := Opl.p1 (n := ?_))))))
   refine Opl.copy (M := (cInt .i64)) (ys := l0) h1 (by exact hv0) (oInt .i64) rfl (by simp) (by simp; omega) K22 Z3 rfl rfl rfl rfl rfl ?_
   rintro S h2 u2
   refine Opl.nil (Evr.seq (Evr.regionN rfl (Opl.p1 (n := Opl.p1 (n := Opl.nil ?_)))))
   refine Evr.ret1 Try.func64 rfl ?_
   exact h2
theorem slices_Clone_int_int.ev {l0 : List Int} {v0 : PV} (hv0 : Sl (cInt .i64) l0 v0) {r : List Int} (H : slices_Clone_int_int.f l0 = some r) : Ret Try.prog 72 [v0] fun v S => Vec (cInt .i64) r v S := by
 unfold slices_Clone_int_int.f at H
 obtain ⟨c1, H⟩ := peel H
 obtain rfl := Option.some.inj H
 refine Ret.intro Try.func72 rfl (Nat.le_of_ble_eq_true rfl) rfl ?_
 rw [tm1]
 refine Evr.seq (Evr.regionN rfl (Opl.p1 (n := Opl.nil (Evr.seq (Evr.seq (Evr.regionN rfl (Opl.p1 (n := ?_))))))))
 obtain ⟨rfl, rfl⟩ | ⟨cs, rfl, hr⟩ := hv0
 · refine Opl.eqnil rfl K22 rfl rfl (Opl.nil (Evr.condT rfl (Evr.seq (Evr.regionN rfl (Opl.p1 (n := Opl.nil ?_))))))
   refine Evr.ret1 Try.func72 rfl ?_
   exact .nil
 · refine Opl.eqsl rfl K22 rfl rfl (Opl.nil (Evr.condF rfl (Evr.skip (Evr.seq (Evr.regionN rfl (Opl.lits (M := (cInt .i64)) (ys := []) [] K22 T3 rfl rfl rfl trivial rfl (by decide) rfl rfl rfl ?_))))))
   rintro pv1 S h1 u1 w1
   have hv0 : Sl (cInt .i64) l0 (.sl cs l0.length) := .inr ⟨cs, rfl, hr⟩
   refine Opl.p1 (n := Opl.app (M := (cInt .i64)) (xs := ([] : List Int)) (ys := l0) (v := pv1) h1 (.sl hv0) (oInt .i64) rfl rfl K22 T3 rfl rfl (by (try simp only [List.length_cons, List.length_nil]); omega) (by show (_ + _) * 8 ≤ 140737488355328; (try simp only [List.length_cons, List.length_nil]); omega) rfl rfl rfl rfl rfl ?_)
   rintro pv2 S h2 u2 w2
   refine Opl.p1 (n := Opl.nil ?_)
   refine Evr.ret1 Try.func72 rfl ?_
   rw [List.nil_append] at h2
   exact h2
theorem slices_Compact_int_int.evb {k : Nat} {S0 : Sto} {l0 : List Int} {v0 : PV} (hv0 : Vec (cInt .i64) l0 v0 S0) {r : List Int} (H : slices_Compact_int_int.f k l0 = some r) : RetS Try.prog 78 [v0] S0 fun v S => Vec (cInt .i64) r v S ∧ (∀ j, v.id? = some j → v0.id? = some j) ∧ Same S0 S (PV.id? v0).toList := by
 have hs0 : Same S0 S0 (PV.id? v0).toList := .refl _ _
 unfold slices_Compact_int_int.f at H
 refine RetS.intro Try.func78 rfl (Nat.le_of_ble_eq_true rfl) rfl ?_
 rw [tm1]
 refine Evr.sr rfl (Opl.p1 (n := Opl.nil (Evr.seq (Evr.sr rfl (Opl.p1 (n := Opl.lenv (xs := l0) (by exact hv0) K22 rfl rfl rfl rfl (Opl.p1 (n := Opl.nil ?_))))))))
 by_cases c1 : (l0.length : Int) < 2
 case pos =>
  rw [if_pos c1] at H
  have e1 : (decide ((l0.length : Int) < 2)) = true := by simpa using c1
  try rw [e1]
  refine Evr.condT rfl (Evr.sr rfl (Opl.p1 (n := Opl.p1 (n := Opl.nil ?_))))
  obtain rfl := Option.some.inj H
  refine Evr.ret1 Try.func78 rfl ?_
  exact ⟨hv0, fun _ h => h, hs0⟩
 rw [if_neg c1] at H
 have e2 : (decide ((l0.length : Int) < 2)) = false := by simpa using c1
 try rw [e2]
 refine Evr.condF rfl (Evr.skip (Evr.seq (Evr.sr rfl (Opl.p1 (n := Opl.nil (Evr.block ?_))))))
 refine Evr.loop (Evr.rounds (n := k) (Inv := fun n tm S => n ≤ k ∧ ∃ (x3q3_1 : Int), slices_Compact_int_int.l1 n x3q3_1 l0 = some r ∧ Has tm [(0, v0), (3, .lit (.int .i64 x3q3_1))] ∧ Vec (cInt .i64) l0 v0 S ∧ Same S0 S (PV.id? v0).toList) ?_ ?_ ?_)
 · exact ⟨Nat.le_refl _, _, H, ⟨rfl, rfl, trivial⟩, hv0, hs0⟩
 ·
  rintro tm S ⟨_, _, H, -⟩
  simp [slices_Compact_int_int.l1] at H
 ·
  rintro n1 ih1 tm S ⟨hle, x3q3_1, H, hh, h1, h2⟩
  simp only [slices_Compact_int_int.l1] at H
  rw [hh.eq]
  refine Evr.seq (Evr.sr rfl (Opl.p1 (n := Opl.p1 (n := Opl.lenv (xs := l0) (by exact h1) K22 rfl rfl rfl rfl (Opl.p1 (n := Opl.nil ?_))))))
  by_cases c2 : x3q3_1 < (l0.length : Int)
  case neg =>
   rw [if_neg c2] at H
   have e10 : (decide (x3q3_1 < (l0.length : Int))) = false := by simpa using c2
   try rw [e10]
   refine Evr.condF rfl (Evr.exit rfl (Evr.sr rfl (Opl.p1 (n := Opl.p1 (n := Opl.nil ?_)))))
   obtain rfl := Option.some.inj H
   refine Evr.ret1 Try.func78 rfl ?_
   exact ⟨h1, fun _ h => h, h2⟩
  rw [if_pos c2] at H
  have e3 : (decide (x3q3_1 < (l0.length : Int))) = true := by simpa using c2
  try rw [e3]
  refine Evr.condT rfl (Evr.skip (Evr.seq (Evr.block (Evr.seq (Evr.regionD rfl (by kernel_rfl) (Opl.p1 (n := Opl.p1 (n := ?_))))))))
  obtain ⟨c3, H⟩ := peel H
  obtain ⟨c4, H⟩ := peel H
  obtain ⟨c5, H⟩ := peel H
  obtain ⟨c6, H⟩ := peel H
  refine Opl.idv (M := (cInt .i64)) (xs := l0) (j := x3q3_1) (v := v0) h1 rfl rfl (by omega) (by omega) K22 Z3 rfl rfl ?_
  rintro d1 z1 q1 h3 h4
  refine Opl.ldv (M := (cInt .i64)) (xs := l0) (j := x3q3_1) (0 : Int) h3 h4 (by omega) (by omega) rfl T3 rfl rfl rfl ?_
  rintro p1 q2 h5
  obtain rfl : p1 = [.lit (.int .i64 (rd l0 x3q3_1))] := h5
  refine ⟨.lit (.int .i64 (rd l0 x3q3_1)), rfl, ?_⟩
  refine Opl.p1 (n := Opl.p1 (n := Opl.subi (k := .i64) (a := x3q3_1) (b := 1) K3 rfl rfl rfl rfl (Opl.idv (M := (cInt .i64)) (xs := l0) (j := (wrap64 (x3q3_1 - 1))) (v := v0) h1 rfl rfl (by omega) (by omega) K22 Z3 rfl rfl ?_)))
  rintro d2 z2 q3 h6 h7
  refine Opl.ldv (M := (cInt .i64)) (xs := l0) (j := (wrap64 (x3q3_1 - 1))) (0 : Int) h6 h7 (by omega) (by omega) rfl T3 rfl rfl rfl ?_
  rintro p2 q4 h8
  obtain rfl : p2 = [.lit (.int .i64 (rd l0 (wrap64 (x3q3_1 - 1))))] := h8
  refine ⟨.lit (.int .i64 (rd l0 (wrap64 (x3q3_1 - 1)))), rfl, ?_⟩
  refine Opl.eql (a := (rd l0 x3q3_1)) (b := (rd l0 (wrap64 (x3q3_1 - 1)))) K3 rfl rfl rfl rfl (Opl.nil ?_)
  by_cases c7 : (rd l0 x3q3_1) = (rd l0 (wrap64 (x3q3_1 - 1)))
  case neg =>
   rw [if_neg c7] at H
   have e9 : ((rd l0 x3q3_1) == (rd l0 (wrap64 (x3q3_1 - 1)))) = false := by simpa using c7
   try rw [e9]
   refine Evr.condF rfl (Evr.skip (Evr.inBlock (Evr.regionN rfl (Opl.one (v := .lit (.int .i64 x3q3_1)) rfl rfl rfl (Opl.add (k := .i64) (a := x3q3_1) (b := 1) K3 rfl rfl rfl rfl (Opl.one (v := .lit (.int .i64 (wrap64 (x3q3_1 + 1)))) rfl rfl rfl (Opl.nil ?_)))))))
   exact ih1 _ (by omega) _ _ ⟨by omega, _, H, ⟨rfl, rfl, trivial⟩, h1, h2⟩
  rw [if_pos c7] at H
  have e4 : ((rd l0 x3q3_1) == (rd l0 (wrap64 (x3q3_1 - 1)))) = true := by simpa using c7
  try rw [e4]
  refine Evr.condT rfl (Evr.sr rfl (Opl.one (v := v0) rfl rfl rfl (Opl.one (v := .lit (.int .i64 x3q3_1)) rfl rfl rfl ?_)))
  obtain ⟨c8, H⟩ := peel H
  obtain ⟨c9, H⟩ := peel H
  obtain ⟨c10, H⟩ := peel H
  refine Opl.slcW (M := (cInt .i64)) (a := x3q3_1) h1 rfl rfl (by omega) (by omega) (by omega) K22 Z3 rfl rfl rfl ?_
  rintro w1 h9
  refine Opl.p1 (n := Opl.nil (Evr.seq (Evr.sr rfl (Opl.one (v := .lit (.int .i64 1)) rfl rfl rfl (Opl.nil (Evr.block ?_))))))
  refine Evr.loop (Evr.rounds (n := n1) (Inv := fun n tm S => n ≤ n1 ∧ ∃ (x0q4_1 : List Int) (x3q5_1 : Int) (x5q4_1 : Int), slices_Compact_int_int.l2 n x0q4_1 x3q5_1 x5q4_1 x3q3_1 = some r ∧ Has tm [(0, v0), (3, .lit (.int .i64 x3q5_1)), (4, w1), (5, .lit (.int .i64 x5q4_1))] ∧ Vec (cInt .i64) x0q4_1 v0 S ∧ Same S0 S (PV.id? v0).toList) ?_ ?_ ?_)
  · exact ⟨Nat.le_refl _, _, _, _, H, ⟨rfl, rfl, rfl, rfl, trivial⟩, h1, h2⟩
  ·
   rintro tm S ⟨_, _, _, _, H, -⟩
   simp [slices_Compact_int_int.l2] at H
  ·
   rintro n2 ih2 tm S ⟨hle, x0q4_1, x3q5_1, x5q4_1, H, hh, h10, h11⟩
   simp only [slices_Compact_int_int.l2] at H
   rw [hh.eq]
   refine Evr.seq (Evr.sr rfl (Opl.p1 (n := Opl.p1 (n := Opl.lenw (M := (cInt .i64)) (xs := x0q4_1) (a := (x3q3_1 : Int).toNat) h10 h9 rfl K22 rfl rfl rfl rfl (Opl.p1 (n := Opl.nil ?_))))))
   by_cases c11 : x5q4_1 < ((x0q4_1.length - (x3q3_1 : Int).toNat : Nat) : Int)
   case neg =>
    rw [if_neg c11] at H
    have e8 : (decide (x5q4_1 < ((x0q4_1.length - (x3q3_1 : Int).toNat : Nat) : Int))) = false := by simpa using c11
    try rw [e8]
    refine Evr.condF rfl (Evr.exit rfl (Evr.sr rfl (Opl.p1 (n := Opl.p1 (n := ?_)))))
    obtain ⟨c21, H⟩ := peel H
    obtain ⟨c22, H⟩ := peel H
    obtain ⟨c23, H⟩ := peel H
    obtain ⟨c24, H⟩ := peel H
    obtain ⟨c25, H⟩ := peel H
    obtain ⟨c26, H⟩ := peel H
    refine Opl.slcW (M := (cInt .i64)) (a := x3q5_1) h10 rfl rfl (by omega) (by omega) (by omega) K22 Z3 rfl rfl rfl ?_
    rintro w2 h27
    refine Opl.clearw (M := (cInt .i64)) (xs := x0q4_1) (a := x3q5_1) (0 : Int) h10 h27 (by exact rfl) (oInt .i64) rfl K22 T3 rfl rfl rfl rfl rfl ?_
    rintro S h28 u2
    have h29 := u2.sameP h11 OutT.self
    refine Opl.nil (Evr.sr rfl (Opl.p1 (n := Opl.p1 (n := Opl.slcP (M := (cInt .i64)) (b := x3q5_1) h28 rfl rfl (by omega) (by omega) (by omega) K22 Z3 rfl rfl rfl ?_))))
    rintro w3 h30
    refine Opl.p1 (n := Opl.nil ?_)
    refine Evr.cut (M := (cInt .i64)) (xs := (x0q4_1.take (x3q5_1 : Int).toNat ++ List.replicate (x0q4_1.length - (x3q5_1 : Int).toNat) (0 : Int))) h30 h28 fun S h31 u3 b1 => ?_
    have h32 := u3.sameP h29 OutT.self
    obtain rfl := Option.some.inj H
    refine Evr.ret1 Try.func78 rfl ?_
    exact ⟨h31, b1, h32⟩
   rw [if_pos c11] at H
   have e5 : (decide (x5q4_1 < ((x0q4_1.length - (x3q3_1 : Int).toNat : Nat) : Int))) = true := by simpa using c11
   try rw [e5]
   refine Evr.condT rfl (Evr.skip (Evr.seq (Evr.block (Evr.seq (Evr.regionD rfl (by kernel_rfl) (Opl.p1 (n := Opl.p1 (n := ?_))))))))
   obtain ⟨c12, H⟩ := peel H
   obtain ⟨c13, H⟩ := peel H
   obtain ⟨c14, H⟩ := peel H
   obtain ⟨c15, H⟩ := peel H
   refine Opl.idw (M := (cInt .i64)) (xs := x0q4_1) (a := x3q3_1) (j := x5q4_1) (v := v0) h10 h9 (by omega) rfl rfl (by omega) (by omega) K22 Z3 rfl rfl ?_
   rintro d3 z3 q5 h12 h13
   refine Opl.ldv (M := (cInt .i64)) (xs := x0q4_1) (j := x3q3_1 + x5q4_1) (0 : Int) h12 h13 (by omega) (by omega) rfl T3 rfl rfl rfl ?_
   rintro p3 q6 h14
   obtain rfl : p3 = [.lit (.int .i64 (rd x0q4_1 (x3q3_1 + x5q4_1)))] := h14
   refine ⟨.lit (.int .i64 (rd x0q4_1 (x3q3_1 + x5q4_1))), rfl, ?_⟩
   refine Opl.p1 (n := Opl.p1 (n := Opl.subi (k := .i64) (a := x5q4_1) (b := 1) K3 rfl rfl rfl rfl (Opl.idw (M := (cInt .i64)) (xs := x0q4_1) (a := x3q3_1) (j := (wrap64 (x5q4_1 - 1))) (v := v0) h10 h9 (by omega) rfl rfl (by omega) (by omega) K22 Z3 rfl rfl ?_)))
   rintro d4 z4 q7 h15 h16
   refine Opl.ldv (M := (cInt .i64)) (xs := x0q4_1) (j := x3q3_1 + (wrap64 (x5q4_1 - 1))) (0 : Int) h15 h16 (by omega) (by omega) rfl T3 rfl rfl rfl ?_
   rintro p4 q8 h17
   obtain rfl : p4 = [.lit (.int .i64 (rd x0q4_1 (x3q3_1 + (wrap64 (x5q4_1 - 1)))))] := h17
   refine ⟨.lit (.int .i64 (rd x0q4_1 (x3q3_1 + (wrap64 (x5q4_1 - 1))))), rfl, ?_⟩
   refine Opl.neq (a := (rd x0q4_1 (x3q3_1 + x5q4_1))) (b := (rd x0q4_1 (x3q3_1 + (wrap64 (x5q4_1 - 1))))) K3 rfl rfl rfl rfl (Opl.nil ?_)
   refine Evr.join (fun tm S => ∃ (kq1 : Nat) (x0q4_2 : List Int) (x3q5_2 : Int), slices_Compact_int_int.l2 kq1 x0q4_2 x3q5_2 (wrap64 (x5q4_1 + 1)) x3q3_1 = some r ∧ kq1 ≤ n2 ∧ Has tm [(0, v0), (3, .lit (.int .i64 x3q5_2)), (4, w1), (5, .lit (.int .i64 x5q4_1))] ∧ Vec (cInt .i64) x0q4_2 v0 S ∧ Same S0 S (PV.id? v0).toList) ?_ fun hk1 => ?_
   ·
    rintro tm S ⟨kq1, x0q4_2, x3q5_2, H, hle, hh, h18, h19⟩
    rw [hh.eq]
    refine Evr.inBlock (Evr.regionN rfl (Opl.p1 (n := Opl.add (k := .i64) (a := x5q4_1) (b := 1) K3 rfl rfl rfl rfl (Opl.one (v := .lit (.int .i64 (wrap64 (x5q4_1 + 1)))) rfl rfl rfl (Opl.nil ?_)))))
    exact ih2 _ (by omega) _ _ ⟨by omega, _, _, _, H, ⟨rfl, rfl, rfl, rfl, trivial⟩, h18, h19⟩
   ·
    by_cases c16 : (rd x0q4_1 (x3q3_1 + x5q4_1)) ≠ (rd x0q4_1 (x3q3_1 + (wrap64 (x5q4_1 - 1))))
    case neg =>
     rw [if_neg c16] at H
     have e7 : ((rd x0q4_1 (x3q3_1 + x5q4_1)) != (rd x0q4_1 (x3q3_1 + (wrap64 (x5q4_1 - 1))))) = false := by simpa using c16
     try rw [e7]
     refine Evr.condF rfl (Evr.skip ?_)
     exact hk1 _ _ ⟨_, _, _, H, by omega, ⟨rfl, rfl, rfl, rfl, trivial⟩, h10, h11⟩
    rw [if_pos c16] at H
    have e6 : ((rd x0q4_1 (x3q3_1 + x5q4_1)) != (rd x0q4_1 (x3q3_1 + (wrap64 (x5q4_1 - 1))))) = true := by simpa using c16
    try rw [e6]
    refine Evr.condT rfl (Evr.sr rfl (Opl.one (v := v0) rfl rfl rfl (Opl.one (v := .lit (.int .i64 x3q5_1)) rfl rfl rfl (Opl.p1 (n := Opl.one (v := .lit (.int .i64 x5q4_1)) rfl rfl rfl ?_)))))
    obtain ⟨c17, H⟩ := peel H
    obtain ⟨c18, H⟩ := peel H
    obtain ⟨c19, H⟩ := peel H
    obtain ⟨c20, H⟩ := peel H
    refine Opl.idw (M := (cInt .i64)) (xs := x0q4_1) (a := x3q3_1) (j := x5q4_1) (v := v0) h10 h9 (by omega) rfl rfl (by omega) (by omega) K22 Z3 rfl rfl ?_
    rintro d5 z5 q9 h20 h21
    refine Opl.ldv (M := (cInt .i64)) (xs := x0q4_1) (j := x3q3_1 + x5q4_1) (0 : Int) h20 h21 (by omega) (by omega) rfl T3 rfl rfl rfl ?_
    rintro p5 q10 h22
    obtain rfl : p5 = [.lit (.int .i64 (rd x0q4_1 (x3q3_1 + x5q4_1)))] := h22
    refine ⟨.lit (.int .i64 (rd x0q4_1 (x3q3_1 + x5q4_1))), rfl, ?_⟩
    refine Opl.idv (M := (cInt .i64)) (xs := x0q4_1) (j := x3q5_1) (v := v0) h10 rfl rfl (by omega) (by omega) K22 Z3 rfl rfl ?_
    rintro d6 z6 q11 h23 h24
    refine Opl.stv (M := (cInt .i64)) (xs := x0q4_1) (j := x3q5_1) (y := (rd x0q4_1 (x3q3_1 + x5q4_1))) (vs := [.lit (.int .i64 (rd x0q4_1 (x3q3_1 + x5q4_1)))]) h23 h24 (by omega) (by omega) rfl rfl (by exact rfl) Z3 rfl rfl rfl rfl ?_
    rw [← q11]
    rintro S h25 u1
    have h26 := u1.sameP h11 OutT.self
    refine Opl.nil (Evr.regionN rfl (Opl.one (v := .lit (.int .i64 x3q5_1)) rfl rfl rfl (Opl.add (k := .i64) (a := x3q5_1) (b := 1) K3 rfl rfl rfl rfl (Opl.one (v := .lit (.int .i64 (wrap64 (x3q5_1 + 1)))) rfl rfl rfl (Opl.nil ?_)))))
    exact hk1 _ _ ⟨_, _, _, H, by omega, ⟨rfl, rfl, rfl, rfl, trivial⟩, h25, h26⟩
theorem cmp_isNaN_int.ev {a0 : Int} {r : Bool} (H : cmp_isNaN_int.f a0 = some r) : Ret Try.prog 94 [.lit (.int .i64 a0)] fun v S => v = .lit (.bool r) := by
 unfold cmp_isNaN_int.f at H
 refine Ret.intro Try.func94 rfl (Nat.le_of_ble_eq_true rfl) rfl ?_
 rw [tm1]
 refine Evr.sr rfl (Opl.p1 (n := Opl.nil (Evr.sr rfl (Opl.p1 (n := Opl.p1 (n := Opl.p1 (n := Opl.p1 (n := Opl.nil ?_))))))))
 obtain rfl := Option.some.inj H
 refine Evr.ret1 Try.func94 rfl ?_
 show (.lit (.bool (a0 != a0)) : PV) = _
 first | rfl | (simp only [go_sem]; rfl)
theorem cmp_Compare_int.ev {k : Nat} {a0 : Int} {a1 : Int} {r : Int} (H : cmp_Compare_int.f k a0 a1 = some r) : Ret Try.prog 76 [.lit (.int .i64 a0), .lit (.int .i64 a1)] fun v S => v = .lit (.int .i64 r) := by
 unfold cmp_Compare_int.f at H
 refine Ret.intro Try.func76 rfl (Nat.le_of_ble_eq_true rfl) rfl ?_
 rw [tm2]
 refine Evr.sr rfl (Opl.p1 (n := Opl.nil (Evr.sr rfl (Opl.p1 (n := ?_)))))
 obtain ⟨r1, h_r1, H'⟩ := Option.bind_eq_some_iff.1 H; clear H; have H := H'; clear H'
 refine Opl.callc (cmp_isNaN_int.ev h_r1) rfl rfl rfl rfl ⟨(.lit _), trivial⟩ (by decide) (Opl.p1 (n := Opl.nil (Evr.sr rfl (Opl.p1 (n := ?_)))))
 obtain ⟨r2, h_r2, H'⟩ := Option.bind_eq_some_iff.1 H; clear H; have H := H'; clear H'
 refine Opl.callc (cmp_isNaN_int.ev h_r2) rfl rfl rfl rfl ⟨(.lit _), trivial⟩ (by decide) (Opl.p1 (n := Opl.nil (Evr.seq (Evr.sr rfl (Opl.p1 (n := Opl.nil ?_))))))
 by_cases c1 : r1 = true
 case pos =>
  rw [if_pos c1] at H
  obtain rfl : r1 = true := by simpa using c1
  refine Evr.condT rfl (Evr.seq (Evr.sr rfl (Opl.p1 (n := Opl.nil ?_))))
  by_cases c2 : r2 = true
  case pos =>
   rw [if_pos c2] at H
   obtain rfl : r2 = true := by simpa using c2
   refine Evr.condT rfl (Evr.sr rfl (Opl.p1 (n := Opl.nil ?_)))
   obtain rfl := Option.some.inj H
   refine Evr.ret1 Try.func76 rfl ?_
   show (.lit (.int .i64 0) : PV) = _
   first | rfl | (simp only [go_sem]; rfl)
  rw [if_neg c2] at H
  obtain rfl : r2 = false := by simpa using c2
  refine Evr.condF rfl (Evr.skip (Evr.sr rfl (Opl.p1 (n := Opl.nil ?_))))
  obtain rfl := Option.some.inj H
  refine Evr.ret1 Try.func76 rfl ?_
  show (.lit (.int .i64 (-1)) : PV) = _
  first | rfl | (simp only [go_sem]; rfl)
 rw [if_neg c1] at H
 obtain rfl : r1 = false := by simpa using c1
 refine Evr.condF rfl (Evr.skip (Evr.seq (Evr.sr rfl (Opl.p1 (n := Opl.nil ?_)))))
 by_cases c3 : r2 = true
 case pos =>
  rw [if_pos c3] at H
  obtain rfl : r2 = true := by simpa using c3
  refine Evr.condT rfl (Evr.sr rfl (Opl.p1 (n := Opl.nil ?_)))
  obtain rfl := Option.some.inj H
  refine Evr.ret1 Try.func76 rfl ?_
  show (.lit (.int .i64 1) : PV) = _
  first | rfl | (simp only [go_sem]; rfl)
 rw [if_neg c3] at H
 obtain rfl : r2 = false := by simpa using c3
 refine Evr.condF rfl (Evr.skip (Evr.seq (Evr.sr rfl (Opl.p1 (n := Opl.p1 (n := Opl.p1 (n := Opl.nil ?_)))))))
 by_cases c4 : a0 < a1
 case pos =>
  rw [if_pos c4] at H
  have e1 : (decide (a0 < a1)) = true := by simpa using c4
  try rw [e1]
  refine Evr.condT rfl (Evr.sr rfl (Opl.p1 (n := Opl.nil ?_)))
  obtain rfl := Option.some.inj H
  refine Evr.ret1 Try.func76 rfl ?_
  show (.lit (.int .i64 (-1)) : PV) = _
  first | rfl | (simp only [go_sem]; rfl)
 rw [if_neg c4] at H
 have e2 : (decide (a0 < a1)) = false := by simpa using c4
 try rw [e2]
 refine Evr.condF rfl (Evr.skip (Evr.seq (Evr.sr rfl (Opl.p1 (n := Opl.p1 (n := Opl.p1 (n := Opl.nil ?_)))))))
 by_cases c5 : a0 > a1
 case pos =>
  rw [if_pos c5] at H
  have e3 : (decide (a0 > a1)) = true := by simpa using c5
  try rw [e3]
  refine Evr.condT rfl (Evr.sr rfl (Opl.p1 (n := Opl.nil ?_)))
  obtain rfl := Option.some.inj H
  refine Evr.ret1 Try.func76 rfl ?_
  show (.lit (.int .i64 1) : PV) = _
  first | rfl | (simp only [go_sem]; rfl)
 rw [if_neg c5] at H
 have e4 : (decide (a0 > a1)) = false := by simpa using c5
 try rw [e4]
 refine Evr.condF rfl (Evr.skip (Evr.sr rfl (Opl.p1 (n := Opl.nil ?_))))
 obtain rfl := Option.some.inj H
 refine Evr.ret1 Try.func76 rfl ?_
 show (.lit (.int .i64 0) : PV) = _
 first | rfl | (simp only [go_sem]; rfl)
theorem cmp_Or_int.ev {k : Nat} {l0 : List Int} {v0 : PV} (hv0 : Sl (cInt .i64) l0 v0) {r : Int} (H : cmp_Or_int.f k l0 = some r) : Ret Try.prog 75 [v0] fun v S => v = .lit (.int .i64 r) := by
 unfold cmp_Or_int.f at H
 refine Ret.intro Try.func75 rfl (Nat.le_of_ble_eq_true rfl) rfl ?_
 rw [tm1]
 refine Evr.sr rfl (Opl.p1 (n := Opl.nil (Evr.sr rfl (Opl.p1 (n := Opl.nil (Evr.seq (Evr.sr rfl (Opl.p1 (n := Opl.len (xs := l0) (by exact hv0) K22 rfl rfl rfl rfl (Opl.p1 (n := Opl.nil (Evr.block ?_))))))))))))
 refine Evr.loop (Evr.rounds (n := k) (Inv := fun n tm S => n ≤ k ∧ ∃ (x8_1 : Int), cmp_Or_int.l0 n 0 l0 (l0.length : Int) x8_1 = some r ∧ Has tm [(3, .lit (.int .i64 0)), (6, v0), (7, .lit (.int .i64 (l0.length : Int))), (8, .lit (.int .i64 x8_1))]) ?_ ?_ ?_)
 · exact ⟨Nat.le_refl _, _, H, ⟨rfl, rfl, rfl, rfl, trivial⟩⟩
 ·
  rintro tm S ⟨_, _, H, -⟩
  simp [cmp_Or_int.l0] at H
 ·
  rintro n1 ih1 tm S ⟨hle, x8_1, H, hh⟩
  simp only [cmp_Or_int.l0] at H
  rw [hh.eq]
  refine Evr.sr rfl (Opl.p1 (n := Opl.nil (Evr.seq ?_)))
  by_cases c1 : x8_1 < (l0.length : Int)
  case neg =>
   rw [if_neg c1] at H
   have e4 : (decide (x8_1 < (l0.length : Int))) = false := by simpa using c1
   try rw [e4]
   refine Evr.condF rfl (Evr.exit rfl (Evr.sr rfl (Opl.p1 (n := Opl.p1 (n := Opl.nil ?_)))))
   obtain rfl := Option.some.inj H
   refine Evr.ret1 Try.func75 rfl ?_
   show (.lit (.int .i64 0) : PV) = _
   first | rfl | (simp only [go_sem]; rfl)
  rw [if_pos c1] at H
  have e1 : (decide (x8_1 < (l0.length : Int))) = true := by simpa using c1
  try rw [e1]
  refine Evr.condT rfl (Evr.skip (Evr.seq (Evr.block (Evr.sr rfl ?_))))
  obtain ⟨c2, H⟩ := peel H
  obtain ⟨c3, H⟩ := peel H
  refine Opl.idx (M := (cInt .i64)) (xs := l0) (j := x8_1) (0 : Int) (by exact hv0) rfl (by omega) (by omega) K22 Z3 rfl rfl ?_
  rintro p1 q1 h1
  obtain rfl : p1 = [.lit (.int .i64 (rd l0 x8_1))] := h1
  refine Opl.lda (.lit (.int .i64 (rd l0 x8_1))) rfl T3 rfl rfl rfl rfl (Opl.p1 (n := Opl.nil (Evr.sr rfl (Opl.p1 (n := Opl.p1 (n := Opl.p1 (n := Opl.nil ?_)))))))
  by_cases c4 : (rd l0 x8_1) = 0
  case neg =>
   rw [if_neg c4] at H
   have e3 : ((rd l0 x8_1) != 0) = true := by simpa using c4
   try rw [e3]
   refine Evr.condT rfl (Evr.sr rfl (Opl.p1 (n := Opl.p1 (n := Opl.nil ?_))))
   obtain rfl := Option.some.inj H
   refine Evr.ret1 Try.func75 rfl ?_
   show (.lit (.int .i64 (rd l0 x8_1)) : PV) = _
   first | rfl | (simp only [go_sem]; rfl)
  rw [if_pos c4] at H
  have e2 : ((rd l0 x8_1) != 0) = false := by simpa using c4
  try rw [e2]
  refine Evr.condF rfl (Evr.skip (Evr.inBlock (Evr.regionN rfl (Opl.add (k := .i64) (a := x8_1) (b := 1) K3 rfl rfl rfl rfl (Opl.one (v := .lit (.int .i64 (wrap64 (x8_1 + 1)))) rfl rfl rfl (Opl.nil ?_))))))
  exact ih1 _ (by omega) _ _ ⟨by omega, _, H, ⟨rfl, rfl, rfl, rfl, trivial⟩⟩
theorem impl_clauseOf_1.ev {k : Nat} {a0 : Int} {a1 : Int} {r : Int} (H : impl_clauseOf_1.f k a0 a1 = some r) : Ret Try.prog 74 [.lit (.int .i64 a0), .lit (.int .i64 a1)] fun v S => v = .lit (.int .i64 r) := by
 unfold impl_clauseOf_1.f at H
 refine Ret.intro Try.func74 rfl (Nat.le_of_ble_eq_true rfl) rfl ?_
 rw [tm2]
 refine Evr.sr rfl (Opl.p1 (n := Opl.nil (Evr.sr rfl (Opl.p1 (n := ?_)))))
 obtain ⟨r1, h_r1, H⟩ := Option.bind_eq_some_iff.1 H
 refine Opl.callc (impl_atomOf.ev h_r1) rfl rfl rfl rfl ⟨(.lit _), trivial⟩ (by decide) (Opl.p1 (n := ?_))
 obtain ⟨r2, h_r2, H⟩ := Option.bind_eq_some_iff.1 H
 refine Opl.callc (impl_atomOf.ev h_r2) rfl rfl rfl rfl ⟨(.lit _), trivial⟩ (by decide) ?_
 obtain ⟨r3, h_r3, H⟩ := Option.bind_eq_some_iff.1 H
 refine Opl.callc (cmp_Compare_int.ev h_r3) rfl rfl rfl rfl ⟨(.lit _), (.lit _), trivial⟩ (by decide) (Opl.p1 (n := Opl.p1 (n := ?_)))
 obtain ⟨r4, h_r4, H⟩ := Option.bind_eq_some_iff.1 H
 refine Opl.callc (cmp_Compare_int.ev h_r4) rfl rfl rfl rfl ⟨(.lit _), (.lit _), trivial⟩ (by decide) (Opl.liti (M := (cInt .i64)) (ys := [r3, r4]) [.tmp 9, .tmp 12] K22 T3 rfl rfl rfl (by exact ⟨rfl, rfl, trivial⟩) rfl (by decide) rfl rfl ?_)
 rintro pv2 h1
 obtain ⟨r5, h_r5, H⟩ := Option.bind_eq_some_iff.1 H
 refine Opl.callc (cmp_Or_int.ev h1 h_r5) rfl rfl rfl rfl ⟨h1.plain, trivial⟩ (by decide) (Opl.p1 (n := Opl.nil ?_))
 obtain rfl := Option.some.inj H
 refine Evr.ret1 Try.func74 rfl ?_
 show (.lit (.int .i64 r5) : PV) = _
 first | rfl | (simp only [go_sem]; rfl)
def sortLit_ren : Go.Shelf.Ren := ⟨fun | 6 => 73 | 15 => 93 | 14 => 92 | 28 => 107 | 29 => 108 | 20 => 99 | 21 => 100 | 22 => 101 | 23 => 102 | 24 => 103 | 25 => 104 | 26 => 105 | 27 => 106 | 46 => 109 | 47 => 110 | 48 => 111 | 49 => 112 | 50 => 113 | 57 => 114 | n => n, fun | 22 => 22 | 24 => 3 | 25 => 87 | 3 => 3 | 39 => 99 | 0 => 0 | 53 => 113 | 55 => 115 | 4 => 4 | 46 => 106 | 45 => 105 | 50 => 110 | 5 => 5 | 9 => 9 | 66 => 116 | 70 => 120 | 76 => 122 | 77 => 123 | n => n, fun | n => n⟩
theorem sortLit : Go.Proofs.SlLaysF.n6 Try.prog sortLit_ren := {
  mixed := by kernel_rfl
  f6 := ⟨Try.f73.name, by decide, Try.func73.trans (congrArg some (by kernel_rfl))⟩
  f14 := ⟨Try.f92.name, by decide, Try.func92.trans (congrArg some (by kernel_rfl))⟩
  f15 := Try.func93.trans (congrArg some (by kernel_rfl))
  f20 := ⟨Try.f99.name, by decide, Try.func99.trans (congrArg some (by kernel_rfl))⟩
  f21 := ⟨Try.f100.name, by decide, Try.func100.trans (congrArg some (by kernel_rfl))⟩
  f22 := ⟨Try.f101.name, by decide, Try.func101.trans (congrArg some (by kernel_rfl))⟩
  f23 := ⟨Try.f102.name, by decide, Try.func102.trans (congrArg some (by kernel_rfl))⟩
  f24 := ⟨Try.f103.name, by decide, Try.func103.trans (congrArg some (by kernel_rfl))⟩
  f25 := ⟨Try.f104.name, by decide, Try.func104.trans (congrArg some (by kernel_rfl))⟩
  f26 := ⟨Try.f105.name, by decide, Try.func105.trans (congrArg some (by kernel_rfl))⟩
  f27 := ⟨Try.f106.name, by decide, Try.func106.trans (congrArg some (by kernel_rfl))⟩
  f28 := Try.func107.trans (congrArg some (by kernel_rfl))
  f29 := Try.func108.trans (congrArg some (by kernel_rfl))
  f46 := ⟨Try.f109.name, by decide, Try.func109.trans (congrArg some (by kernel_rfl))⟩
  f47 := Try.func110.trans (congrArg some (by kernel_rfl))
  f48 := Try.func111.trans (congrArg some (by kernel_rfl))
  f49 := ⟨Try.f112.name, by decide, Try.func112.trans (congrArg some (by kernel_rfl))⟩
  f50 := ⟨Try.f113.name, by decide, Try.func113.trans (congrArg some (by kernel_rfl))⟩
  f57 := ⟨Try.f114.name, by decide, Try.func114.trans (congrArg some (by kernel_rfl))⟩
  t0 := Try.underlying0
  a0 := Try.isAgg0
  z0 := Try.sizeOf0
  v0 := Try.zeroValue0
  t3 := Try.underlying3
  a3 := Try.isAgg3
  z3 := Try.sizeOf3
  v3 := Try.zeroValue3
  t4 := Try.underlying4
  a4 := Try.isAgg4
  z4 := Try.sizeOf4
  v4 := Try.zeroValue4
  t5 := Try.underlying5
  a5 := Try.isAgg5
  z5 := Try.sizeOf5
  v5 := Try.zeroValue5
  t9 := Try.underlying9
  a9 := Try.isAgg9
  z9 := Try.sizeOf9
  v9 := Try.zeroValue9
  t22 := Try.underlying22
  a22 := Try.isAgg22
  z22 := Try.sizeOf22
  v22 := Try.zeroValue22
  a24 := Try.isAgg3
  z24 := Try.sizeOf3
  t25 := Try.underlying87
  a25 := Try.isAgg87
  z25 := Try.sizeOf87
  v25 := Try.zeroValue87
  t39 := Try.underlying99
  a39 := Try.isAgg99
  z39 := Try.sizeOf99
  v39 := Try.zeroValue99
  t45 := Try.underlying105
  a45 := Try.isAgg105
  z45 := Try.sizeOf105
  v45 := Try.zeroValue105
  t46 := Try.underlying106
  a46 := Try.isAgg106
  z46 := Try.sizeOf106
  v46 := Try.zeroValue106
  t50 := Try.underlying110
  a50 := Try.isAgg110
  z50 := Try.sizeOf110
  v50 := Try.zeroValue110
  t53 := Try.underlying113
  a53 := Try.isAgg113
  z53 := Try.sizeOf113
  v53 := Try.zeroValue113
  t55 := Try.underlying115
  a55 := Try.isAgg115
  z55 := Try.sizeOf115
  v55 := Try.zeroValue115
  t66 := Try.underlying116
  a66 := Try.isAgg116
  z66 := Try.sizeOf116
  v66 := Try.zeroValue116
  t70 := Try.underlying120
  a70 := Try.isAgg120
  z70 := Try.sizeOf120
  v70 := Try.zeroValue120
  t76 := Try.underlying122
  a76 := Try.isAgg122
  z76 := Try.sizeOf122
  v76 := Try.zeroValue122
  t77 := Try.underlying123
  a77 := Try.isAgg123
  z77 := Try.sizeOf123
  v77 := Try.zeroValue123 }
theorem litCf_run (x y : Int) : impl_clauseOf_1.f 5 x y = some (litCf x y) := by
 have hc : ∀ a b : Int, cmp_Compare_int.f 5 a b = some (litCmp a b) := by
  intro a b
  unfold cmp_Compare_int.f cmp_isNaN_int.f litCmp
  have h : ∀ z : Int, (z != z) = false := by simp
  rw [h, h]
  by_cases c : a < b
  · simp [c]
  · by_cases d : a > b
    · simp [c, d]
    · simp [c, d]
 have ho : ∀ a b : Int, cmp_Or_int.f 5 [a, b] = some (if a = 0 then b else a) := by
  intro a b
  have r0 : rd [a, b] 0 = a := rfl
  have r1 : rd [a, b] 1 = b := rfl
  have w1 : wrap64 ((0 : Int) + 1) = 1 := by unfold wrap64; omega
  have w2 : wrap64 ((1 : Int) + 1) = 2 := by unfold wrap64; omega
  show cmp_Or_int.l0 5 0 [a, b] 2 0 = _
  rw [cmp_Or_int.l0, r0, w1, if_pos (by omega), if_pos (by omega), if_pos (by simp)]
  by_cases c : a = 0
  · rw [if_pos c, if_pos c, cmp_Or_int.l0, r1, w2, if_pos (by omega), if_pos (by omega), if_pos (by simp)]
    by_cases d : b = 0
    · rw [if_pos d, cmp_Or_int.l0, if_neg (by omega), d]
    · rw [if_neg d]
  · rw [if_neg c, if_neg c]
 unfold impl_clauseOf_1.f impl_atomOf.f
 simp only [Option.bind_some]
 rw [hc, hc]
 simp only [Option.bind_some]
 rw [ho]
 rfl
theorem slices_SortFunc_int_int_at_impl_clauseOf_1.evb {k : Nat} {S0 : Sto} {l0 : List Int} {v0 : PV} (hv0 : Vec (cInt .i64) l0 v0 S0) {r : (List Int)} (H : slices_SortFunc_int_int_at_impl_clauseOf_1.f k l0 = some r) : RetS Try.prog 73 [v0, .lit (.func (.func 74) #[] #[])] S0 fun v S => Vec (cInt .i64) r v0 S ∧ Same S0 S (PV.id? v0).toList := by
 unfold slices_SortFunc_int_int_at_impl_clauseOf_1.f at H
 obtain ⟨c1, H⟩ := peel H
 obtain rfl := Option.some.inj H
 exact RetS.mono (RetS.sort sortLit ⟨_, _, Try.func73, rfl, rfl⟩ (Go.Proofs.enters_of Try.func74 rfl rfl) litCf (lex_swo litKey) (lex_tot litKey) (fun x y => impl_clauseOf_1.ev (litCf_run x y)) hv0 c1) fun _ _ h => h
theorem impl_clauseOf.ev {k : Nat} {l0 : List Int} {v0 : PV} (hv0 : Sl (cInt .i64) l0 v0) {r : (List Int) × Bool} (H : impl_clauseOf.f k l0 = some r) : Ret Try.prog 37 [v0] fun v S => Out (fun q => ∃ q1 q2, q = .tup [q1, q2] ∧ Sl (cInt .i64) r.1 q1 ∧ q2 = .lit (.bool r.2)) v S := by
 unfold impl_clauseOf.f at H
 refine Ret.intro Try.func37 rfl (Nat.le_of_ble_eq_true rfl) rfl ?_
 rw [tm1]
 refine Evr.sr rfl (Opl.p1 (n := Opl.p1 (n := Opl.nil (Evr.sr rfl (Opl.p1 (n := ?_))))))
 obtain ⟨r1, h_r1, H⟩ := Option.bind_eq_some_iff.1 H
 refine Opl.calla (slices_Clone_int_int.ev hv0 h_r1) rfl rfl rfl rfl ⟨hv0.plain, trivial⟩ rfl ?_
 rintro pv1 S h1 u1 w1
 refine Opl.p1 (n := Opl.nil (Evr.sr rfl (Opl.p1 (n := ?_))))
 obtain ⟨r2, h_r2, H⟩ := Option.bind_eq_some_iff.1 H
 refine Opl.calls (slices_SortFunc_int_int_at_impl_clauseOf_1.evb h1 h_r2) rfl rfl rfl rfl rfl ?_
 rintro _ S ⟨h2, u2⟩
 refine Opl.nil (Evr.sr rfl (Opl.p1 (n := ?_)))
 obtain ⟨r3, h_r3, H⟩ := Option.bind_eq_some_iff.1 H
 refine Opl.calls (slices_Compact_int_int.evb h2 h_r3) rfl rfl rfl rfl rfl ?_
 rintro pv2 S ⟨h3, b1, u3⟩
 refine Opl.p1 (n := Opl.nil (Evr.seq (Evr.sr rfl (Opl.p1 (n := Opl.nil (Evr.block ?_))))))
 refine Evr.loop (Evr.rounds (n := k) (Inv := fun n tm S => n ≤ k ∧ ∃ (x5_1 : Int) (pv3 : PV), impl_clauseOf.l1 n x5_1 r3 = some r ∧ Has tm [(4, pv3), (5, .lit (.int .i64 x5_1))] ∧ Vec (cInt .i64) r3 pv3 S) ?_ ?_ ?_)
 · exact ⟨Nat.le_refl _, _, _, H, ⟨rfl, rfl, trivial⟩, h3⟩
 ·
  rintro tm S ⟨_, _, _, H, -⟩
  simp [impl_clauseOf.l1] at H
 ·
  rintro n1 ih1 tm S ⟨hle, x5_1, pv3, H, hh, h4⟩
  simp only [impl_clauseOf.l1] at H
  rw [hh.eq]
  refine Evr.seq (Evr.sr rfl (Opl.p1 (n := Opl.p1 (n := Opl.lenv (xs := r3) (by exact h4) K22 rfl rfl rfl rfl (Opl.p1 (n := Opl.nil ?_))))))
  by_cases c1 : x5_1 < (r3.length : Int)
  case neg =>
   rw [if_neg c1] at H
   have e4 : (decide (x5_1 < (r3.length : Int))) = false := by simpa using c1
   try rw [e4]
   refine Evr.condF rfl (Evr.exit rfl (Evr.sr rfl (Opl.p1 (n := ?_))))
   obtain ⟨r4, h_r4, H⟩ := Option.bind_eq_some_iff.1 H
   obtain ⟨pv4, h11, -, h12⟩ := Out.vec h4
   refine Opl.callv (sInt .i64) (impl_clone_int.ev h12 h_r4) rfl rfl rfl (.cons h11 .nil) ⟨h12.plain, trivial⟩ (by decide) ?_
   rintro pv5 h13
   refine Opl.p1 (n := Opl.p1 (n := Opl.nil ?_))
   obtain rfl := Option.some.inj H
   refine Evr.ret2 Try.func37 rfl ?_
   show Out _ (.tup [pv5, .lit (.bool true)]) _
   exact .tup2 (.sl h13) .lit
  rw [if_pos c1] at H
  have e1 : (decide (x5_1 < (r3.length : Int))) = true := by simpa using c1
  try rw [e1]
  refine Evr.condT rfl (Evr.skip (Evr.seq (Evr.block (Evr.seq (Evr.regionD rfl (by kernel_rfl) (Opl.p1 (n := Opl.p1 (n := ?_))))))))
  obtain ⟨c2, H⟩ := peel H
  obtain ⟨c3, H⟩ := peel H
  obtain ⟨c4, H⟩ := peel H
  obtain ⟨c5, H⟩ := peel H
  refine Opl.idv (M := (cInt .i64)) (xs := r3) (j := x5_1) (v := pv3) h4 rfl rfl (by omega) (by omega) K22 Z3 rfl rfl ?_
  rintro d1 z1 q1 h5 h6
  refine Opl.ldv (M := (cInt .i64)) (xs := r3) (j := x5_1) (0 : Int) h5 h6 (by omega) (by omega) rfl T3 rfl rfl rfl ?_
  rintro p1 q2 h7
  obtain rfl : p1 = [.lit (.int .i64 (rd r3 x5_1))] := h7
  refine ⟨.lit (.int .i64 (rd r3 x5_1)), rfl, ?_⟩
  refine Opl.p1 (n := Opl.p1 (n := Opl.subi (k := .i64) (a := x5_1) (b := 1) K3 rfl rfl rfl rfl (Opl.idv (M := (cInt .i64)) (xs := r3) (j := (wrap64 (x5_1 - 1))) (v := pv3) h4 rfl rfl (by omega) (by omega) K22 Z3 rfl rfl ?_)))
  rintro d2 z2 q3 h8 h9
  refine Opl.ldv (M := (cInt .i64)) (xs := r3) (j := (wrap64 (x5_1 - 1))) (0 : Int) h8 h9 (by omega) (by omega) rfl T3 rfl rfl rfl ?_
  rintro p2 q4 h10
  obtain rfl : p2 = [.lit (.int .i64 (rd r3 (wrap64 (x5_1 - 1))))] := h10
  refine ⟨.lit (.int .i64 (rd r3 (wrap64 (x5_1 - 1)))), rfl, ?_⟩
  refine Opl.one (v := .lit (.int .i64 (wrap64 (-(rd r3 (wrap64 (x5_1 - 1))))))) rfl rfl (by simp only [go_sem, Int.zero_sub, w64]; rfl) (Opl.eql (a := (rd r3 x5_1)) (b := (wrap64 (-(rd r3 (wrap64 (x5_1 - 1)))))) K3 rfl rfl rfl rfl (Opl.nil ?_))
  by_cases c6 : (rd r3 x5_1) = (wrap64 (-(rd r3 (wrap64 (x5_1 - 1)))))
  case pos =>
   rw [if_pos c6] at H
   have e2 : ((rd r3 x5_1) == (wrap64 (-(rd r3 (wrap64 (x5_1 - 1)))))) = true := by simpa using c6
   try rw [e2]
   refine Evr.condT rfl (Evr.sr rfl (Opl.one (v := .lit (.slice none 0 0)) rfl rfl rfl (Opl.one (v := .lit (.bool false)) rfl rfl rfl (Opl.nil ?_))))
   obtain rfl := Option.some.inj H
   refine Evr.ret2 Try.func37 rfl ?_
   show Out _ (.tup [.lit (.slice none 0 0), .lit (.bool false)]) _
   exact .tup2 (.sl .nil) .lit
  rw [if_neg c6] at H
  have e3 : ((rd r3 x5_1) == (wrap64 (-(rd r3 (wrap64 (x5_1 - 1)))))) = false := by simpa using c6
  try rw [e3]
  refine Evr.condF rfl (Evr.skip (Evr.inBlock (Evr.regionN rfl (Opl.one (v := .lit (.int .i64 x5_1)) rfl rfl rfl (Opl.add (k := .i64) (a := x5_1) (b := 1) K3 rfl rfl rfl rfl (Opl.one (v := .lit (.int .i64 (wrap64 (x5_1 + 1)))) rfl rfl rfl (Opl.nil ?_)))))))
  exact ih1 _ (by omega) _ _ ⟨by omega, _, _, H, ⟨rfl, rfl, trivial⟩, h4⟩
theorem impl_clauseOf.evo {k : Nat} {l0 : List Int} {v0 : PV} (hv0 : Sl (cInt .i64) l0 v0) {r : (List Int) × Bool} (H : impl_clauseOf.f k l0 = some r) : Ret Try.prog 37 [v0] fun v S => Own1 (oPr (oRow (oPl (cInt .i64) (oInt .i64))) (oPl cBool oBool)) r .tup v S := by
 unfold impl_clauseOf.f at H
 refine Ret.intro Try.func37 rfl (Nat.le_of_ble_eq_true rfl) rfl ?_
 rw [tm1]
 refine Evr.sr rfl (Opl.p1 (n := Opl.p1 (n := Opl.nil (Evr.sr rfl (Opl.p1 (n := ?_))))))
 obtain ⟨r1, h_r1, H⟩ := Option.bind_eq_some_iff.1 H
 refine Opl.calla (slices_Clone_int_int.ev hv0 h_r1) rfl rfl rfl rfl ⟨hv0.plain, trivial⟩ rfl ?_
 rintro pv1 S h1 u1 w1
 refine Opl.p1 (n := Opl.nil (Evr.sr rfl (Opl.p1 (n := ?_))))
 obtain ⟨r2, h_r2, H⟩ := Option.bind_eq_some_iff.1 H
 refine Opl.calls (slices_SortFunc_int_int_at_impl_clauseOf_1.evb h1 h_r2) rfl rfl rfl rfl rfl ?_
 rintro _ S ⟨h2, u2⟩
 refine Opl.nil (Evr.sr rfl (Opl.p1 (n := ?_)))
 obtain ⟨r3, h_r3, H⟩ := Option.bind_eq_some_iff.1 H
 refine Opl.calls (slices_Compact_int_int.evb h2 h_r3) rfl rfl rfl rfl rfl ?_
 rintro pv2 S ⟨h3, b1, u3⟩
 refine Opl.p1 (n := Opl.nil (Evr.seq (Evr.sr rfl (Opl.p1 (n := Opl.nil (Evr.block ?_))))))
 refine Evr.loop (Evr.rounds (n := k) (Inv := fun n tm S => n ≤ k ∧ ∃ (x5_1 : Int) (pv3 : PV), impl_clauseOf.l1 n x5_1 r3 = some r ∧ Has tm [(4, pv3), (5, .lit (.int .i64 x5_1))] ∧ Vec (cInt .i64) r3 pv3 S) ?_ ?_ ?_)
 · exact ⟨Nat.le_refl _, _, _, H, ⟨rfl, rfl, trivial⟩, h3⟩
 ·
  rintro tm S ⟨_, _, _, H, -⟩
  simp [impl_clauseOf.l1] at H
 ·
  rintro n1 ih1 tm S ⟨hle, x5_1, pv3, H, hh, h4⟩
  simp only [impl_clauseOf.l1] at H
  rw [hh.eq]
  refine Evr.seq (Evr.sr rfl (Opl.p1 (n := Opl.p1 (n := Opl.lenv (xs := r3) (by exact h4) K22 rfl rfl rfl rfl (Opl.p1 (n := Opl.nil ?_))))))
  by_cases c1 : x5_1 < (r3.length : Int)
  case neg =>
   rw [if_neg c1] at H
   have e4 : (decide (x5_1 < (r3.length : Int))) = false := by simpa using c1
   try rw [e4]
   refine Evr.condF rfl (Evr.exit rfl (Evr.sr rfl (Opl.p1 (n := ?_))))
   obtain ⟨r4, h_r4, H⟩ := Option.bind_eq_some_iff.1 H
   obtain ⟨pv4, h11, -, h12⟩ := Out.vec h4
   refine Opl.callav (sInt .i64) (impl_clone_int.ev h12 h_r4) rfl rfl rfl (.cons h11 .nil) ⟨h12.plain, trivial⟩ rfl ?_
   rintro pv5 S h13 u4 w2
   have ap1 := w2.vec h4
   have h14 := u4.vec h4 ap1
   refine Opl.p1 (n := Opl.p1 (n := Opl.nil ?_))
   obtain rfl := Option.some.inj H
   refine Evr.ret2 Try.func37 rfl ?_
   show Own1 _ _ _ (.tup [pv5, .lit (.bool true)]) _
   exact ⟨[pv5, .lit (.bool true)], _, rfl, [pv5], [.lit (.bool true)], _, [], rfl, rfl, (fun _ _ h => by cases h), h13.tree (oInt .i64), rfl, rfl⟩
  rw [if_pos c1] at H
  have e1 : (decide (x5_1 < (r3.length : Int))) = true := by simpa using c1
  try rw [e1]
  refine Evr.condT rfl (Evr.skip (Evr.seq (Evr.block (Evr.seq (Evr.regionD rfl (by kernel_rfl) (Opl.p1 (n := Opl.p1 (n := ?_))))))))
  obtain ⟨c2, H⟩ := peel H
  obtain ⟨c3, H⟩ := peel H
  obtain ⟨c4, H⟩ := peel H
  obtain ⟨c5, H⟩ := peel H
  refine Opl.idv (M := (cInt .i64)) (xs := r3) (j := x5_1) (v := pv3) h4 rfl rfl (by omega) (by omega) K22 Z3 rfl rfl ?_
  rintro d1 z1 q1 h5 h6
  refine Opl.ldv (M := (cInt .i64)) (xs := r3) (j := x5_1) (0 : Int) h5 h6 (by omega) (by omega) rfl T3 rfl rfl rfl ?_
  rintro p1 q2 h7
  obtain rfl : p1 = [.lit (.int .i64 (rd r3 x5_1))] := h7
  refine ⟨.lit (.int .i64 (rd r3 x5_1)), rfl, ?_⟩
  refine Opl.p1 (n := Opl.p1 (n := Opl.subi (k := .i64) (a := x5_1) (b := 1) K3 rfl rfl rfl rfl (Opl.idv (M := (cInt .i64)) (xs := r3) (j := (wrap64 (x5_1 - 1))) (v := pv3) h4 rfl rfl (by omega) (by omega) K22 Z3 rfl rfl ?_)))
  rintro d2 z2 q3 h8 h9
  refine Opl.ldv (M := (cInt .i64)) (xs := r3) (j := (wrap64 (x5_1 - 1))) (0 : Int) h8 h9 (by omega) (by omega) rfl T3 rfl rfl rfl ?_
  rintro p2 q4 h10
  obtain rfl : p2 = [.lit (.int .i64 (rd r3 (wrap64 (x5_1 - 1))))] := h10
  refine ⟨.lit (.int .i64 (rd r3 (wrap64 (x5_1 - 1)))), rfl, ?_⟩
  refine Opl.one (v := .lit (.int .i64 (wrap64 (-(rd r3 (wrap64 (x5_1 - 1))))))) rfl rfl (by simp only [go_sem, Int.zero_sub, w64]; rfl) (Opl.eql (a := (rd r3 x5_1)) (b := (wrap64 (-(rd r3 (wrap64 (x5_1 - 1)))))) K3 rfl rfl rfl rfl (Opl.nil ?_))
  by_cases c6 : (rd r3 x5_1) = (wrap64 (-(rd r3 (wrap64 (x5_1 - 1)))))
  case neg =>
   rw [if_neg c6] at H
   have e3 : ((rd r3 x5_1) == (wrap64 (-(rd r3 (wrap64 (x5_1 - 1)))))) = false := by simpa using c6
   try rw [e3]
   refine Evr.condF rfl (Evr.skip (Evr.inBlock (Evr.regionN rfl (Opl.one (v := .lit (.int .i64 x5_1)) rfl rfl rfl (Opl.add (k := .i64) (a := x5_1) (b := 1) K3 rfl rfl rfl rfl (Opl.one (v := .lit (.int .i64 (wrap64 (x5_1 + 1)))) rfl rfl rfl (Opl.nil ?_)))))))
   exact ih1 _ (by omega) _ _ ⟨by omega, _, _, H, ⟨rfl, rfl, trivial⟩, h4⟩
  rw [if_pos c6] at H
  have e2 : ((rd r3 x5_1) == (wrap64 (-(rd r3 (wrap64 (x5_1 - 1)))))) = true := by simpa using c6
  try rw [e2]
  refine Evr.condT rfl (Evr.sr rfl (Opl.one (v := .lit (.slice none 0 0)) rfl rfl rfl (Opl.one (v := .lit (.bool false)) rfl rfl rfl (Opl.nil ?_))))
  obtain rfl := Option.some.inj H
  refine Evr.ret2 Try.func37 rfl ?_
  show Own1 _ _ _ (.tup [.lit (.slice none 0 0), .lit (.bool false)]) _
  exact ⟨[.lit (.slice none 0 0), .lit (.bool false)], _, rfl, [.lit (.slice none 0 0)], [.lit (.bool false)], _, [], rfl, rfl, (fun _ _ h => by cases h), .inl ⟨rfl, rfl, rfl⟩, rfl, rfl⟩
theorem slices_Index_int_int.ev {k : Nat} {l0 : List Int} {v0 : PV} (hv0 : Sl (cInt .i64) l0 v0) {a1 : Int} {r : Int} (H : slices_Index_int_int.f k l0 a1 = some r) : Ret Try.prog 80 [v0, .lit (.int .i64 a1)] fun v S => v = .lit (.int .i64 r) := by
 unfold slices_Index_int_int.f at H
 refine Ret.intro Try.func80 rfl (Nat.le_of_ble_eq_true rfl) rfl ?_
 rw [tm2]
 refine Evr.sr rfl (Opl.p1 (n := Opl.nil (Evr.seq (Evr.sr rfl (Opl.p1 (n := Opl.len (xs := l0) (by exact hv0) K22 rfl rfl rfl rfl (Opl.p1 (n := Opl.nil (Evr.block ?_)))))))))
 refine Evr.loop (Evr.rounds (n := k) (Inv := fun n tm S => n ≤ k ∧ ∃ (x8_1 : Int), slices_Index_int_int.l0 n l0 a1 (l0.length : Int) x8_1 = some r ∧ Has tm [(0, v0), (1, .lit (.int .i64 a1)), (7, .lit (.int .i64 (l0.length : Int))), (8, .lit (.int .i64 x8_1))]) ?_ ?_ ?_)
 · exact ⟨Nat.le_refl _, _, H, ⟨rfl, rfl, rfl, rfl, trivial⟩⟩
 ·
  rintro tm S ⟨_, _, H, -⟩
  simp [slices_Index_int_int.l0] at H
 ·
  rintro n1 ih1 tm S ⟨hle, x8_1, H, hh⟩
  simp only [slices_Index_int_int.l0] at H
  rw [hh.eq]
  refine Evr.sr rfl (Opl.p1 (n := Opl.nil (Evr.seq ?_)))
  by_cases c1 : x8_1 < (l0.length : Int)
  case neg =>
   rw [if_neg c1] at H
   have e4 : (decide (x8_1 < (l0.length : Int))) = false := by simpa using c1
   try rw [e4]
   refine Evr.condF rfl (Evr.exit rfl (Evr.sr rfl (Opl.p1 (n := Opl.nil ?_))))
   obtain rfl := Option.some.inj H
   refine Evr.ret1 Try.func80 rfl ?_
   show (.lit (.int .i64 (-1)) : PV) = _
   first | rfl | (simp only [go_sem]; rfl)
  rw [if_pos c1] at H
  have e1 : (decide (x8_1 < (l0.length : Int))) = true := by simpa using c1
  try rw [e1]
  refine Evr.condT rfl (Evr.skip (Evr.seq (Evr.block (Evr.sr rfl (Opl.p1 (n := Opl.p1 (n := Opl.nil (Evr.sr rfl (Opl.p1 (n := Opl.p1 (n := Opl.p1 (n := ?_))))))))))))
  obtain ⟨c2, H⟩ := peel H
  obtain ⟨c3, H⟩ := peel H
  refine Opl.idx (M := (cInt .i64)) (xs := l0) (j := x8_1) (0 : Int) (by exact hv0) rfl (by omega) (by omega) K22 Z3 rfl rfl ?_
  rintro p1 q1 h1
  obtain rfl : p1 = [.lit (.int .i64 (rd l0 x8_1))] := h1
  refine Opl.lda (.lit (.int .i64 (rd l0 x8_1))) rfl T3 rfl rfl rfl rfl (Opl.p1 (n := Opl.nil ?_))
  by_cases c4 : a1 = (rd l0 x8_1)
  case pos =>
   rw [if_pos c4] at H
   have e2 : (a1 == (rd l0 x8_1)) = true := by simpa using c4
   try rw [e2]
   refine Evr.condT rfl (Evr.sr rfl (Opl.p1 (n := Opl.p1 (n := Opl.nil ?_))))
   obtain rfl := Option.some.inj H
   refine Evr.ret1 Try.func80 rfl ?_
   show (.lit (.int .i64 x8_1) : PV) = _
   first | rfl | (simp only [go_sem]; rfl)
  rw [if_neg c4] at H
  have e3 : (a1 == (rd l0 x8_1)) = false := by simpa using c4
  try rw [e3]
  refine Evr.condF rfl (Evr.skip (Evr.inBlock (Evr.regionN rfl (Opl.add (k := .i64) (a := x8_1) (b := 1) K3 rfl rfl rfl rfl (Opl.one (v := .lit (.int .i64 (wrap64 (x8_1 + 1)))) rfl rfl rfl (Opl.nil ?_))))))
  exact ih1 _ (by omega) _ _ ⟨by omega, _, H, ⟨rfl, rfl, rfl, rfl, trivial⟩⟩
theorem slices_Contains_int_int.ev {k : Nat} {l0 : List Int} {v0 : PV} (hv0 : Sl (cInt .i64) l0 v0) {a1 : Int} {r : Bool} (H : slices_Contains_int_int.f k l0 a1 = some r) : Ret Try.prog 43 [v0, .lit (.int .i64 a1)] fun v S => v = .lit (.bool r) := by
 unfold slices_Contains_int_int.f at H
 refine Ret.intro Try.func43 rfl (Nat.le_of_ble_eq_true rfl) rfl ?_
 rw [tm2]
 refine Evr.sr rfl (Opl.p1 (n := Opl.nil (Evr.sr rfl (Opl.p1 (n := Opl.p1 (n := ?_))))))
 obtain ⟨t319, h_t319, H⟩ := Option.bind_eq_some_iff.1 H
 refine Opl.callc (slices_Index_int_int.ev hv0 h_t319) rfl rfl rfl rfl ⟨hv0.plain, (.lit _), trivial⟩ (by decide) (Opl.p1 (n := Opl.p1 (n := Opl.nil ?_)))
 obtain rfl := Option.some.inj H
 refine Evr.ret1 Try.func43 rfl ?_
 show (.lit (.bool (decide (t319 ≥ 0))) : PV) = _
 first | rfl | (simp only [go_sem]; rfl)
theorem impl_Resolved.ev {k : Nat} {l0 : List Int} {v0 : PV} (hv0 : Sl (cInt .i64) l0 v0) {l1 : List Int} {v1 : PV} (hv1 : Sl (cInt .i64) l1 v1) {a2 : Int} {r : (List Int) × Bool} (H : impl_Resolved.f k l0 l1 a2 = some r) : Ret Try.prog 14 [v0, v1, .lit (.int .i64 a2)] fun v S => Out (fun q => ∃ q1 q2, q = .tup [q1, q2] ∧ Sl (cInt .i64) r.1 q1 ∧ q2 = .lit (.bool r.2)) v S := by
 unfold impl_Resolved.f at H
 refine Ret.intro Try.func14 rfl (Nat.le_of_ble_eq_true rfl) rfl ?_
 rw [tm3]
 refine Evr.sr rfl (Opl.p1 (n := Opl.p1 (n := Opl.nil (Evr.seq (Evr.sr rfl (Opl.p1 (n := ?_)))))))
 obtain ⟨r1, h_r1, H⟩ := Option.bind_eq_some_iff.1 H
 refine Opl.callc (impl_ClauseValid.ev hv0 h_r1) rfl rfl rfl rfl ⟨hv0.plain, (.lit _), trivial⟩ (by decide) (Opl.p1 (n := Opl.p1 (n := ?_)))
 by_cases c1 : r1 = true
 case neg =>
  rw [if_neg c1] at H
  have e18 : (!r1) = true := by simpa using c1
  try rw [e18]
  refine Opl.skp rfl (Opl.skp rfl (Opl.skp rfl (Opl.p1 (n := Opl.p1 (n := Opl.skp rfl (Opl.skp rfl (Opl.p1 (n := Opl.p1 (n := Opl.skp rfl (Opl.skp rfl (Opl.skp rfl (Opl.skp rfl (Opl.p1 (n := Opl.p1 (n := Opl.skp rfl (Opl.skp rfl (Opl.skp rfl (Opl.skp rfl (Opl.skp rfl (Opl.p1 (n := Opl.nil (Evr.condT rfl (Evr.sr rfl (Opl.p1 (n := Opl.p1 (n := Opl.nil ?_))))))))))))))))))))))))))
  obtain rfl := Option.some.inj H
  refine Evr.ret2 Try.func14 rfl ?_
  show Out _ (.tup [.lit (.slice none 0 0), .lit (.bool false)]) _
  exact .tup2 (.sl .nil) .lit
 rw [if_pos c1] at H
 have e1 : (!r1) = false := by simpa using c1
 try rw [e1]
 refine Opl.p1 (n := ?_)
 obtain ⟨r2, h_r2, H⟩ := Option.bind_eq_some_iff.1 H
 refine Opl.callc (impl_ClauseValid.ev hv1 h_r2) rfl rfl rfl rfl ⟨hv1.plain, (.lit _), trivial⟩ (by decide) (Opl.p1 (n := Opl.p1 (n := Opl.p1 (n := ?_))))
 by_cases c2 : r2 = true
 case neg =>
  rw [if_neg c2] at H
  have e17 : (!r2) = true := by simpa using c2
  try rw [e17]
  refine Opl.skp rfl (Opl.skp rfl (Opl.p1 (n := Opl.p1 (n := Opl.skp rfl (Opl.skp rfl (Opl.skp rfl (Opl.skp rfl (Opl.p1 (n := Opl.p1 (n := Opl.skp rfl (Opl.skp rfl (Opl.skp rfl (Opl.skp rfl (Opl.skp rfl (Opl.p1 (n := Opl.nil (Evr.condT rfl (Evr.sr rfl (Opl.p1 (n := Opl.p1 (n := Opl.nil ?_)))))))))))))))))))))
  obtain rfl := Option.some.inj H
  refine Evr.ret2 Try.func14 rfl ?_
  show Out _ (.tup [.lit (.slice none 0 0), .lit (.bool false)]) _
  exact .tup2 (.sl .nil) .lit
 rw [if_pos c2] at H
 have e2 : (!r2) = false := by simpa using c2
 try rw [e2]
 refine Opl.p1 (n := Opl.p1 (n := Opl.p1 (n := Opl.p1 (n := ?_))))
 by_cases c3 : a2 ≤ 0
 case pos =>
  rw [if_pos c3] at H
  have e3 : (decide (a2 ≤ 0)) = true := by simpa using c3
  try rw [e3]
  refine Opl.skp rfl (Opl.skp rfl (Opl.skp rfl (Opl.skp rfl (Opl.p1 (n := Opl.p1 (n := Opl.skp rfl (Opl.skp rfl (Opl.skp rfl (Opl.skp rfl (Opl.skp rfl (Opl.p1 (n := Opl.nil (Evr.condT rfl (Evr.sr rfl (Opl.p1 (n := Opl.p1 (n := Opl.nil ?_)))))))))))))))))
  obtain rfl := Option.some.inj H
  refine Evr.ret2 Try.func14 rfl ?_
  show Out _ (.tup [.lit (.slice none 0 0), .lit (.bool false)]) _
  exact .tup2 (.sl .nil) .lit
 rw [if_neg c3] at H
 have e4 : (decide (a2 ≤ 0)) = false := by simpa using c3
 try rw [e4]
 refine Opl.p1 (n := Opl.p1 (n := ?_))
 obtain ⟨r3, h_r3, H⟩ := Option.bind_eq_some_iff.1 H
 refine Opl.callc (slices_Contains_int_int.ev hv0 h_r3) rfl rfl rfl rfl ⟨hv0.plain, (.lit _), trivial⟩ (by decide) (Opl.p1 (n := Opl.p1 (n := Opl.p1 (n := ?_))))
 by_cases c4 : r3 = true
 case neg =>
  rw [if_neg c4] at H
  have e16 : (!r3) = true := by simpa using c4
  try rw [e16]
  refine Opl.skp rfl (Opl.skp rfl (Opl.skp rfl (Opl.skp rfl (Opl.skp rfl (Opl.p1 (n := Opl.nil (Evr.condT rfl (Evr.sr rfl (Opl.p1 (n := Opl.p1 (n := Opl.nil ?_)))))))))))
  obtain rfl := Option.some.inj H
  refine Evr.ret2 Try.func14 rfl ?_
  show Out _ (.tup [.lit (.slice none 0 0), .lit (.bool false)]) _
  exact .tup2 (.sl .nil) .lit
 rw [if_pos c4] at H
 have e5 : (!r3) = false := by simpa using c4
 try rw [e5]
 refine Opl.p1 (n := Opl.p1 (n := Opl.one (v := .lit (.int .i64 (wrap64 (-a2)))) rfl rfl (by simp only [go_sem, Int.zero_sub, w64]; rfl) ?_))
 obtain ⟨r4, h_r4, H⟩ := Option.bind_eq_some_iff.1 H
 refine Opl.callc (slices_Contains_int_int.ev hv1 h_r4) rfl rfl rfl rfl ⟨hv1.plain, (.lit _), trivial⟩ (by decide) (Opl.p1 (n := Opl.p1 (n := Opl.nil ?_)))
 by_cases c5 : r4 = true
 case neg =>
  rw [if_neg c5] at H
  have e15 : (!r4) = true := by simpa using c5
  try rw [e15]
  refine Evr.condT rfl (Evr.sr rfl (Opl.one (v := .lit (.slice none 0 0)) rfl rfl rfl (Opl.one (v := .lit (.bool false)) rfl rfl rfl (Opl.nil ?_))))
  obtain rfl := Option.some.inj H
  refine Evr.ret2 Try.func14 rfl ?_
  show Out _ (.tup [.lit (.slice none 0 0), .lit (.bool false)]) _
  exact .tup2 (.sl .nil) .lit
 rw [if_pos c5] at H
 have e6 : (!r4) = false := by simpa using c5
 try rw [e6]
 refine Evr.condF rfl (Evr.skip (Evr.sr rfl (Opl.one (v := .lit (.slice none 0 0)) rfl rfl rfl (Opl.nil (Evr.seq (Evr.sr rfl (Opl.one (v := v0) rfl rfl rfl (Opl.len (xs := l0) (by exact hv0) K22 rfl rfl rfl rfl (Opl.one (v := .lit (.int .i64 0)) rfl rfl rfl (Opl.nil (Evr.block ?_)))))))))))
 refine Evr.loop (Evr.rounds (n := k) (Inv := fun n tm S => n ≤ k ∧ ∃ (x8q3_1 : List Int) (x40_1 : Int) (pv1 : PV), impl_Resolved.l1 n x8q3_1 x40_1 l0 l1 a2 = some r ∧ Has tm [(1, v1), (2, .lit (.int .i64 a2)), (8, pv1), (38, v0), (39, .lit (.int .i64 (l0.length : Int))), (40, .lit (.int .i64 x40_1))] ∧ Vec (cInt .i64) x8q3_1 pv1 S) ?_ ?_ ?_)
 · exact ⟨Nat.le_refl _, _, _, _, H, ⟨rfl, rfl, rfl, rfl, rfl, rfl, trivial⟩, .nil⟩
 ·
  rintro tm S ⟨_, _, _, _, H, -⟩
  simp [impl_Resolved.l1] at H
 ·
  rintro n1 ih1 tm S ⟨hle, x8q3_1, x40_1, pv1, H, hh, h1⟩
  simp only [impl_Resolved.l1] at H
  rw [hh.eq]
  refine Evr.sr rfl (Opl.p1 (n := Opl.nil (Evr.seq ?_)))
  by_cases c6 : x40_1 < (l0.length : Int)
  case pos =>
   rw [if_pos c6] at H
   have e7 : (decide (x40_1 < (l0.length : Int))) = true := by simpa using c6
   try rw [e7]
   refine Evr.condT rfl (Evr.skip (Evr.seq (Evr.block (Evr.sr rfl ?_))))
   obtain ⟨c7, H⟩ := peel H
   obtain ⟨c8, H⟩ := peel H
   refine Opl.idx (M := (cInt .i64)) (xs := l0) (j := x40_1) (0 : Int) (by exact hv0) rfl (by omega) (by omega) K22 Z3 rfl rfl ?_
   rintro p1 q1 h2
   obtain rfl : p1 = [.lit (.int .i64 (rd l0 x40_1))] := h2
   refine Opl.lda (.lit (.int .i64 (rd l0 x40_1))) rfl T3 rfl rfl rfl rfl (Opl.p1 (n := Opl.nil (Evr.sr rfl (Opl.p1 (n := Opl.p1 (n := Opl.p1 (n := Opl.nil ?_)))))))
   refine Evr.join (fun tm S => ∃ (kq1 : Nat) (x8q3_2 : List Int) (pv2 : PV), impl_Resolved.l1 kq1 x8q3_2 (wrap64 (x40_1 + 1)) l0 l1 a2 = some r ∧ kq1 ≤ n1 ∧ Has tm [(1, v1), (2, .lit (.int .i64 a2)), (8, pv2), (38, v0), (39, .lit (.int .i64 (l0.length : Int))), (40, .lit (.int .i64 x40_1))] ∧ Vec (cInt .i64) x8q3_2 pv2 S) ?_ fun hk1 => ?_
   ·
    rintro tm S ⟨kq1, x8q3_2, pv2, H, hle, hh, h3⟩
    rw [hh.eq]
    refine Evr.inBlock (Evr.regionN rfl (Opl.add (k := .i64) (a := x40_1) (b := 1) K3 rfl rfl rfl rfl (Opl.one (v := .lit (.int .i64 (wrap64 (x40_1 + 1)))) rfl rfl rfl (Opl.nil ?_))))
    exact ih1 _ (by omega) _ _ ⟨by omega, _, _, _, H, ⟨rfl, rfl, rfl, rfl, rfl, rfl, trivial⟩, h3⟩
   ·
    by_cases c9 : (rd l0 x40_1) ≠ a2
    case neg =>
     rw [if_neg c9] at H
     have e9 : ((rd l0 x40_1) != a2) = false := by simpa using c9
     try rw [e9]
     refine Evr.condF rfl (Evr.skip ?_)
     exact hk1 _ _ ⟨_, _, _, H, by omega, ⟨rfl, rfl, rfl, rfl, rfl, rfl, trivial⟩, h1⟩
    rw [if_pos c9] at H
    have e8 : ((rd l0 x40_1) != a2) = true := by simpa using c9
    try rw [e8]
    refine Evr.condT rfl (Evr.regionN rfl (Opl.p1 (n := Opl.p1 (n := Opl.liti (M := (cInt .i64)) (ys := [(rd l0 x40_1)]) [.tmp 48] K22 T3 rfl rfl rfl (by exact ⟨rfl, trivial⟩) rfl (by decide) rfl rfl ?_))))
    rintro pv4 h4
    obtain ⟨c10, H⟩ := peel H
    refine Opl.app (M := (cInt .i64)) (xs := x8q3_1) (ys := [(rd l0 x40_1)]) (v := pv1) h1 (.sl h4) (oInt .i64) rfl rfl K22 T3 rfl rfl (by (try simp only [List.length_cons, List.length_nil]); omega) (by show (_ + _) * 8 ≤ 140737488355328; (try simp only [List.length_cons, List.length_nil]); omega) rfl rfl rfl rfl rfl ?_
    rintro pv5 S h5 u1 w1
    refine Opl.p1 (n := Opl.nil ?_)
    exact hk1 _ _ ⟨_, _, _, H, by omega, ⟨rfl, rfl, rfl, rfl, rfl, rfl, trivial⟩, h5⟩
  rw [if_neg c6] at H
  have e10 : (decide (x40_1 < (l0.length : Int))) = false := by simpa using c6
  try rw [e10]
  refine Evr.condF rfl (Evr.exit rfl (Evr.seq (Evr.sr rfl (Opl.p1 (n := Opl.len (xs := l1) (by exact hv1) K22 rfl rfl rfl rfl (Opl.p1 (n := Opl.nil (Evr.block ?_))))))))
  refine Evr.loop (Evr.rounds (n := n1) (Inv := fun n tm S => n ≤ n1 ∧ ∃ (x8q5_1 : List Int) (x54q4_1 : Int) (pv6 : PV), impl_Resolved.l2 n x8q5_1 x54q4_1 l1 a2 = some r ∧ Has tm [(2, .lit (.int .i64 a2)), (8, pv6), (52, v1), (53, .lit (.int .i64 (l1.length : Int))), (54, .lit (.int .i64 x54q4_1))] ∧ Vec (cInt .i64) x8q5_1 pv6 S) ?_ ?_ ?_)
  · exact ⟨Nat.le_refl _, _, _, _, H, ⟨rfl, rfl, rfl, rfl, rfl, trivial⟩, h1⟩
  ·
   rintro tm S ⟨_, _, _, _, H, -⟩
   simp [impl_Resolved.l2] at H
  ·
   rintro n2 ih2 tm S ⟨hle, x8q5_1, x54q4_1, pv6, H, hh, h6⟩
   simp only [impl_Resolved.l2] at H
   rw [hh.eq]
   refine Evr.sr rfl (Opl.p1 (n := Opl.nil (Evr.seq ?_)))
   by_cases c11 : x54q4_1 < (l1.length : Int)
   case neg =>
    rw [if_neg c11] at H
    have e14 : (decide (x54q4_1 < (l1.length : Int))) = false := by simpa using c11
    try rw [e14]
    refine Evr.condF rfl (Evr.exit rfl (Evr.seq (Evr.frz 8 h6 rfl ?_)))
    rintro pv11 S h11 u3
    refine Evr.regionN rfl (Opl.p1 (n := ?_))
    obtain ⟨r5, h_r5, H⟩ := Option.bind_eq_some_iff.1 H
    refine Opl.call (impl_clauseOf.ev h11 h_r5) rfl rfl rfl rfl ⟨h11.plain, trivial⟩ (by decide) ?_
    rintro _ ⟨pv13, _, rfl, h13, rfl⟩
    refine Opl.p1 (v := pv13) (n := Opl.p1 (v := .lit (.bool r5.2)) (n := Opl.p1 (n := Opl.p1 (n := Opl.nil ?_))))
    obtain rfl := Option.some.inj H
    refine Evr.ret2 Try.func14 rfl ?_
    show Out _ (.tup [pv13, .lit (.bool r5.2)]) _
    exact .tup2 (.sl h13) .lit
   rw [if_pos c11] at H
   have e11 : (decide (x54q4_1 < (l1.length : Int))) = true := by simpa using c11
   try rw [e11]
   refine Evr.condT rfl (Evr.skip (Evr.seq (Evr.block (Evr.sr rfl ?_))))
   obtain ⟨c12, H⟩ := peel H
   obtain ⟨c13, H⟩ := peel H
   refine Opl.idx (M := (cInt .i64)) (xs := l1) (j := x54q4_1) (0 : Int) (by exact hv1) rfl (by omega) (by omega) K22 Z3 rfl rfl ?_
   rintro p2 q2 h7
   obtain rfl : p2 = [.lit (.int .i64 (rd l1 x54q4_1))] := h7
   refine Opl.lda (.lit (.int .i64 (rd l1 x54q4_1))) rfl T3 rfl rfl rfl rfl (Opl.p1 (n := Opl.nil (Evr.sr rfl (Opl.p1 (n := Opl.p1 (n := Opl.one (v := .lit (.int .i64 (wrap64 (-a2)))) rfl rfl (by simp only [go_sem, Int.zero_sub, w64]; rfl) (Opl.neq (a := (rd l1 x54q4_1)) (b := (wrap64 (-a2))) K3 rfl rfl rfl rfl (Opl.nil ?_))))))))
   refine Evr.join (fun tm S => ∃ (kq2 : Nat) (x8q5_2 : List Int) (pv7 : PV), impl_Resolved.l2 kq2 x8q5_2 (wrap64 (x54q4_1 + 1)) l1 a2 = some r ∧ kq2 ≤ n2 ∧ Has tm [(2, .lit (.int .i64 a2)), (8, pv7), (52, v1), (53, .lit (.int .i64 (l1.length : Int))), (54, .lit (.int .i64 x54q4_1))] ∧ Vec (cInt .i64) x8q5_2 pv7 S) ?_ fun hk2 => ?_
   ·
    rintro tm S ⟨kq2, x8q5_2, pv7, H, hle, hh, h8⟩
    rw [hh.eq]
    refine Evr.inBlock (Evr.regionN rfl (Opl.add (k := .i64) (a := x54q4_1) (b := 1) K3 rfl rfl rfl rfl (Opl.one (v := .lit (.int .i64 (wrap64 (x54q4_1 + 1)))) rfl rfl rfl (Opl.nil ?_))))
    exact ih2 _ (by omega) _ _ ⟨by omega, _, _, _, H, ⟨rfl, rfl, rfl, rfl, rfl, trivial⟩, h8⟩
   ·
    by_cases c14 : (rd l1 x54q4_1) ≠ (wrap64 (-a2))
    case neg =>
     rw [if_neg c14] at H
     have e13 : ((rd l1 x54q4_1) != (wrap64 (-a2))) = false := by simpa using c14
     try rw [e13]
     refine Evr.condF rfl (Evr.skip ?_)
     exact hk2 _ _ ⟨_, _, _, H, by omega, ⟨rfl, rfl, rfl, rfl, rfl, trivial⟩, h6⟩
    rw [if_pos c14] at H
    have e12 : ((rd l1 x54q4_1) != (wrap64 (-a2))) = true := by simpa using c14
    try rw [e12]
    refine Evr.condT rfl (Evr.regionN rfl (Opl.one (v := pv6) rfl rfl rfl (Opl.one (v := .lit (.int .i64 (rd l1 x54q4_1))) rfl rfl rfl (Opl.liti (M := (cInt .i64)) (ys := [(rd l1 x54q4_1)]) [.tmp 63] K22 T3 rfl rfl rfl (by exact ⟨rfl, trivial⟩) rfl (by decide) rfl rfl ?_))))
    rintro pv9 h9
    obtain ⟨c15, H⟩ := peel H
    refine Opl.app (M := (cInt .i64)) (xs := x8q5_1) (ys := [(rd l1 x54q4_1)]) (v := pv6) h6 (.sl h9) (oInt .i64) rfl rfl K22 T3 rfl rfl (by (try simp only [List.length_cons, List.length_nil]); omega) (by show (_ + _) * 8 ≤ 140737488355328; (try simp only [List.length_cons, List.length_nil]); omega) rfl rfl rfl rfl rfl ?_
    rintro pv10 S h10 u2 w2
    refine Opl.one (v := pv10) rfl rfl rfl (Opl.nil ?_)
    exact hk2 _ _ ⟨_, _, _, H, by omega, ⟨rfl, rfl, rfl, rfl, rfl, trivial⟩, h10⟩
theorem impl_Resolved.evo {k : Nat} {l0 : List Int} {v0 : PV} (hv0 : Sl (cInt .i64) l0 v0) {l1 : List Int} {v1 : PV} (hv1 : Sl (cInt .i64) l1 v1) {a2 : Int} {r : (List Int) × Bool} (H : impl_Resolved.f k l0 l1 a2 = some r) : Ret Try.prog 14 [v0, v1, .lit (.int .i64 a2)] fun v S => Own1 (oPr (oRow (oPl (cInt .i64) (oInt .i64))) (oPl cBool oBool)) r .tup v S := by
 unfold impl_Resolved.f at H
 refine Ret.intro Try.func14 rfl (Nat.le_of_ble_eq_true rfl) rfl ?_
 rw [tm3]
 refine Evr.sr rfl (Opl.p1 (n := Opl.p1 (n := Opl.nil (Evr.seq (Evr.sr rfl (Opl.p1 (n := ?_)))))))
 obtain ⟨r1, h_r1, H⟩ := Option.bind_eq_some_iff.1 H
 refine Opl.callc (impl_ClauseValid.ev hv0 h_r1) rfl rfl rfl rfl ⟨hv0.plain, (.lit _), trivial⟩ (by decide) (Opl.p1 (n := Opl.p1 (n := ?_)))
 by_cases c1 : r1 = true
 case neg =>
  rw [if_neg c1] at H
  have e18 : (!r1) = true := by simpa using c1
  try rw [e18]
  refine Opl.skp rfl (Opl.skp rfl (Opl.skp rfl (Opl.p1 (n := Opl.p1 (n := Opl.skp rfl (Opl.skp rfl (Opl.p1 (n := Opl.p1 (n := Opl.skp rfl (Opl.skp rfl (Opl.skp rfl (Opl.skp rfl (Opl.p1 (n := Opl.p1 (n := Opl.skp rfl (Opl.skp rfl (Opl.skp rfl (Opl.skp rfl (Opl.skp rfl (Opl.p1 (n := Opl.nil (Evr.condT rfl (Evr.sr rfl (Opl.p1 (n := Opl.p1 (n := Opl.nil ?_))))))))))))))))))))))))))
  obtain rfl := Option.some.inj H
  refine Evr.ret2 Try.func14 rfl ?_
  show Own1 _ _ _ (.tup [.lit (.slice none 0 0), .lit (.bool false)]) _
  exact ⟨[.lit (.slice none 0 0), .lit (.bool false)], _, rfl, [.lit (.slice none 0 0)], [.lit (.bool false)], _, [], rfl, rfl, (fun _ _ h => by cases h), .inl ⟨rfl, rfl, rfl⟩, rfl, rfl⟩
 rw [if_pos c1] at H
 have e1 : (!r1) = false := by simpa using c1
 try rw [e1]
 refine Opl.p1 (n := ?_)
 obtain ⟨r2, h_r2, H⟩ := Option.bind_eq_some_iff.1 H
 refine Opl.callc (impl_ClauseValid.ev hv1 h_r2) rfl rfl rfl rfl ⟨hv1.plain, (.lit _), trivial⟩ (by decide) (Opl.p1 (n := Opl.p1 (n := Opl.p1 (n := ?_))))
 by_cases c2 : r2 = true
 case neg =>
  rw [if_neg c2] at H
  have e17 : (!r2) = true := by simpa using c2
  try rw [e17]
  refine Opl.skp rfl (Opl.skp rfl (Opl.p1 (n := Opl.p1 (n := Opl.skp rfl (Opl.skp rfl (Opl.skp rfl (Opl.skp rfl (Opl.p1 (n := Opl.p1 (n := Opl.skp rfl (Opl.skp rfl (Opl.skp rfl (Opl.skp rfl (Opl.skp rfl (Opl.p1 (n := Opl.nil (Evr.condT rfl (Evr.sr rfl (Opl.p1 (n := Opl.p1 (n := Opl.nil ?_)))))))))))))))))))))
  obtain rfl := Option.some.inj H
  refine Evr.ret2 Try.func14 rfl ?_
  show Own1 _ _ _ (.tup [.lit (.slice none 0 0), .lit (.bool false)]) _
  exact ⟨[.lit (.slice none 0 0), .lit (.bool false)], _, rfl, [.lit (.slice none 0 0)], [.lit (.bool false)], _, [], rfl, rfl, (fun _ _ h => by cases h), .inl ⟨rfl, rfl, rfl⟩, rfl, rfl⟩
 rw [if_pos c2] at H
 have e2 : (!r2) = false := by simpa using c2
 try rw [e2]
 refine Opl.p1 (n := Opl.p1 (n := Opl.p1 (n := Opl.p1 (n := ?_))))
 by_cases c3 : a2 ≤ 0
 case pos =>
  rw [if_pos c3] at H
  have e3 : (decide (a2 ≤ 0)) = true := by simpa using c3
  try rw [e3]
  refine Opl.skp rfl (Opl.skp rfl (Opl.skp rfl (Opl.skp rfl (Opl.p1 (n := Opl.p1 (n := Opl.skp rfl (Opl.skp rfl (Opl.skp rfl (Opl.skp rfl (Opl.skp rfl (Opl.p1 (n := Opl.nil (Evr.condT rfl (Evr.sr rfl (Opl.p1 (n := Opl.p1 (n := Opl.nil ?_)))))))))))))))))
  obtain rfl := Option.some.inj H
  refine Evr.ret2 Try.func14 rfl ?_
  show Own1 _ _ _ (.tup [.lit (.slice none 0 0), .lit (.bool false)]) _
  exact ⟨[.lit (.slice none 0 0), .lit (.bool false)], _, rfl, [.lit (.slice none 0 0)], [.lit (.bool false)], _, [], rfl, rfl, (fun _ _ h => by cases h), .inl ⟨rfl, rfl, rfl⟩, rfl, rfl⟩
 rw [if_neg c3] at H
 have e4 : (decide (a2 ≤ 0)) = false := by simpa using c3
 try rw [e4]
 refine Opl.p1 (n := Opl.p1 (n := ?_))
 obtain ⟨r3, h_r3, H⟩ := Option.bind_eq_some_iff.1 H
 refine Opl.callc (slices_Contains_int_int.ev hv0 h_r3) rfl rfl rfl rfl ⟨hv0.plain, (.lit _), trivial⟩ (by decide) (Opl.p1 (n := Opl.p1 (n := Opl.p1 (n := ?_))))
 by_cases c4 : r3 = true
 case neg =>
  rw [if_neg c4] at H
  have e16 : (!r3) = true := by simpa using c4
  try rw [e16]
  refine Opl.skp rfl (Opl.skp rfl (Opl.skp rfl (Opl.skp rfl (Opl.skp rfl (Opl.p1 (n := Opl.nil (Evr.condT rfl (Evr.sr rfl (Opl.p1 (n := Opl.p1 (n := Opl.nil ?_)))))))))))
  obtain rfl := Option.some.inj H
  refine Evr.ret2 Try.func14 rfl ?_
  show Own1 _ _ _ (.tup [.lit (.slice none 0 0), .lit (.bool false)]) _
  exact ⟨[.lit (.slice none 0 0), .lit (.bool false)], _, rfl, [.lit (.slice none 0 0)], [.lit (.bool false)], _, [], rfl, rfl, (fun _ _ h => by cases h), .inl ⟨rfl, rfl, rfl⟩, rfl, rfl⟩
 rw [if_pos c4] at H
 have e5 : (!r3) = false := by simpa using c4
 try rw [e5]
 refine Opl.p1 (n := Opl.p1 (n := Opl.one (v := .lit (.int .i64 (wrap64 (-a2)))) rfl rfl (by simp only [go_sem, Int.zero_sub, w64]; rfl) ?_))
 obtain ⟨r4, h_r4, H⟩ := Option.bind_eq_some_iff.1 H
 refine Opl.callc (slices_Contains_int_int.ev hv1 h_r4) rfl rfl rfl rfl ⟨hv1.plain, (.lit _), trivial⟩ (by decide) (Opl.p1 (n := Opl.p1 (n := Opl.nil ?_)))
 by_cases c5 : r4 = true
 case neg =>
  rw [if_neg c5] at H
  have e15 : (!r4) = true := by simpa using c5
  try rw [e15]
  refine Evr.condT rfl (Evr.sr rfl (Opl.one (v := .lit (.slice none 0 0)) rfl rfl rfl (Opl.one (v := .lit (.bool false)) rfl rfl rfl (Opl.nil ?_))))
  obtain rfl := Option.some.inj H
  refine Evr.ret2 Try.func14 rfl ?_
  show Own1 _ _ _ (.tup [.lit (.slice none 0 0), .lit (.bool false)]) _
  exact ⟨[.lit (.slice none 0 0), .lit (.bool false)], _, rfl, [.lit (.slice none 0 0)], [.lit (.bool false)], _, [], rfl, rfl, (fun _ _ h => by cases h), .inl ⟨rfl, rfl, rfl⟩, rfl, rfl⟩
 rw [if_pos c5] at H
 have e6 : (!r4) = false := by simpa using c5
 try rw [e6]
 refine Evr.condF rfl (Evr.skip (Evr.sr rfl (Opl.one (v := .lit (.slice none 0 0)) rfl rfl rfl (Opl.nil (Evr.seq (Evr.sr rfl (Opl.one (v := v0) rfl rfl rfl (Opl.len (xs := l0) (by exact hv0) K22 rfl rfl rfl rfl (Opl.one (v := .lit (.int .i64 0)) rfl rfl rfl (Opl.nil (Evr.block ?_)))))))))))
 refine Evr.loop (Evr.rounds (n := k) (Inv := fun n tm S => n ≤ k ∧ ∃ (x8q3_1 : List Int) (x40_1 : Int) (pv1 : PV), impl_Resolved.l1 n x8q3_1 x40_1 l0 l1 a2 = some r ∧ Has tm [(1, v1), (2, .lit (.int .i64 a2)), (8, pv1), (38, v0), (39, .lit (.int .i64 (l0.length : Int))), (40, .lit (.int .i64 x40_1))] ∧ Vec (cInt .i64) x8q3_1 pv1 S) ?_ ?_ ?_)
 · exact ⟨Nat.le_refl _, _, _, _, H, ⟨rfl, rfl, rfl, rfl, rfl, rfl, trivial⟩, .nil⟩
 ·
  rintro tm S ⟨_, _, _, _, H, -⟩
  simp [impl_Resolved.l1] at H
 ·
  rintro n1 ih1 tm S ⟨hle, x8q3_1, x40_1, pv1, H, hh, h1⟩
  simp only [impl_Resolved.l1] at H
  rw [hh.eq]
  refine Evr.sr rfl (Opl.p1 (n := Opl.nil (Evr.seq ?_)))
  by_cases c6 : x40_1 < (l0.length : Int)
  case pos =>
   rw [if_pos c6] at H
   have e7 : (decide (x40_1 < (l0.length : Int))) = true := by simpa using c6
   try rw [e7]
   refine Evr.condT rfl (Evr.skip (Evr.seq (Evr.block (Evr.sr rfl ?_))))
   obtain ⟨c7, H⟩ := peel H
   obtain ⟨c8, H⟩ := peel H
   refine Opl.idx (M := (cInt .i64)) (xs := l0) (j := x40_1) (0 : Int) (by exact hv0) rfl (by omega) (by omega) K22 Z3 rfl rfl ?_
   rintro p1 q1 h2
   obtain rfl : p1 = [.lit (.int .i64 (rd l0 x40_1))] := h2
   refine Opl.lda (.lit (.int .i64 (rd l0 x40_1))) rfl T3 rfl rfl rfl rfl (Opl.p1 (n := Opl.nil (Evr.sr rfl (Opl.p1 (n := Opl.p1 (n := Opl.p1 (n := Opl.nil ?_)))))))
   refine Evr.join (fun tm S => ∃ (kq1 : Nat) (x8q3_2 : List Int) (pv2 : PV), impl_Resolved.l1 kq1 x8q3_2 (wrap64 (x40_1 + 1)) l0 l1 a2 = some r ∧ kq1 ≤ n1 ∧ Has tm [(1, v1), (2, .lit (.int .i64 a2)), (8, pv2), (38, v0), (39, .lit (.int .i64 (l0.length : Int))), (40, .lit (.int .i64 x40_1))] ∧ Vec (cInt .i64) x8q3_2 pv2 S) ?_ fun hk1 => ?_
   ·
    rintro tm S ⟨kq1, x8q3_2, pv2, H, hle, hh, h3⟩
    rw [hh.eq]
    refine Evr.inBlock (Evr.regionN rfl (Opl.add (k := .i64) (a := x40_1) (b := 1) K3 rfl rfl rfl rfl (Opl.one (v := .lit (.int .i64 (wrap64 (x40_1 + 1)))) rfl rfl rfl (Opl.nil ?_))))
    exact ih1 _ (by omega) _ _ ⟨by omega, _, _, _, H, ⟨rfl, rfl, rfl, rfl, rfl, rfl, trivial⟩, h3⟩
   ·
    by_cases c9 : (rd l0 x40_1) ≠ a2
    case neg =>
     rw [if_neg c9] at H
     have e9 : ((rd l0 x40_1) != a2) = false := by simpa using c9
     try rw [e9]
     refine Evr.condF rfl (Evr.skip ?_)
     exact hk1 _ _ ⟨_, _, _, H, by omega, ⟨rfl, rfl, rfl, rfl, rfl, rfl, trivial⟩, h1⟩
    rw [if_pos c9] at H
    have e8 : ((rd l0 x40_1) != a2) = true := by simpa using c9
    try rw [e8]
    refine Evr.condT rfl (Evr.regionN rfl (Opl.p1 (n := Opl.p1 (n := Opl.lits (M := (cInt .i64)) (ys := [(rd l0 x40_1)]) [.tmp 48] K22 T3 rfl rfl rfl (by exact ⟨rfl, trivial⟩) rfl (by decide) rfl rfl rfl ?_))))
    rintro pv3 S h4 u1 w1
    have ap1 := w1.vec h1
    have h5 := u1.vec h1 ap1
    obtain ⟨c10, H⟩ := peel H
    refine Opl.app (M := (cInt .i64)) (xs := x8q3_1) (ys := [(rd l0 x40_1)]) (v := pv1) h5 (.vec h4) (oInt .i64) rfl rfl K22 T3 rfl rfl (by (try simp only [List.length_cons, List.length_nil]); omega) (by show (_ + _) * 8 ≤ 140737488355328; (try simp only [List.length_cons, List.length_nil]); omega) rfl rfl rfl rfl rfl ?_
    rintro pv4 S h6 u2 w2
    have ap2 := w2.vec h4
    have h7 := u2.vec h4 ap1.symm
    refine Opl.p1 (n := Opl.nil ?_)
    exact hk1 _ _ ⟨_, _, _, H, by omega, ⟨rfl, rfl, rfl, rfl, rfl, rfl, trivial⟩, h6⟩
  rw [if_neg c6] at H
  have e10 : (decide (x40_1 < (l0.length : Int))) = false := by simpa using c6
  try rw [e10]
  refine Evr.condF rfl (Evr.exit rfl (Evr.seq (Evr.sr rfl (Opl.p1 (n := Opl.len (xs := l1) (by exact hv1) K22 rfl rfl rfl rfl (Opl.p1 (n := Opl.nil (Evr.block ?_))))))))
  refine Evr.loop (Evr.rounds (n := n1) (Inv := fun n tm S => n ≤ n1 ∧ ∃ (x8q5_1 : List Int) (x54q4_1 : Int) (pv5 : PV), impl_Resolved.l2 n x8q5_1 x54q4_1 l1 a2 = some r ∧ Has tm [(2, .lit (.int .i64 a2)), (8, pv5), (52, v1), (53, .lit (.int .i64 (l1.length : Int))), (54, .lit (.int .i64 x54q4_1))] ∧ Vec (cInt .i64) x8q5_1 pv5 S) ?_ ?_ ?_)
  · exact ⟨Nat.le_refl _, _, _, _, H, ⟨rfl, rfl, rfl, rfl, rfl, trivial⟩, h1⟩
  ·
   rintro tm S ⟨_, _, _, _, H, -⟩
   simp [impl_Resolved.l2] at H
  ·
   rintro n2 ih2 tm S ⟨hle, x8q5_1, x54q4_1, pv5, H, hh, h8⟩
   simp only [impl_Resolved.l2] at H
   rw [hh.eq]
   refine Evr.sr rfl (Opl.p1 (n := Opl.nil (Evr.seq ?_)))
   by_cases c11 : x54q4_1 < (l1.length : Int)
   case neg =>
    rw [if_neg c11] at H
    have e14 : (decide (x54q4_1 < (l1.length : Int))) = false := by simpa using c11
    try rw [e14]
    refine Evr.condF rfl (Evr.exit rfl (Evr.seq (Evr.frz 8 h8 rfl ?_)))
    rintro pv9 S h15 u5
    refine Evr.regionN rfl (Opl.p1 (n := ?_))
    obtain ⟨r5, h_r5, H⟩ := Option.bind_eq_some_iff.1 H
    refine Opl.callg2 (.pl (sInt .i64)) sBool (c0 := (.bool r5.2)) (fun _ h => h) (impl_clauseOf.evo h15 h_r5) rfl rfl rfl (.cons (.refl _) .nil) ⟨h15.plain, trivial⟩ rfl ?_
    rintro pv10 S ids_ ht_ f1 g1
    obtain ⟨h16, rfl⟩ := tree_vec ht_
    refine Opl.p1 (v := pv10) (n := Opl.p1 (v := .lit (.bool r5.2)) (n := Opl.p1 (n := Opl.p1 (n := Opl.nil ?_))))
    obtain rfl := Option.some.inj H
    refine Evr.ret2 Try.func14 rfl ?_
    show Own1 _ _ _ (.tup [pv10, .lit (.bool r5.2)]) _
    exact ⟨[pv10, .lit (.bool r5.2)], _, rfl, [pv10], [.lit (.bool r5.2)], _, [], rfl, rfl, (fun _ _ h => by cases h), h16.tree (oInt .i64), rfl, rfl⟩
   rw [if_pos c11] at H
   have e11 : (decide (x54q4_1 < (l1.length : Int))) = true := by simpa using c11
   try rw [e11]
   refine Evr.condT rfl (Evr.skip (Evr.seq (Evr.block (Evr.sr rfl ?_))))
   obtain ⟨c12, H⟩ := peel H
   obtain ⟨c13, H⟩ := peel H
   refine Opl.idx (M := (cInt .i64)) (xs := l1) (j := x54q4_1) (0 : Int) (by exact hv1) rfl (by omega) (by omega) K22 Z3 rfl rfl ?_
   rintro p2 q2 h9
   obtain rfl : p2 = [.lit (.int .i64 (rd l1 x54q4_1))] := h9
   refine Opl.lda (.lit (.int .i64 (rd l1 x54q4_1))) rfl T3 rfl rfl rfl rfl (Opl.p1 (n := Opl.nil (Evr.sr rfl (Opl.p1 (n := Opl.p1 (n := Opl.one (v := .lit (.int .i64 (wrap64 (-a2)))) rfl rfl (by simp only [go_sem, Int.zero_sub, w64]; rfl) (Opl.neq (a := (rd l1 x54q4_1)) (b := (wrap64 (-a2))) K3 rfl rfl rfl rfl (Opl.nil ?_))))))))
   refine Evr.join (fun tm S => ∃ (kq2 : Nat) (x8q5_2 : List Int) (pv6 : PV), impl_Resolved.l2 kq2 x8q5_2 (wrap64 (x54q4_1 + 1)) l1 a2 = some r ∧ kq2 ≤ n2 ∧ Has tm [(2, .lit (.int .i64 a2)), (8, pv6), (52, v1), (53, .lit (.int .i64 (l1.length : Int))), (54, .lit (.int .i64 x54q4_1))] ∧ Vec (cInt .i64) x8q5_2 pv6 S) ?_ fun hk2 => ?_
   ·
    rintro tm S ⟨kq2, x8q5_2, pv6, H, hle, hh, h10⟩
    rw [hh.eq]
    refine Evr.inBlock (Evr.regionN rfl (Opl.add (k := .i64) (a := x54q4_1) (b := 1) K3 rfl rfl rfl rfl (Opl.one (v := .lit (.int .i64 (wrap64 (x54q4_1 + 1)))) rfl rfl rfl (Opl.nil ?_))))
    exact ih2 _ (by omega) _ _ ⟨by omega, _, _, _, H, ⟨rfl, rfl, rfl, rfl, rfl, trivial⟩, h10⟩
   ·
    by_cases c14 : (rd l1 x54q4_1) ≠ (wrap64 (-a2))
    case neg =>
     rw [if_neg c14] at H
     have e13 : ((rd l1 x54q4_1) != (wrap64 (-a2))) = false := by simpa using c14
     try rw [e13]
     refine Evr.condF rfl (Evr.skip ?_)
     exact hk2 _ _ ⟨_, _, _, H, by omega, ⟨rfl, rfl, rfl, rfl, rfl, trivial⟩, h8⟩
    rw [if_pos c14] at H
    have e12 : ((rd l1 x54q4_1) != (wrap64 (-a2))) = true := by simpa using c14
    try rw [e12]
    refine Evr.condT rfl (Evr.regionN rfl (Opl.one (v := pv5) rfl rfl rfl (Opl.one (v := .lit (.int .i64 (rd l1 x54q4_1))) rfl rfl rfl (Opl.lits (M := (cInt .i64)) (ys := [(rd l1 x54q4_1)]) [.tmp 63] K22 T3 rfl rfl rfl (by exact ⟨rfl, trivial⟩) rfl (by decide) rfl rfl rfl ?_))))
    rintro pv7 S h11 u3 w3
    have ap3 := w3.vec h8
    have h12 := u3.vec h8 ap3
    obtain ⟨c15, H⟩ := peel H
    refine Opl.app (M := (cInt .i64)) (xs := x8q5_1) (ys := [(rd l1 x54q4_1)]) (v := pv5) h12 (.vec h11) (oInt .i64) rfl rfl K22 T3 rfl rfl (by (try simp only [List.length_cons, List.length_nil]); omega) (by show (_ + _) * 8 ≤ 140737488355328; (try simp only [List.length_cons, List.length_nil]); omega) rfl rfl rfl rfl rfl ?_
    rintro pv8 S h13 u4 w4
    have ap4 := w4.vec h11
    have h14 := u4.vec h11 ap3.symm
    refine Opl.one (v := pv8) rfl rfl rfl (Opl.nil ?_)
    exact hk2 _ _ ⟨_, _, _, H, by omega, ⟨rfl, rfl, rfl, rfl, rfl, trivial⟩, h13⟩
end Go.Proofs.Ytigbbefdndcmbaa.PA
end
