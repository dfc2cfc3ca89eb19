/- Walks of Go functions: each is shown to answer as the Lean function beside it tells, under the conditions that its theorem names. -/
import Derived.Test.YtaajnneigmgikaaProg
import Derived.KernelRfl
import Derived.Below
import Derived.Deep.Draws
import Derived.Deep.AppendLies
import Derived.Maps.AppendAt
import Derived.OwnWalk
import Derived.Laws.BytesArg
import Derived.Laws.MakeOwn
import Derived.Laws.OwnMore
import Derived.Deep.OwnRows
import Derived.Tactics
import Derived.Lib.ConvBytes
import Derived.Laws.Slices
import Derived.WalkKit
import Derived.RowKit3
import Derived.Deep.LoopGhost
import Derived.Deep.QuietTactic
import Derived.BigQuiet
import Derived.WideLaws
import Derived.Deep.DeepCutAuto
import Derived.Deep.CutBlock
import Derived.Deep.RegionHeld3
import Derived.Laws.Rows
import Derived.Lib.AppendStr
import Derived.ArgAppend
import Derived.Laws.IdiomCopy
import Derived.OrdersHeld
import Derived.Laws.BitsLemmas
import Derived.RowKit
import Derived.Laws.StructEq
import Derived.Lib.SliceRun
import Derived.WalkSpells
import Derived.ChangeArms
import Derived.ChangeSlices
import Derived.Deep.Slices
import Derived.Attr
import Derived.Laws.Append
import Derived.Laws.AppendOwn
import Derived.Laws.Entries
import Derived.Calls
import Derived.Laws.Sem
import Derived.Test.YtaajnneigmgikaaKW5288dd145b
import Derived.Test.YtaajnneigmgikaaKD14145eb784
section
namespace Go.Proofs.Ytaajnneigmgikaa.PA
open Go Go.Abs Go.RowKit Go.Proofs Go.Proofs.YtaajnneigmgikaaW.PrintWords Go.Proofs.YtaajnneigmgikaaW.PrintLast Go.Proofs.YtaajnneigmgikaaW.PrintMore
set_option maxRecDepth 100000
theorem K3 : tkAt Try.prog 3 = some (.int .i64) := by kernel_rfl
theorem Z3 : szAt Try.prog 3 = some 1 := by kernel_rfl
theorem T3 : tiOf Try.prog 3 = some ⟨(.int .i64), 1, 8, [.int .i64 0], []⟩ := by kernel_rfl
theorem K4 : tkAt Try.prog 4 = some .bool := by kernel_rfl
theorem Z4 : szAt Try.prog 4 = some 1 := by kernel_rfl
theorem T4 : tiOf Try.prog 4 = some ⟨.bool, 1, 1, [.bool false], []⟩ := by kernel_rfl
theorem K5 : tkAt Try.prog 5 = some (.int .u8) := by kernel_rfl
theorem Z5 : szAt Try.prog 5 = some 1 := by kernel_rfl
theorem T5 : tiOf Try.prog 5 = some ⟨(.int .u8), 1, 1, [.int .u8 0], []⟩ := by kernel_rfl
theorem K9 : tkAt Try.prog 9 = some .str := by kernel_rfl
theorem Z9 : szAt Try.prog 9 = some 1 := by kernel_rfl
theorem T9 : tiOf Try.prog 9 = some ⟨.str, 1, 16, [.string ("".toUTF8)], []⟩ := by kernel_rfl
theorem K22 : tkAt Try.prog 22 = some (.slice 41) := by kernel_rfl
theorem Z22 : szAt Try.prog 22 = some 1 := by kernel_rfl
theorem T22 : tiOf Try.prog 22 = some ⟨(.slice 41), 1, 24, [.slice none 0 0], []⟩ := by kernel_rfl
theorem K24 : tkAt Try.prog 24 = some .strct := by kernel_rfl
theorem Z24 : szAt Try.prog 24 = some 2 := by kernel_rfl
theorem T24 : tiOf Try.prog 24 = some ⟨.strct, 2, 32, [.int .i64 0, .slice none 0 0], [⟨0, 1, (.int .i64)⟩, ⟨1, 1, (.slice 41)⟩]⟩ := by kernel_rfl
theorem K25 : tkAt Try.prog 25 = some (.slice 106) := by kernel_rfl
theorem Z25 : szAt Try.prog 25 = some 1 := by kernel_rfl
theorem T25 : tiOf Try.prog 25 = some ⟨(.slice 106), 1, 24, [.slice none 0 0], []⟩ := by kernel_rfl
theorem K27 : tkAt Try.prog 27 = some .strct := by kernel_rfl
theorem Z27 : szAt Try.prog 27 = some 2 := by kernel_rfl
theorem T27 : tiOf Try.prog 27 = some ⟨.strct, 2, 32, [.int .i64 0, .slice none 0 0], [⟨0, 1, (.int .i64)⟩, ⟨1, 1, (.slice 106)⟩]⟩ := by kernel_rfl
theorem K31 : tkAt Try.prog 31 = some .strct := by kernel_rfl
theorem Z31 : szAt Try.prog 31 = some 2 := by kernel_rfl
theorem T31 : tiOf Try.prog 31 = some ⟨.strct, 2, 32, [.int .i64 0, .slice none 0 0], [⟨0, 1, (.int .i64)⟩, ⟨1, 1, (.slice 41)⟩]⟩ := by kernel_rfl
theorem K33 : tkAt Try.prog 33 = some (.slice 96) := by kernel_rfl
theorem Z33 : szAt Try.prog 33 = some 1 := by kernel_rfl
theorem T33 : tiOf Try.prog 33 = some ⟨(.slice 96), 1, 24, [.slice none 0 0], []⟩ := by kernel_rfl
theorem K35 : tkAt Try.prog 35 = some .strct := by kernel_rfl
theorem Z35 : szAt Try.prog 35 = some 2 := by kernel_rfl
theorem T35 : tiOf Try.prog 35 = some ⟨.strct, 2, 32, [.int .i64 0, .slice none 0 0], [⟨0, 1, (.int .i64)⟩, ⟨1, 1, (.slice 96)⟩]⟩ := by kernel_rfl
theorem K40 : tkAt Try.prog 40 = some (.slice 5) := by kernel_rfl
theorem Z40 : szAt Try.prog 40 = some 1 := by kernel_rfl
theorem T40 : tiOf Try.prog 40 = some ⟨(.slice 5), 1, 24, [.slice none 0 0], []⟩ := by kernel_rfl
theorem K41 : tkAt Try.prog 41 = some (.slice 3) := by kernel_rfl
theorem Z41 : szAt Try.prog 41 = some 1 := by kernel_rfl
theorem T41 : tiOf Try.prog 41 = some ⟨(.slice 3), 1, 24, [.slice none 0 0], []⟩ := by kernel_rfl
theorem K74 : tkAt Try.prog 74 = some .func := by kernel_rfl
theorem Z74 : szAt Try.prog 74 = some 1 := by kernel_rfl
theorem T74 : tiOf Try.prog 74 = some ⟨.func, 1, 8, [.nilFunc], []⟩ := by kernel_rfl
theorem K75 : tkAt Try.prog 75 = some (.slice 4) := by kernel_rfl
theorem Z75 : szAt Try.prog 75 = some 1 := by kernel_rfl
theorem T75 : tiOf Try.prog 75 = some ⟨(.slice 4), 1, 24, [.slice none 0 0], []⟩ := by kernel_rfl
theorem K82 : tkAt Try.prog 82 = some (.ptr 111) := by kernel_rfl
theorem Z82 : szAt Try.prog 82 = some 1 := by kernel_rfl
theorem T82 : tiOf Try.prog 82 = some ⟨(.ptr 111), 1, 8, [.pointer none], []⟩ := by kernel_rfl
theorem K93 : tkAt Try.prog 93 = some .func := by kernel_rfl
theorem Z93 : szAt Try.prog 93 = some 1 := by kernel_rfl
theorem T93 : tiOf Try.prog 93 = some ⟨.func, 1, 8, [.nilFunc], []⟩ := by kernel_rfl
theorem K96 : tkAt Try.prog 96 = some .strct := by kernel_rfl
theorem Z96 : szAt Try.prog 96 = some 2 := by kernel_rfl
theorem T96 : tiOf Try.prog 96 = some ⟨.strct, 2, 16, [.int .i64 0, .int .i64 0], [⟨0, 1, (.int .i64)⟩, ⟨1, 1, (.int .i64)⟩]⟩ := by kernel_rfl
theorem K106 : tkAt Try.prog 106 = some .strct := by kernel_rfl
theorem Z106 : szAt Try.prog 106 = some 2 := by kernel_rfl
theorem T106 : tiOf Try.prog 106 = some ⟨.strct, 2, 16, [.int .i64 0, .int .i64 0], [⟨0, 1, (.int .i64)⟩, ⟨1, 1, (.int .i64)⟩]⟩ := by kernel_rfl
theorem K111 : tkAt Try.prog 111 = some .strct := by kernel_rfl
theorem Z111 : szAt Try.prog 111 = some 2 := by kernel_rfl
theorem T111 : tiOf Try.prog 111 = some ⟨.strct, 2, 32, [.slice none 0 0, .int .i64 0], [⟨0, 1, (.slice 5)⟩, ⟨1, 1, (.int .i64)⟩]⟩ := by kernel_rfl
theorem K115 : tkAt Try.prog 115 = some .func := by kernel_rfl
theorem Z115 : szAt Try.prog 115 = some 1 := by kernel_rfl
theorem T115 : tiOf Try.prog 115 = some ⟨.func, 1, 8, [.nilFunc], []⟩ := by kernel_rfl
theorem K123 : tkAt Try.prog 123 = some (.int .u64) := by kernel_rfl
theorem Z123 : szAt Try.prog 123 = some 1 := by kernel_rfl
theorem T123 : tiOf Try.prog 123 = some ⟨(.int .u64), 1, 8, [.int .u64 0], []⟩ := by kernel_rfl
theorem K135 : tkAt Try.prog 135 = some (.int .u64) := by kernel_rfl
theorem Z135 : szAt Try.prog 135 = some 1 := by kernel_rfl
theorem T135 : tiOf Try.prog 135 = some ⟨(.int .u64), 1, 8, [.int .u64 0], []⟩ := by kernel_rfl
attribute [go_sem] K3 Z3 T3 K4 Z4 T4 K5 Z5 T5 K9 Z9 T9 K22 Z22 T22 K24 Z24 T24 K25 Z25 T25 K27 Z27 T27 K31 Z31 T31 K33 Z33 T33 K35 Z35 T35 K40 Z40 T40 K41 Z41 T41 K74 Z74 T74 K75 Z75 T75 K82 Z82 T82 K93 Z93 T93 K96 Z96 T96 K106 Z106 T106 K111 Z111 T111 K115 Z115 T115 K123 Z123 T123 K135 Z135 T135
end Go.Proofs.Ytaajnneigmgikaa.PA
end
section
namespace Go.Proofs.Ytaajnneigmgikaa.PA
open Go Go.Abs Go.RowKit Go.Proofs Go.Proofs.YtaajnneigmgikaaW.PrintWords Go.Proofs.YtaajnneigmgikaaW.PrintLast Go.Proofs.YtaajnneigmgikaaW.PrintMore
set_option maxRecDepth 100000
set_option maxHeartbeats 4000000
set_option linter.unusedVariables false
set_option linter.unusedSimpArgs false
theorem impl_atomOf.ev {a0 : Int} {r : Int} (H : impl_atomOf.f a0 = some r) : Ret Try.prog 72 [.lit (.int .i64 a0)] fun v S => v = .lit (.int .i64 r) := by
 unfold impl_atomOf.f at H
 refine Ret.intro Try.func72 rfl (Nat.le_of_ble_eq_true rfl) rfl ?_
 rw [tm1]
 refine Evr.sr rfl (Opl.p1 (n := Opl.nil (Evr.sr rfl (Opl.p1 (n := Opl.p1 (n := Opl.one (v := .lit (.int .i64 (wrap64 (-a0)))) rfl rfl (by simp only [go_sem, Int.zero_sub, w64]; rfl) (Opl.one rfl rfl (by simp only [go_sem, minFn, maxFn]; rfl) (Opl.one (v := .lit (.int .i64 (if (wrap64 (-a0)) > a0 then (wrap64 (-a0)) else a0))) rfl rfl rfl (Opl.nil ?_)))))))))
 obtain rfl := Option.some.inj H
 refine Evr.ret1 Try.func72 rfl ?_
 show (.lit (.int .i64 (if (wrap64 (-a0)) > a0 then (wrap64 (-a0)) else a0)) : PV) = _
 first | rfl | (simp only [go_sem]; rfl)
theorem impl_in.ev {a0 : Int} {a1 : Int} {a2 : Int} {r : Bool} (H : impl_in.f a0 a1 a2 = some r) : Ret Try.prog 65 [.lit (.int .i64 a0), .lit (.int .i64 a1), .lit (.int .i64 a2)] fun v S => v = .lit (.bool r) := by
 unfold impl_in.f at H
 refine Ret.intro Try.func65 rfl (Nat.le_of_ble_eq_true rfl) rfl ?_
 rw [tm3]
 refine Evr.sr rfl (Opl.p1 (n := Opl.nil (Evr.sr rfl (Opl.p1 (n := Opl.p1 (n := Opl.p1 (n := Opl.p1 (n := ?_))))))))
 by_cases c1 : a0 ≥ a1
 case neg =>
  rw [if_neg c1] at H
  have e2 : (decide (a0 ≥ a1)) = false := by simpa using c1
  try rw [e2]
  refine Opl.skp rfl (Opl.skp rfl (Opl.skp rfl (Opl.p1 (n := Opl.p1 (n := Opl.nil ?_)))))
  obtain rfl := Option.some.inj H
  refine Evr.ret1 Try.func65 rfl ?_
  show (.lit (.bool false) : PV) = _
  first | rfl | (simp only [go_sem]; rfl)
 rw [if_pos c1] at H
 have e1 : (decide (a0 ≥ a1)) = true := by simpa using c1
 try rw [e1]
 refine Opl.p1 (n := Opl.p1 (n := Opl.p1 (n := Opl.p1 (n := Opl.p1 (n := Opl.nil ?_)))))
 obtain rfl := Option.some.inj H
 refine Evr.ret1 Try.func65 rfl ?_
 show (.lit (.bool (decide (a0 ≤ a2))) : PV) = _
 first | rfl | (simp only [go_sem]; rfl)
theorem impl_ClauseValid.ev {k : Nat} {l0 : List Int} {v0 : PV} (hv0 : Sl (cInt .i64) l0 v0) {a1 : Int} {r : Bool} (H : impl_ClauseValid.f k l0 a1 = some r) : Ret Try.prog 21 [v0, .lit (.int .i64 a1)] fun v S => v = .lit (.bool r) := by
 unfold impl_ClauseValid.f at H
 refine Ret.intro Try.func21 rfl (Nat.le_of_ble_eq_true rfl) rfl ?_
 rw [tm2]
 refine Evr.sr rfl (Opl.p1 (n := Opl.nil (Evr.seq (Evr.sr rfl (Opl.p1 (n := ?_))))))
 obtain ⟨t296, h_t296, H⟩ := Option.bind_eq_some_iff.1 H
 refine Opl.callc (impl_in.ev h_t296) rfl rfl rfl rfl ⟨(.lit _), (.lit _), (.lit _), trivial⟩ (by decide) (Opl.p1 (n := Opl.nil ?_))
 by_cases c1 : t296 = true
 case neg =>
  rw [if_neg c1] at H
  have e10 : (!t296) = true := by simpa using c1
  try rw [e10]
  refine Evr.condT rfl (Evr.sr rfl (Opl.p1 (n := Opl.nil ?_)))
  obtain rfl := Option.some.inj H
  refine Evr.ret1 Try.func21 rfl ?_
  show (.lit (.bool false) : PV) = _
  first | rfl | (simp only [go_sem]; rfl)
 rw [if_pos c1] at H
 have e1 : (!t296) = false := by simpa using c1
 try rw [e1]
 refine Evr.condF rfl (Evr.skip (Evr.seq (Evr.sr rfl (Opl.p1 (n := Opl.len (xs := l0) (by exact hv0) K41 rfl rfl rfl rfl (Opl.p1 (n := Opl.nil (Evr.block ?_))))))))
 refine Evr.loop (Evr.rounds (n := k) (Inv := fun n tm S => n ≤ k ∧ ∃ (x12_1 : Int), impl_ClauseValid.l0 n l0 a1 l0 (l0.length : Int) x12_1 = some r ∧ Has tm [(0, v0), (1, .lit (.int .i64 a1)), (10, v0), (11, .lit (.int .i64 (l0.length : Int))), (12, .lit (.int .i64 x12_1))]) ?_ ?_ ?_)
 · exact ⟨Nat.le_refl _, _, H, ⟨rfl, rfl, rfl, rfl, rfl, trivial⟩⟩
 ·
  rintro tm S ⟨_, _, H, -⟩
  simp [impl_ClauseValid.l0] at H
 ·
  rintro n1 ih1 tm S ⟨hle, x12_1, H, hh⟩
  simp only [impl_ClauseValid.l0] at H
  rw [hh.eq]
  refine Evr.sr rfl (Opl.p1 (n := Opl.nil (Evr.seq ?_)))
  by_cases c2 : x12_1 < (l0.length : Int)
  case neg =>
   rw [if_neg c2] at H
   have e9 : (decide (x12_1 < (l0.length : Int))) = false := by simpa using c2
   try rw [e9]
   refine Evr.condF rfl (Evr.exit rfl (Evr.sr rfl (Opl.p1 (n := Opl.nil ?_))))
   obtain rfl := Option.some.inj H
   refine Evr.ret1 Try.func21 rfl ?_
   show (.lit (.bool true) : PV) = _
   first | rfl | (simp only [go_sem]; rfl)
  rw [if_pos c2] at H
  have e2 : (decide (x12_1 < (l0.length : Int))) = true := by simpa using c2
  try rw [e2]
  refine Evr.condT rfl (Evr.skip (Evr.seq (Evr.block (Evr.sr rfl (Opl.p1 (n := ?_))))))
  obtain ⟨c3, H⟩ := peel H
  obtain ⟨c4, H⟩ := peel H
  refine Opl.idx (M := (cInt .i64)) (xs := l0) (j := x12_1) (0 : Int) (by exact hv0) rfl (by omega) (by omega) K41 Z3 rfl rfl ?_
  rintro p1 q1 h1
  obtain rfl : p1 = [.lit (.int .i64 (rd l0 x12_1))] := h1
  refine Opl.lda (.lit (.int .i64 (rd l0 x12_1))) rfl T3 rfl rfl rfl rfl (Opl.p1 (n := Opl.p1 (n := Opl.nil (Evr.seq ?_))))
  refine Evr.join (fun tm S => ∃ (kq1 : Nat) (x41_1 : Bool), impl_ClauseValid.j1 kq1 l0 a1 l0 (l0.length : Int) x12_1 x41_1 = some r ∧ kq1 ≤ n1 ∧ Has tm [(0, v0), (1, .lit (.int .i64 a1)), (10, v0), (11, .lit (.int .i64 (l0.length : Int))), (12, .lit (.int .i64 x12_1)), (41, .lit (.bool x41_1))]) ?_ fun hk1 => ?_
  ·
   rintro tm S ⟨kq1, x41_1, H, hle, hh⟩
   rw [hh.eq]
   obtain _ | k1 := kq1
   · simp [impl_ClauseValid.j1] at H
   simp only [impl_ClauseValid.j1] at H
   by_cases c5 : x41_1 = true
   case pos =>
    rw [if_pos c5] at H
    obtain rfl : x41_1 = true := by simpa using c5
    refine Evr.condT rfl (Evr.sr rfl (Opl.p1 (n := Opl.nil ?_)))
    obtain rfl := Option.some.inj H
    refine Evr.ret1 Try.func21 rfl ?_
    show (.lit (.bool false) : PV) = _
    first | rfl | (simp only [go_sem]; rfl)
   rw [if_neg c5] at H
   obtain rfl : x41_1 = false := by simpa using c5
   refine Evr.condF rfl (Evr.skip (Evr.inBlock (Evr.regionN rfl (Opl.add (k := .i64) (a := x12_1) (b := 1) K3 rfl rfl rfl rfl (Opl.one (v := .lit (.int .i64 (wrap64 (x12_1 + 1)))) rfl rfl rfl (Opl.nil ?_))))))
   exact ih1 _ (by omega) _ _ ⟨by omega, _, H, ⟨rfl, rfl, rfl, rfl, rfl, trivial⟩⟩
  ·
   refine Evr.regionN rfl (Opl.p1 (n := Opl.p1 (n := Opl.one (v := .lit (.int .i64 (wrap64 (-a1)))) rfl rfl (by simp only [go_sem, Int.zero_sub, w64]; rfl) (Opl.one (v := .lit (.int .i64 a1)) rfl rfl rfl ?_))))
   obtain ⟨t298, h_t298, H⟩ := Option.bind_eq_some_iff.1 H
   refine Opl.callc (impl_in.ev h_t298) rfl rfl rfl rfl ⟨(.lit _), (.lit _), (.lit _), trivial⟩ (by decide) (Opl.p1 (n := Opl.one (v := .lit (.bool (!t298))) rfl rfl rfl ?_))
   by_cases c6 : t298 = true
   case neg =>
    rw [if_neg c6] at H
    have e8 : (!t298) = true := by simpa using c6
    try rw [e8]
    refine Opl.skp rfl (Opl.skp rfl (Opl.p1 (n := Opl.one (v := .lit (.bool true)) rfl rfl rfl (Opl.skp rfl (Opl.skp rfl (Opl.skp rfl (Opl.skp rfl (Opl.skp rfl (Opl.skp rfl (Opl.skp rfl (Opl.skp rfl (Opl.skp rfl (Opl.skp rfl (Opl.skp rfl (Opl.skp rfl (Opl.skp rfl (Opl.p1 (n := Opl.nil ?_))))))))))))))))))
    exact hk1 _ _ ⟨_, _, H, by omega, ⟨rfl, rfl, rfl, rfl, rfl, (by first | rfl | (show PV.lit (.bool _) = _; congr 2; simp_all)), trivial⟩⟩
   rw [if_pos c6] at H
   have e3 : (!t298) = false := by simpa using c6
   try rw [e3]
   refine Opl.one (v := .lit (.int .i64 (rd l0 x12_1))) rfl rfl rfl (Opl.p1 (n := Opl.p1 (n := Opl.one (v := .lit (.bool ((rd l0 x12_1) == 0))) rfl rfl rfl ?_)))
   by_cases c7 : (rd l0 x12_1) = 0
   case pos =>
    rw [if_pos c7] at H
    have e4 : ((rd l0 x12_1) == 0) = true := by simpa using c7
    try rw [e4]
    refine Opl.skp rfl (Opl.skp rfl (Opl.skp rfl (Opl.skp rfl (Opl.skp rfl (Opl.skp rfl (Opl.skp rfl (Opl.skp rfl (Opl.skp rfl (Opl.skp rfl (Opl.skp rfl (Opl.skp rfl (Opl.skp rfl (Opl.p1 (n := Opl.nil ?_))))))))))))))
    exact hk1 _ _ ⟨_, _, H, by omega, ⟨rfl, rfl, rfl, rfl, rfl, (by first | rfl | (show PV.lit (.bool _) = _; congr 2; simp_all)), trivial⟩⟩
   rw [if_neg c7] at H
   have e5 : ((rd l0 x12_1) == 0) = false := by simpa using c7
   try rw [e5]
   refine Opl.one (v := .lit (.int .i64 x12_1)) rfl rfl rfl (Opl.p1 (n := Opl.one (v := .lit (.bool (decide (x12_1 > 0)))) rfl rfl rfl ?_))
   by_cases c8 : x12_1 > 0
   case neg =>
    rw [if_neg c8] at H
    have e7 : (decide (x12_1 > 0)) = false := by simpa using c8
    try rw [e7]
    refine Opl.skp rfl (Opl.skp rfl (Opl.skp rfl (Opl.skp rfl (Opl.skp rfl (Opl.skp rfl (Opl.skp rfl (Opl.skp rfl (Opl.skp rfl (Opl.p1 (n := Opl.p1 (n := Opl.nil ?_)))))))))))
    exact hk1 _ _ ⟨_, _, H, by omega, ⟨rfl, rfl, rfl, rfl, rfl, (by first | rfl | (show PV.lit (.bool _) = _; congr 2; simp_all)), trivial⟩⟩
   rw [if_pos c8] at H
   have e6 : (decide (x12_1 > 0)) = true := by simpa using c8
   try rw [e6]
   refine Opl.one (v := v0) rfl rfl rfl (Opl.one (v := .lit (.int .i64 x12_1)) rfl rfl rfl (Opl.subi (k := .i64) (a := x12_1) (b := 1) K3 rfl rfl rfl rfl ?_))
   obtain ⟨c9, H⟩ := peel H
   obtain ⟨c10, H⟩ := peel H
   refine Opl.idx (M := (cInt .i64)) (xs := l0) (j := (wrap64 (x12_1 - 1))) (0 : Int) (by exact hv0) rfl (by omega) (by omega) K41 Z3 rfl rfl ?_
   rintro p2 q2 h2
   obtain rfl : p2 = [.lit (.int .i64 (rd l0 (wrap64 (x12_1 - 1))))] := h2
   refine Opl.lda (.lit (.int .i64 (rd l0 (wrap64 (x12_1 - 1))))) rfl T3 rfl rfl rfl rfl ?_
   obtain ⟨t300, h_t300, H⟩ := Option.bind_eq_some_iff.1 H
   refine Opl.callc (impl_atomOf.ev h_t300) rfl rfl rfl rfl ⟨(.lit _), trivial⟩ (by decide) (Opl.one (v := .lit (.int .i64 (rd l0 x12_1))) rfl rfl rfl ?_)
   obtain ⟨t301, h_t301, H⟩ := Option.bind_eq_some_iff.1 H
   refine Opl.callc (impl_atomOf.ev h_t301) rfl rfl rfl rfl ⟨(.lit _), trivial⟩ (by decide) (Opl.p1 (n := Opl.p1 (n := Opl.p1 (n := Opl.nil ?_))))
   exact hk1 _ _ ⟨_, _, H, by omega, ⟨rfl, rfl, rfl, rfl, rfl, (by first | rfl | (show PV.lit (.bool _) = _; congr 2; simp_all)), trivial⟩⟩
theorem impl_clone_int.ev {l0 : List Int} {v0 : PV} (hv0 : Sl (cInt .i64) l0 v0) {r : List Int} (H : impl_clone_int.f l0 = some r) : Ret Try.prog 90 [v0] fun v S => Vec (cInt .i64) r v S := by
 unfold impl_clone_int.f at H
 refine Ret.intro Try.func90 rfl (Nat.le_of_ble_eq_true rfl) rfl ?_
 rw [tm1]
 obtain ⟨c1, H⟩ := peel H
 obtain rfl := Option.some.inj H
 refine Evr.seq (Evr.regionN rfl (Opl.p1 (n := Opl.nil (Evr.seq (Evr.seq (Evr.regionN rfl (Opl.p1 (n := Opl.len (by exact hv0) K41 rfl rfl rfl rfl (Opl.p1 (n := Opl.nil ?_))))))))))
 by_cases c2 : (l0.length : Int) = 0
 · have e1 : ((l0.length : Int) == 0) = true := by simpa using c2
   try rw [e1]
   refine Evr.condT rfl (Evr.seq (Evr.regionN rfl (Opl.p1 (n := Opl.nil ?_))))
   obtain rfl : l0 = [] := List.eq_nil_of_length_eq_zero (by omega)
   refine Evr.ret1 Try.func90 rfl ?_
   exact .nil
 · have e1 : ((l0.length : Int) == 0) = false := by simpa using c2
   try rw [e1]
   refine Evr.condF rfl (Evr.skip (Evr.seq (Evr.regionN rfl (Opl.p1 (n := Opl.len (by exact hv0) K41 rfl rfl rfl rfl ?_)))))
   refine Opl.make (M := (cInt .i64)) (m := (l0.length : Int)) (0 : Int) (by exact rfl) rfl rfl K41 T3 rfl (by omega) (by show (_ : Nat) * 8 ≤ 281474976710656; omega) (by omega) rfl rfl rfl ?_
   rintro pv1 S h1 u1 w1
   refine Opl.p1 (n := Opl.nil (Evr.seq (Evr.regionN rfl (Opl.p1 (n := Opl.p1 (n := ?_))))))
   refine Opl.copy (M := (cInt .i64)) (ys := l0) h1 (by exact hv0) (oInt .i64) rfl (by simp) (by simp; omega) K41 Z3 rfl rfl rfl rfl rfl ?_
   rintro S h2 u2
   refine Opl.nil (Evr.seq (Evr.regionN rfl (Opl.p1 (n := Opl.p1 (n := Opl.nil ?_)))))
   refine Evr.ret1 Try.func90 rfl ?_
   exact h2
theorem slices_Clone_int_int.ev {l0 : List Int} {v0 : PV} (hv0 : Sl (cInt .i64) l0 v0) {r : List Int} (H : slices_Clone_int_int.f l0 = some r) : Ret Try.prog 108 [v0] fun v S => Vec (cInt .i64) r v S := by
 unfold slices_Clone_int_int.f at H
 obtain ⟨c1, H⟩ := peel H
 obtain rfl := Option.some.inj H
 refine Ret.intro Try.func108 rfl (Nat.le_of_ble_eq_true rfl) rfl ?_
 rw [tm1]
 refine Evr.seq (Evr.regionN rfl (Opl.p1 (n := Opl.nil (Evr.seq (Evr.seq (Evr.regionN rfl (Opl.p1 (n := ?_))))))))
 obtain ⟨rfl, rfl⟩ | ⟨cs, rfl, hr⟩ := hv0
 · refine Opl.eqnil rfl K41 rfl rfl (Opl.nil (Evr.condT rfl (Evr.seq (Evr.regionN rfl (Opl.p1 (n := Opl.nil ?_))))))
   refine Evr.ret1 Try.func108 rfl ?_
   exact .nil
 · refine Opl.eqsl rfl K41 rfl rfl (Opl.nil (Evr.condF rfl (Evr.skip (Evr.seq (Evr.regionN rfl (Opl.lits (M := (cInt .i64)) (ys := []) [] K41 T3 rfl rfl rfl trivial rfl (by decide) rfl rfl rfl ?_))))))
   rintro pv1 S h1 u1 w1
   have hv0 : Sl (cInt .i64) l0 (.sl cs l0.length) := .inr ⟨cs, rfl, hr⟩
   refine Opl.p1 (n := Opl.app (M := (cInt .i64)) (xs := ([] : List Int)) (ys := l0) (v := pv1) h1 (.sl hv0) (oInt .i64) rfl rfl K41 T3 rfl rfl (by (try simp only [List.length_cons, List.length_nil]); omega) (by show (_ + _) * 8 ≤ 140737488355328; (try simp only [List.length_cons, List.length_nil]); omega) rfl rfl rfl rfl rfl ?_)
   rintro pv2 S h2 u2 w2
   refine Opl.p1 (n := Opl.nil ?_)
   refine Evr.ret1 Try.func108 rfl ?_
   rw [List.nil_append] at h2
   exact h2
theorem slices_Compact_int_int.evb {k : Nat} {S0 : Sto} {l0 : List Int} {v0 : PV} (hv0 : Vec (cInt .i64) l0 v0 S0) {r : List Int} (H : slices_Compact_int_int.f k l0 = some r) : RetS Try.prog 113 [v0] S0 fun v S => Vec (cInt .i64) r v S ∧ (∀ j, v.id? = some j → v0.id? = some j) ∧ Same S0 S (PV.id? v0).toList := by
 have hs0 : Same S0 S0 (PV.id? v0).toList := .refl _ _
 unfold slices_Compact_int_int.f at H
 refine RetS.intro Try.func113 rfl (Nat.le_of_ble_eq_true rfl) rfl ?_
 rw [tm1]
 refine Evr.sr rfl (Opl.p1 (n := Opl.nil (Evr.seq (Evr.sr rfl (Opl.p1 (n := Opl.lenv (xs := l0) (by exact hv0) K41 rfl rfl rfl rfl (Opl.p1 (n := Opl.nil ?_))))))))
 by_cases c1 : (l0.length : Int) < 2
 case pos =>
  rw [if_pos c1] at H
  have e1 : (decide ((l0.length : Int) < 2)) = true := by simpa using c1
  try rw [e1]
  refine Evr.condT rfl (Evr.sr rfl (Opl.p1 (n := Opl.p1 (n := Opl.nil ?_))))
  obtain rfl := Option.some.inj H
  refine Evr.ret1 Try.func113 rfl ?_
  exact ⟨hv0, fun _ h => h, hs0⟩
 rw [if_neg c1] at H
 have e2 : (decide ((l0.length : Int) < 2)) = false := by simpa using c1
 try rw [e2]
 refine Evr.condF rfl (Evr.skip (Evr.seq (Evr.sr rfl (Opl.p1 (n := Opl.nil (Evr.block ?_))))))
 refine Evr.loop (Evr.rounds (n := k) (Inv := fun n tm S => n ≤ k ∧ ∃ (x3q3_1 : Int), slices_Compact_int_int.l1 n x3q3_1 l0 = some r ∧ Has tm [(0, v0), (3, .lit (.int .i64 x3q3_1))] ∧ Vec (cInt .i64) l0 v0 S ∧ Same S0 S (PV.id? v0).toList) ?_ ?_ ?_)
 · exact ⟨Nat.le_refl _, _, H, ⟨rfl, rfl, trivial⟩, hv0, hs0⟩
 ·
  rintro tm S ⟨_, _, H, -⟩
  simp [slices_Compact_int_int.l1] at H
 ·
  rintro n1 ih1 tm S ⟨hle, x3q3_1, H, hh, h1, h2⟩
  simp only [slices_Compact_int_int.l1] at H
  rw [hh.eq]
  refine Evr.seq (Evr.sr rfl (Opl.p1 (n := Opl.p1 (n := Opl.lenv (xs := l0) (by exact h1) K41 rfl rfl rfl rfl (Opl.p1 (n := Opl.nil ?_))))))
  by_cases c2 : x3q3_1 < (l0.length : Int)
  case neg =>
   rw [if_neg c2] at H
   have e10 : (decide (x3q3_1 < (l0.length : Int))) = false := by simpa using c2
   try rw [e10]
   refine Evr.condF rfl (Evr.exit rfl (Evr.sr rfl (Opl.p1 (n := Opl.p1 (n := Opl.nil ?_)))))
   obtain rfl := Option.some.inj H
   refine Evr.ret1 Try.func113 rfl ?_
   exact ⟨h1, fun _ h => h, h2⟩
  rw [if_pos c2] at H
  have e3 : (decide (x3q3_1 < (l0.length : Int))) = true := by simpa using c2
  try rw [e3]
  refine Evr.condT rfl (Evr.skip (Evr.seq (Evr.block (Evr.seq (Evr.regionD rfl (by kernel_rfl) (Opl.p1 (n := Opl.p1 (n := ?_))))))))
  obtain ⟨c3, H⟩ := peel H
  obtain ⟨c4, H⟩ := peel H
  obtain ⟨c5, H⟩ := peel H
  obtain ⟨c6, H⟩ := peel H
  refine Opl.idv (M := (cInt .i64)) (xs := l0) (j := x3q3_1) (v := v0) h1 rfl rfl (by omega) (by omega) K41 Z3 rfl rfl ?_
  rintro d1 z1 q1 h3 h4
  refine Opl.ldv (M := (cInt .i64)) (xs := l0) (j := x3q3_1) (0 : Int) h3 h4 (by omega) (by omega) rfl T3 rfl rfl rfl ?_
  rintro p1 q2 h5
  obtain rfl : p1 = [.lit (.int .i64 (rd l0 x3q3_1))] := h5
  refine ⟨.lit (.int .i64 (rd l0 x3q3_1)), rfl, ?_⟩
  refine Opl.p1 (n := Opl.p1 (n := Opl.subi (k := .i64) (a := x3q3_1) (b := 1) K3 rfl rfl rfl rfl (Opl.idv (M := (cInt .i64)) (xs := l0) (j := (wrap64 (x3q3_1 - 1))) (v := v0) h1 rfl rfl (by omega) (by omega) K41 Z3 rfl rfl ?_)))
  rintro d2 z2 q3 h6 h7
  refine Opl.ldv (M := (cInt .i64)) (xs := l0) (j := (wrap64 (x3q3_1 - 1))) (0 : Int) h6 h7 (by omega) (by omega) rfl T3 rfl rfl rfl ?_
  rintro p2 q4 h8
  obtain rfl : p2 = [.lit (.int .i64 (rd l0 (wrap64 (x3q3_1 - 1))))] := h8
  refine ⟨.lit (.int .i64 (rd l0 (wrap64 (x3q3_1 - 1)))), rfl, ?_⟩
  refine Opl.eql (a := (rd l0 x3q3_1)) (b := (rd l0 (wrap64 (x3q3_1 - 1)))) K3 rfl rfl rfl rfl (Opl.nil ?_)
  by_cases c7 : (rd l0 x3q3_1) = (rd l0 (wrap64 (x3q3_1 - 1)))
  case neg =>
   rw [if_neg c7] at H
   have e9 : ((rd l0 x3q3_1) == (rd l0 (wrap64 (x3q3_1 - 1)))) = false := by simpa using c7
   try rw [e9]
   refine Evr.condF rfl (Evr.skip (Evr.inBlock (Evr.regionN rfl (Opl.one (v := .lit (.int .i64 x3q3_1)) rfl rfl rfl (Opl.add (k := .i64) (a := x3q3_1) (b := 1) K3 rfl rfl rfl rfl (Opl.one (v := .lit (.int .i64 (wrap64 (x3q3_1 + 1)))) rfl rfl rfl (Opl.nil ?_)))))))
   exact ih1 _ (by omega) _ _ ⟨by omega, _, H, ⟨rfl, rfl, trivial⟩, h1, h2⟩
  rw [if_pos c7] at H
  have e4 : ((rd l0 x3q3_1) == (rd l0 (wrap64 (x3q3_1 - 1)))) = true := by simpa using c7
  try rw [e4]
  refine Evr.condT rfl (Evr.sr rfl (Opl.one (v := v0) rfl rfl rfl (Opl.one (v := .lit (.int .i64 x3q3_1)) rfl rfl rfl ?_)))
  obtain ⟨c8, H⟩ := peel H
  obtain ⟨c9, H⟩ := peel H
  obtain ⟨c10, H⟩ := peel H
  refine Opl.slcW (M := (cInt .i64)) (a := x3q3_1) h1 rfl rfl (by omega) (by omega) (by omega) K41 Z3 rfl rfl rfl ?_
  rintro w1 h9
  refine Opl.p1 (n := Opl.nil (Evr.seq (Evr.sr rfl (Opl.one (v := .lit (.int .i64 1)) rfl rfl rfl (Opl.nil (Evr.block ?_))))))
  refine Evr.loop (Evr.rounds (n := n1) (Inv := fun n tm S => n ≤ n1 ∧ ∃ (x0q4_1 : List Int) (x3q5_1 : Int) (x5q4_1 : Int), slices_Compact_int_int.l2 n x0q4_1 x3q5_1 x5q4_1 x3q3_1 = some r ∧ Has tm [(0, v0), (3, .lit (.int .i64 x3q5_1)), (4, w1), (5, .lit (.int .i64 x5q4_1))] ∧ Vec (cInt .i64) x0q4_1 v0 S ∧ Same S0 S (PV.id? v0).toList) ?_ ?_ ?_)
  · exact ⟨Nat.le_refl _, _, _, _, H, ⟨rfl, rfl, rfl, rfl, trivial⟩, h1, h2⟩
  ·
   rintro tm S ⟨_, _, _, _, H, -⟩
   simp [slices_Compact_int_int.l2] at H
  ·
   rintro n2 ih2 tm S ⟨hle, x0q4_1, x3q5_1, x5q4_1, H, hh, h10, h11⟩
   simp only [slices_Compact_int_int.l2] at H
   rw [hh.eq]
   refine Evr.seq (Evr.sr rfl (Opl.p1 (n := Opl.p1 (n := Opl.lenw (M := (cInt .i64)) (xs := x0q4_1) (a := (x3q3_1 : Int).toNat) h10 h9 rfl K41 rfl rfl rfl rfl (Opl.p1 (n := Opl.nil ?_))))))
   by_cases c11 : x5q4_1 < ((x0q4_1.length - (x3q3_1 : Int).toNat : Nat) : Int)
   case neg =>
    rw [if_neg c11] at H
    have e8 : (decide (x5q4_1 < ((x0q4_1.length - (x3q3_1 : Int).toNat : Nat) : Int))) = false := by simpa using c11
    try rw [e8]
    refine Evr.condF rfl (Evr.exit rfl (Evr.sr rfl (Opl.p1 (n := Opl.p1 (n := ?_)))))
    obtain ⟨c21, H⟩ := peel H
    obtain ⟨c22, H⟩ := peel H
    obtain ⟨c23, H⟩ := peel H
    obtain ⟨c24, H⟩ := peel H
    obtain ⟨c25, H⟩ := peel H
    obtain ⟨c26, H⟩ := peel H
    refine Opl.slcW (M := (cInt .i64)) (a := x3q5_1) h10 rfl rfl (by omega) (by omega) (by omega) K41 Z3 rfl rfl rfl ?_
    rintro w2 h27
    refine Opl.clearw (M := (cInt .i64)) (xs := x0q4_1) (a := x3q5_1) (0 : Int) h10 h27 (by exact rfl) (oInt .i64) rfl K41 T3 rfl rfl rfl rfl rfl ?_
    rintro S h28 u2
    have h29 := u2.sameP h11 OutT.self
    refine Opl.nil (Evr.sr rfl (Opl.p1 (n := Opl.p1 (n := Opl.slcP (M := (cInt .i64)) (b := x3q5_1) h28 rfl rfl (by omega) (by omega) (by omega) K41 Z3 rfl rfl rfl ?_))))
    rintro w3 h30
    refine Opl.p1 (n := Opl.nil ?_)
    refine Evr.cut (M := (cInt .i64)) (xs := (x0q4_1.take (x3q5_1 : Int).toNat ++ List.replicate (x0q4_1.length - (x3q5_1 : Int).toNat) (0 : Int))) h30 h28 fun S h31 u3 b1 => ?_
    have h32 := u3.sameP h29 OutT.self
    obtain rfl := Option.some.inj H
    refine Evr.ret1 Try.func113 rfl ?_
    exact ⟨h31, b1, h32⟩
   rw [if_pos c11] at H
   have e5 : (decide (x5q4_1 < ((x0q4_1.length - (x3q3_1 : Int).toNat : Nat) : Int))) = true := by simpa using c11
   try rw [e5]
   refine Evr.condT rfl (Evr.skip (Evr.seq (Evr.block (Evr.seq (Evr.regionD rfl (by kernel_rfl) (Opl.p1 (n := Opl.p1 (n := ?_))))))))
   obtain ⟨c12, H⟩ := peel H
   obtain ⟨c13, H⟩ := peel H
   obtain ⟨c14, H⟩ := peel H
   obtain ⟨c15, H⟩ := peel H
   refine Opl.idw (M := (cInt .i64)) (xs := x0q4_1) (a := x3q3_1) (j := x5q4_1) (v := v0) h10 h9 (by omega) rfl rfl (by omega) (by omega) K41 Z3 rfl rfl ?_
   rintro d3 z3 q5 h12 h13
   refine Opl.ldv (M := (cInt .i64)) (xs := x0q4_1) (j := x3q3_1 + x5q4_1) (0 : Int) h12 h13 (by omega) (by omega) rfl T3 rfl rfl rfl ?_
   rintro p3 q6 h14
   obtain rfl : p3 = [.lit (.int .i64 (rd x0q4_1 (x3q3_1 + x5q4_1)))] := h14
   refine ⟨.lit (.int .i64 (rd x0q4_1 (x3q3_1 + x5q4_1))), rfl, ?_⟩
   refine Opl.p1 (n := Opl.p1 (n := Opl.subi (k := .i64) (a := x5q4_1) (b := 1) K3 rfl rfl rfl rfl (Opl.idw (M := (cInt .i64)) (xs := x0q4_1) (a := x3q3_1) (j := (wrap64 (x5q4_1 - 1))) (v := v0) h10 h9 (by omega) rfl rfl (by omega) (by omega) K41 Z3 rfl rfl ?_)))
   rintro d4 z4 q7 h15 h16
   refine Opl.ldv (M := (cInt .i64)) (xs := x0q4_1) (j := x3q3_1 + (wrap64 (x5q4_1 - 1))) (0 : Int) h15 h16 (by omega) (by omega) rfl T3 rfl rfl rfl ?_
   rintro p4 q8 h17
   obtain rfl : p4 = [.lit (.int .i64 (rd x0q4_1 (x3q3_1 + (wrap64 (x5q4_1 - 1)))))] := h17
   refine ⟨.lit (.int .i64 (rd x0q4_1 (x3q3_1 + (wrap64 (x5q4_1 - 1))))), rfl, ?_⟩
   refine Opl.neq (a := (rd x0q4_1 (x3q3_1 + x5q4_1))) (b := (rd x0q4_1 (x3q3_1 + (wrap64 (x5q4_1 - 1))))) K3 rfl rfl rfl rfl (Opl.nil ?_)
   refine Evr.join (fun tm S => ∃ (kq1 : Nat) (x0q4_2 : List Int) (x3q5_2 : Int), slices_Compact_int_int.l2 kq1 x0q4_2 x3q5_2 (wrap64 (x5q4_1 + 1)) x3q3_1 = some r ∧ kq1 ≤ n2 ∧ Has tm [(0, v0), (3, .lit (.int .i64 x3q5_2)), (4, w1), (5, .lit (.int .i64 x5q4_1))] ∧ Vec (cInt .i64) x0q4_2 v0 S ∧ Same S0 S (PV.id? v0).toList) ?_ fun hk1 => ?_
   ·
    rintro tm S ⟨kq1, x0q4_2, x3q5_2, H, hle, hh, h18, h19⟩
    rw [hh.eq]
    refine Evr.inBlock (Evr.regionN rfl (Opl.p1 (n := Opl.add (k := .i64) (a := x5q4_1) (b := 1) K3 rfl rfl rfl rfl (Opl.one (v := .lit (.int .i64 (wrap64 (x5q4_1 + 1)))) rfl rfl rfl (Opl.nil ?_)))))
    exact ih2 _ (by omega) _ _ ⟨by omega, _, _, _, H, ⟨rfl, rfl, rfl, rfl, trivial⟩, h18, h19⟩
   ·
    by_cases c16 : (rd x0q4_1 (x3q3_1 + x5q4_1)) ≠ (rd x0q4_1 (x3q3_1 + (wrap64 (x5q4_1 - 1))))
    case neg =>
     rw [if_neg c16] at H
     have e7 : ((rd x0q4_1 (x3q3_1 + x5q4_1)) != (rd x0q4_1 (x3q3_1 + (wrap64 (x5q4_1 - 1))))) = false := by simpa using c16
     try rw [e7]
     refine Evr.condF rfl (Evr.skip ?_)
     exact hk1 _ _ ⟨_, _, _, H, by omega, ⟨rfl, rfl, rfl, rfl, trivial⟩, h10, h11⟩
    rw [if_pos c16] at H
    have e6 : ((rd x0q4_1 (x3q3_1 + x5q4_1)) != (rd x0q4_1 (x3q3_1 + (wrap64 (x5q4_1 - 1))))) = true := by simpa using c16
    try rw [e6]
    refine Evr.condT rfl (Evr.sr rfl (Opl.one (v := v0) rfl rfl rfl (Opl.one (v := .lit (.int .i64 x3q5_1)) rfl rfl rfl (Opl.p1 (n := Opl.one (v := .lit (.int .i64 x5q4_1)) rfl rfl rfl ?_)))))
    obtain ⟨c17, H⟩ := peel H
    obtain ⟨c18, H⟩ := peel H
    obtain ⟨c19, H⟩ := peel H
    obtain ⟨c20, H⟩ := peel H
    refine Opl.idw (M := (cInt .i64)) (xs := x0q4_1) (a := x3q3_1) (j := x5q4_1) (v := v0) h10 h9 (by omega) rfl rfl (by omega) (by omega) K41 Z3 rfl rfl ?_
    rintro d5 z5 q9 h20 h21
    refine Opl.ldv (M := (cInt .i64)) (xs := x0q4_1) (j := x3q3_1 + x5q4_1) (0 : Int) h20 h21 (by omega) (by omega) rfl T3 rfl rfl rfl ?_
    rintro p5 q10 h22
    obtain rfl : p5 = [.lit (.int .i64 (rd x0q4_1 (x3q3_1 + x5q4_1)))] := h22
    refine ⟨.lit (.int .i64 (rd x0q4_1 (x3q3_1 + x5q4_1))), rfl, ?_⟩
    refine Opl.idv (M := (cInt .i64)) (xs := x0q4_1) (j := x3q5_1) (v := v0) h10 rfl rfl (by omega) (by omega) K41 Z3 rfl rfl ?_
    rintro d6 z6 q11 h23 h24
    refine Opl.stv (M := (cInt .i64)) (xs := x0q4_1) (j := x3q5_1) (y := (rd x0q4_1 (x3q3_1 + x5q4_1))) (vs := [.lit (.int .i64 (rd x0q4_1 (x3q3_1 + x5q4_1)))]) h23 h24 (by omega) (by omega) rfl rfl (by exact rfl) Z3 rfl rfl rfl rfl ?_
    rw [← q11]
    rintro S h25 u1
    have h26 := u1.sameP h11 OutT.self
    refine Opl.nil (Evr.regionN rfl (Opl.one (v := .lit (.int .i64 x3q5_1)) rfl rfl rfl (Opl.add (k := .i64) (a := x3q5_1) (b := 1) K3 rfl rfl rfl rfl (Opl.one (v := .lit (.int .i64 (wrap64 (x3q5_1 + 1)))) rfl rfl rfl (Opl.nil ?_)))))
    exact hk1 _ _ ⟨_, _, _, H, by omega, ⟨rfl, rfl, rfl, rfl, trivial⟩, h25, h26⟩
theorem math_bits_Len64.ev {k : Nat} {a0 : Int} {r : Int} (H : math_bits_Len64.f k a0 = some r) : Ret Try.prog 139 [.lit (.int .u64 a0)] fun v S => v = .lit (.int .i64 r) := by
 unfold math_bits_Len64.f at H
 refine Ret.intro Try.func139 rfl (Nat.le_of_ble_eq_true rfl) rfl ?_
 rw [tm1]
 refine Evr.sr rfl (Opl.p1 (n := Opl.nil (Evr.seq (Evr.sr rfl (Opl.p1 (n := Opl.p1 (n := Opl.nil ?_)))))))
 by_cases c1 : a0 ≥ 4294967296
 case neg =>
  rw [if_neg c1] at H
  have e8 : (decide (a0 ≥ 4294967296)) = false := by simpa using c1
  try rw [e8]
  refine Evr.condF rfl (Evr.skip (Evr.seq (Evr.sr rfl (Opl.p1 (n := Opl.p1 (n := Opl.nil ?_))))))
  obtain _ | k8 := k
  · simp [math_bits_Len64.j1] at H
  simp only [math_bits_Len64.j1] at H
  by_cases c13 : a0 ≥ 65536
  case neg =>
   rw [if_neg c13] at H
   have e12 : (decide (a0 ≥ 65536)) = false := by simpa using c13
   try rw [e12]
   refine Evr.condF rfl (Evr.skip (Evr.seq (Evr.sr rfl (Opl.p1 (n := Opl.p1 (n := Opl.nil ?_))))))
   obtain _ | k12 := k8
   · simp [math_bits_Len64.j2] at H
   simp only [math_bits_Len64.j2] at H
   by_cases c19 : a0 ≥ 256
   case neg =>
    rw [if_neg c19] at H
    have e14 : (decide (a0 ≥ 256)) = false := by simpa using c19
    try rw [e14]
    refine Evr.condF rfl (Evr.skip (Evr.sr rfl (Opl.p1 (n := Opl.p1 (n := Opl.p1 (v := .lit (.int .u8 (IntKind.u8.wrap a0))) (n := ?_))))))
    obtain _ | k14 := k12
    · simp [math_bits_Len64.j3] at H
    simp only [math_bits_Len64.j3] at H
    obtain ⟨c22, H⟩ := peel H
    obtain ⟨c23, H⟩ := peel H
    refine Opl.ixs (s := len8tab) (r := lenAt len8tab (IntKind.u8.wrap a0)) (j := IntKind.u8.wrap a0) rfl rfl (by omega) (by assumption) rfl K9 rfl rfl (Opl.p1 (v := .lit (.int .i64 (wrap64 (lenAt len8tab (IntKind.u8.wrap a0))))) (n := Opl.add (k := .i64) (a := 0) (b := wrap64 (lenAt len8tab (IntKind.u8.wrap a0))) K3 rfl rfl rfl rfl (Opl.one (v := .lit (.int .i64 (wrap64 (0 + (wrap64 (lenAt len8tab (IntKind.u8.wrap a0))))))) rfl rfl rfl (Opl.nil ?_))))
    obtain rfl := Option.some.inj H
    refine Evr.ret1 Try.func139 rfl ?_
    show (.lit (.int .i64 (wrap64 (0 + (wrap64 (lenAt len8tab (IntKind.u8.wrap a0)))))) : PV) = _
    first | rfl | (simp only [go_sem]; rfl)
   rw [if_pos c19] at H
   have e13 : (decide (a0 ≥ 256)) = true := by simpa using c19
   try rw [e13]
   refine Evr.condT rfl (Evr.sr rfl (Opl.p1 (n := ?_)))
   obtain _ | k13 := k12
   · simp [math_bits_Len64.j3] at H
   simp only [math_bits_Len64.j3] at H
   obtain ⟨c20, H⟩ := peel H
   obtain ⟨c21, H⟩ := peel H
   refine Opl.one (v := .lit (.int .u64 (shr .u64 a0 8))) rfl rfl (by simp only [go_sem]; rw [if_neg (by omega), fdiv_pow]; simp only [shr, w64, IntKind.bits]; rfl) (Opl.p1 (n := Opl.nil (Evr.regionN rfl (Opl.p1 (n := Opl.add (k := .i64) (a := 0) (b := 8) K3 rfl rfl rfl rfl (Opl.one (v := .lit (.int .i64 (wrap64 (0 + 8)))) rfl rfl rfl (Opl.nil (Evr.sr rfl (Opl.one (v := .lit (.int .i64 (wrap64 (0 + 8)))) rfl rfl rfl (Opl.one (v := .lit (.int .u64 (shr .u64 a0 8))) rfl rfl rfl (Opl.p1 (v := .lit (.int .u8 (IntKind.u8.wrap (shr .u64 a0 8)))) (n := Opl.ixs (s := len8tab) (r := lenAt len8tab (IntKind.u8.wrap (shr .u64 a0 8))) (j := IntKind.u8.wrap (shr .u64 a0 8)) rfl rfl (by omega) (by assumption) rfl K9 rfl rfl (Opl.p1 (v := .lit (.int .i64 (wrap64 (lenAt len8tab (IntKind.u8.wrap (shr .u64 a0 8)))))) (n := Opl.add (k := .i64) (a := (wrap64 (0 + 8))) (b := wrap64 (lenAt len8tab (IntKind.u8.wrap (shr .u64 a0 8)))) K3 rfl rfl rfl rfl (Opl.one (v := .lit (.int .i64 (wrap64 ((wrap64 (0 + 8)) + (wrap64 (lenAt len8tab (IntKind.u8.wrap (shr .u64 a0 8)))))))) rfl rfl rfl (Opl.nil ?_))))))))))))))))
   obtain rfl := Option.some.inj H
   refine Evr.ret1 Try.func139 rfl ?_
   show (.lit (.int .i64 (wrap64 ((wrap64 (0 + 8)) + (wrap64 (lenAt len8tab (IntKind.u8.wrap (shr .u64 a0 8))))))) : PV) = _
   first | rfl | (simp only [go_sem]; rfl)
  rw [if_pos c13] at H
  have e9 : (decide (a0 ≥ 65536)) = true := by simpa using c13
  try rw [e9]
  refine Evr.condT rfl (Evr.sr rfl (Opl.p1 (n := ?_)))
  obtain _ | k9 := k8
  · simp [math_bits_Len64.j2] at H
  simp only [math_bits_Len64.j2] at H
  refine Opl.one (v := .lit (.int .u64 (shr .u64 a0 16))) rfl rfl (by simp only [go_sem]; rw [if_neg (by omega), fdiv_pow]; simp only [shr, w64, IntKind.bits]; rfl) (Opl.p1 (n := Opl.nil (Evr.regionN rfl (Opl.p1 (n := Opl.add (k := .i64) (a := 0) (b := 16) K3 rfl rfl rfl rfl (Opl.one (v := .lit (.int .i64 (wrap64 (0 + 16)))) rfl rfl rfl (Opl.nil (Evr.seq (Evr.sr rfl (Opl.one (v := .lit (.int .u64 (shr .u64 a0 16))) rfl rfl rfl (Opl.p1 (n := Opl.nil ?_))))))))))))
  by_cases c14 : (shr .u64 a0 16) ≥ 256
  case neg =>
   rw [if_neg c14] at H
   have e11 : (decide ((shr .u64 a0 16) ≥ 256)) = false := by simpa using c14
   try rw [e11]
   refine Evr.condF rfl (Evr.skip (Evr.sr rfl (Opl.one (v := .lit (.int .i64 (wrap64 (0 + 16)))) rfl rfl rfl (Opl.one (v := .lit (.int .u64 (shr .u64 a0 16))) rfl rfl rfl (Opl.p1 (v := .lit (.int .u8 (IntKind.u8.wrap (shr .u64 a0 16)))) (n := ?_))))))
   obtain _ | k11 := k9
   · simp [math_bits_Len64.j3] at H
   simp only [math_bits_Len64.j3] at H
   obtain ⟨c17, H⟩ := peel H
   obtain ⟨c18, H⟩ := peel H
   refine Opl.ixs (s := len8tab) (r := lenAt len8tab (IntKind.u8.wrap (shr .u64 a0 16))) (j := IntKind.u8.wrap (shr .u64 a0 16)) rfl rfl (by omega) (by assumption) rfl K9 rfl rfl (Opl.p1 (v := .lit (.int .i64 (wrap64 (lenAt len8tab (IntKind.u8.wrap (shr .u64 a0 16)))))) (n := Opl.add (k := .i64) (a := (wrap64 (0 + 16))) (b := wrap64 (lenAt len8tab (IntKind.u8.wrap (shr .u64 a0 16)))) K3 rfl rfl rfl rfl (Opl.one (v := .lit (.int .i64 (wrap64 ((wrap64 (0 + 16)) + (wrap64 (lenAt len8tab (IntKind.u8.wrap (shr .u64 a0 16)))))))) rfl rfl rfl (Opl.nil ?_))))
   obtain rfl := Option.some.inj H
   refine Evr.ret1 Try.func139 rfl ?_
   show (.lit (.int .i64 (wrap64 ((wrap64 (0 + 16)) + (wrap64 (lenAt len8tab (IntKind.u8.wrap (shr .u64 a0 16))))))) : PV) = _
   first | rfl | (simp only [go_sem]; rfl)
  rw [if_pos c14] at H
  have e10 : (decide ((shr .u64 a0 16) ≥ 256)) = true := by simpa using c14
  try rw [e10]
  refine Evr.condT rfl (Evr.sr rfl (Opl.one (v := .lit (.int .u64 (shr .u64 a0 16))) rfl rfl rfl ?_))
  obtain _ | k10 := k9
  · simp [math_bits_Len64.j3] at H
  simp only [math_bits_Len64.j3] at H
  obtain ⟨c15, H⟩ := peel H
  obtain ⟨c16, H⟩ := peel H
  refine Opl.one (v := .lit (.int .u64 (shr .u64 (shr .u64 a0 16) 8))) rfl rfl (by simp only [go_sem]; rw [if_neg (by omega), fdiv_pow]; simp only [shr, w64, IntKind.bits]; rfl) (Opl.one (v := .lit (.int .u64 (shr .u64 (shr .u64 a0 16) 8))) rfl rfl rfl (Opl.nil (Evr.regionN rfl (Opl.one (v := .lit (.int .i64 (wrap64 (0 + 16)))) rfl rfl rfl (Opl.add (k := .i64) (a := (wrap64 (0 + 16))) (b := 8) K3 rfl rfl rfl rfl (Opl.one (v := .lit (.int .i64 (wrap64 ((wrap64 (0 + 16)) + 8)))) rfl rfl rfl (Opl.nil (Evr.sr rfl (Opl.one (v := .lit (.int .i64 (wrap64 ((wrap64 (0 + 16)) + 8)))) rfl rfl rfl (Opl.one (v := .lit (.int .u64 (shr .u64 (shr .u64 a0 16) 8))) rfl rfl rfl (Opl.p1 (v := .lit (.int .u8 (IntKind.u8.wrap (shr .u64 (shr .u64 a0 16) 8)))) (n := Opl.ixs (s := len8tab) (r := lenAt len8tab (IntKind.u8.wrap (shr .u64 (shr .u64 a0 16) 8))) (j := IntKind.u8.wrap (shr .u64 (shr .u64 a0 16) 8)) rfl rfl (by omega) (by assumption) rfl K9 rfl rfl (Opl.p1 (v := .lit (.int .i64 (wrap64 (lenAt len8tab (IntKind.u8.wrap (shr .u64 (shr .u64 a0 16) 8)))))) (n := Opl.add (k := .i64) (a := (wrap64 ((wrap64 (0 + 16)) + 8))) (b := wrap64 (lenAt len8tab (IntKind.u8.wrap (shr .u64 (shr .u64 a0 16) 8)))) K3 rfl rfl rfl rfl (Opl.one (v := .lit (.int .i64 (wrap64 ((wrap64 ((wrap64 (0 + 16)) + 8)) + (wrap64 (lenAt len8tab (IntKind.u8.wrap (shr .u64 (shr .u64 a0 16) 8)))))))) rfl rfl rfl (Opl.nil ?_))))))))))))))))
  obtain rfl := Option.some.inj H
  refine Evr.ret1 Try.func139 rfl ?_
  show (.lit (.int .i64 (wrap64 ((wrap64 ((wrap64 (0 + 16)) + 8)) + (wrap64 (lenAt len8tab (IntKind.u8.wrap (shr .u64 (shr .u64 a0 16) 8))))))) : PV) = _
  first | rfl | (simp only [go_sem]; rfl)
 rw [if_pos c1] at H
 have e1 : (decide (a0 ≥ 4294967296)) = true := by simpa using c1
 try rw [e1]
 refine Evr.condT rfl (Evr.sr rfl (Opl.p1 (n := ?_)))
 obtain _ | k1 := k
 · simp [math_bits_Len64.j1] at H
 simp only [math_bits_Len64.j1] at H
 refine Opl.one (v := .lit (.int .u64 (shr .u64 a0 32))) rfl rfl (by simp only [go_sem]; rw [if_neg (by omega), fdiv_pow]; simp only [shr, w64, IntKind.bits]; rfl) (Opl.p1 (n := Opl.nil (Evr.regionN rfl (Opl.p1 (n := Opl.nil (Evr.seq (Evr.sr rfl (Opl.p1 (n := Opl.p1 (n := Opl.nil ?_))))))))))
 by_cases c2 : (shr .u64 a0 32) ≥ 65536
 case neg =>
  rw [if_neg c2] at H
  have e5 : (decide ((shr .u64 a0 32) ≥ 65536)) = false := by simpa using c2
  try rw [e5]
  refine Evr.condF rfl (Evr.skip (Evr.seq (Evr.sr rfl (Opl.p1 (n := Opl.p1 (n := Opl.nil ?_))))))
  obtain _ | k5 := k1
  · simp [math_bits_Len64.j2] at H
  simp only [math_bits_Len64.j2] at H
  by_cases c8 : (shr .u64 a0 32) ≥ 256
  case neg =>
   rw [if_neg c8] at H
   have e7 : (decide ((shr .u64 a0 32) ≥ 256)) = false := by simpa using c8
   try rw [e7]
   refine Evr.condF rfl (Evr.skip (Evr.sr rfl (Opl.p1 (n := Opl.p1 (n := Opl.p1 (v := .lit (.int .u8 (IntKind.u8.wrap (shr .u64 a0 32)))) (n := ?_))))))
   obtain _ | k7 := k5
   · simp [math_bits_Len64.j3] at H
   simp only [math_bits_Len64.j3] at H
   obtain ⟨c11, H⟩ := peel H
   obtain ⟨c12, H⟩ := peel H
   refine Opl.ixs (s := len8tab) (r := lenAt len8tab (IntKind.u8.wrap (shr .u64 a0 32))) (j := IntKind.u8.wrap (shr .u64 a0 32)) rfl rfl (by omega) (by assumption) rfl K9 rfl rfl (Opl.p1 (v := .lit (.int .i64 (wrap64 (lenAt len8tab (IntKind.u8.wrap (shr .u64 a0 32)))))) (n := Opl.add (k := .i64) (a := 32) (b := wrap64 (lenAt len8tab (IntKind.u8.wrap (shr .u64 a0 32)))) K3 rfl rfl rfl rfl (Opl.one (v := .lit (.int .i64 (wrap64 (32 + (wrap64 (lenAt len8tab (IntKind.u8.wrap (shr .u64 a0 32)))))))) rfl rfl rfl (Opl.nil ?_))))
   obtain rfl := Option.some.inj H
   refine Evr.ret1 Try.func139 rfl ?_
   show (.lit (.int .i64 (wrap64 (32 + (wrap64 (lenAt len8tab (IntKind.u8.wrap (shr .u64 a0 32))))))) : PV) = _
   first | rfl | (simp only [go_sem]; rfl)
  rw [if_pos c8] at H
  have e6 : (decide ((shr .u64 a0 32) ≥ 256)) = true := by simpa using c8
  try rw [e6]
  refine Evr.condT rfl (Evr.sr rfl (Opl.p1 (n := ?_)))
  obtain _ | k6 := k5
  · simp [math_bits_Len64.j3] at H
  simp only [math_bits_Len64.j3] at H
  obtain ⟨c9, H⟩ := peel H
  obtain ⟨c10, H⟩ := peel H
  refine Opl.one (v := .lit (.int .u64 (shr .u64 (shr .u64 a0 32) 8))) rfl rfl (by simp only [go_sem]; rw [if_neg (by omega), fdiv_pow]; simp only [shr, w64, IntKind.bits]; rfl) (Opl.p1 (n := Opl.nil (Evr.regionN rfl (Opl.p1 (n := Opl.add (k := .i64) (a := 32) (b := 8) K3 rfl rfl rfl rfl (Opl.one (v := .lit (.int .i64 (wrap64 (32 + 8)))) rfl rfl rfl (Opl.nil (Evr.sr rfl (Opl.one (v := .lit (.int .i64 (wrap64 (32 + 8)))) rfl rfl rfl (Opl.one (v := .lit (.int .u64 (shr .u64 (shr .u64 a0 32) 8))) rfl rfl rfl (Opl.p1 (v := .lit (.int .u8 (IntKind.u8.wrap (shr .u64 (shr .u64 a0 32) 8)))) (n := Opl.ixs (s := len8tab) (r := lenAt len8tab (IntKind.u8.wrap (shr .u64 (shr .u64 a0 32) 8))) (j := IntKind.u8.wrap (shr .u64 (shr .u64 a0 32) 8)) rfl rfl (by omega) (by assumption) rfl K9 rfl rfl (Opl.p1 (v := .lit (.int .i64 (wrap64 (lenAt len8tab (IntKind.u8.wrap (shr .u64 (shr .u64 a0 32) 8)))))) (n := Opl.add (k := .i64) (a := (wrap64 (32 + 8))) (b := wrap64 (lenAt len8tab (IntKind.u8.wrap (shr .u64 (shr .u64 a0 32) 8)))) K3 rfl rfl rfl rfl (Opl.one (v := .lit (.int .i64 (wrap64 ((wrap64 (32 + 8)) + (wrap64 (lenAt len8tab (IntKind.u8.wrap (shr .u64 (shr .u64 a0 32) 8)))))))) rfl rfl rfl (Opl.nil ?_))))))))))))))))
  obtain rfl := Option.some.inj H
  refine Evr.ret1 Try.func139 rfl ?_
  show (.lit (.int .i64 (wrap64 ((wrap64 (32 + 8)) + (wrap64 (lenAt len8tab (IntKind.u8.wrap (shr .u64 (shr .u64 a0 32) 8))))))) : PV) = _
  first | rfl | (simp only [go_sem]; rfl)
 rw [if_pos c2] at H
 have e2 : (decide ((shr .u64 a0 32) ≥ 65536)) = true := by simpa using c2
 try rw [e2]
 refine Evr.condT rfl (Evr.sr rfl (Opl.p1 (n := ?_)))
 obtain _ | k2 := k1
 · simp [math_bits_Len64.j2] at H
 simp only [math_bits_Len64.j2] at H
 refine Opl.one (v := .lit (.int .u64 (shr .u64 (shr .u64 a0 32) 16))) rfl rfl (by simp only [go_sem]; rw [if_neg (by omega), fdiv_pow]; simp only [shr, w64, IntKind.bits]; rfl) (Opl.p1 (n := Opl.nil (Evr.regionN rfl (Opl.p1 (n := Opl.add (k := .i64) (a := 32) (b := 16) K3 rfl rfl rfl rfl (Opl.one (v := .lit (.int .i64 (wrap64 (32 + 16)))) rfl rfl rfl (Opl.nil (Evr.seq (Evr.sr rfl (Opl.one (v := .lit (.int .u64 (shr .u64 (shr .u64 a0 32) 16))) rfl rfl rfl (Opl.p1 (n := Opl.nil ?_))))))))))))
 by_cases c3 : (shr .u64 (shr .u64 a0 32) 16) ≥ 256
 case neg =>
  rw [if_neg c3] at H
  have e4 : (decide ((shr .u64 (shr .u64 a0 32) 16) ≥ 256)) = false := by simpa using c3
  try rw [e4]
  refine Evr.condF rfl (Evr.skip (Evr.sr rfl (Opl.one (v := .lit (.int .i64 (wrap64 (32 + 16)))) rfl rfl rfl (Opl.one (v := .lit (.int .u64 (shr .u64 (shr .u64 a0 32) 16))) rfl rfl rfl (Opl.p1 (v := .lit (.int .u8 (IntKind.u8.wrap (shr .u64 (shr .u64 a0 32) 16)))) (n := ?_))))))
  obtain _ | k4 := k2
  · simp [math_bits_Len64.j3] at H
  simp only [math_bits_Len64.j3] at H
  obtain ⟨c6, H⟩ := peel H
  obtain ⟨c7, H⟩ := peel H
  refine Opl.ixs (s := len8tab) (r := lenAt len8tab (IntKind.u8.wrap (shr .u64 (shr .u64 a0 32) 16))) (j := IntKind.u8.wrap (shr .u64 (shr .u64 a0 32) 16)) rfl rfl (by omega) (by assumption) rfl K9 rfl rfl (Opl.p1 (v := .lit (.int .i64 (wrap64 (lenAt len8tab (IntKind.u8.wrap (shr .u64 (shr .u64 a0 32) 16)))))) (n := Opl.add (k := .i64) (a := (wrap64 (32 + 16))) (b := wrap64 (lenAt len8tab (IntKind.u8.wrap (shr .u64 (shr .u64 a0 32) 16)))) K3 rfl rfl rfl rfl (Opl.one (v := .lit (.int .i64 (wrap64 ((wrap64 (32 + 16)) + (wrap64 (lenAt len8tab (IntKind.u8.wrap (shr .u64 (shr .u64 a0 32) 16)))))))) rfl rfl rfl (Opl.nil ?_))))
  obtain rfl := Option.some.inj H
  refine Evr.ret1 Try.func139 rfl ?_
  show (.lit (.int .i64 (wrap64 ((wrap64 (32 + 16)) + (wrap64 (lenAt len8tab (IntKind.u8.wrap (shr .u64 (shr .u64 a0 32) 16))))))) : PV) = _
  first | rfl | (simp only [go_sem]; rfl)
 rw [if_pos c3] at H
 have e3 : (decide ((shr .u64 (shr .u64 a0 32) 16) ≥ 256)) = true := by simpa using c3
 try rw [e3]
 refine Evr.condT rfl (Evr.sr rfl (Opl.one (v := .lit (.int .u64 (shr .u64 (shr .u64 a0 32) 16))) rfl rfl rfl ?_))
 obtain _ | k3 := k2
 · simp [math_bits_Len64.j3] at H
 simp only [math_bits_Len64.j3] at H
 obtain ⟨c4, H⟩ := peel H
 obtain ⟨c5, H⟩ := peel H
 refine Opl.one (v := .lit (.int .u64 (shr .u64 (shr .u64 (shr .u64 a0 32) 16) 8))) rfl rfl (by simp only [go_sem]; rw [if_neg (by omega), fdiv_pow]; simp only [shr, w64, IntKind.bits]; rfl) (Opl.one (v := .lit (.int .u64 (shr .u64 (shr .u64 (shr .u64 a0 32) 16) 8))) rfl rfl rfl (Opl.nil (Evr.regionN rfl (Opl.one (v := .lit (.int .i64 (wrap64 (32 + 16)))) rfl rfl rfl (Opl.add (k := .i64) (a := (wrap64 (32 + 16))) (b := 8) K3 rfl rfl rfl rfl (Opl.one (v := .lit (.int .i64 (wrap64 ((wrap64 (32 + 16)) + 8)))) rfl rfl rfl (Opl.nil (Evr.sr rfl (Opl.one (v := .lit (.int .i64 (wrap64 ((wrap64 (32 + 16)) + 8)))) rfl rfl rfl (Opl.one (v := .lit (.int .u64 (shr .u64 (shr .u64 (shr .u64 a0 32) 16) 8))) rfl rfl rfl (Opl.p1 (v := .lit (.int .u8 (IntKind.u8.wrap (shr .u64 (shr .u64 (shr .u64 a0 32) 16) 8)))) (n := Opl.ixs (s := len8tab) (r := lenAt len8tab (IntKind.u8.wrap (shr .u64 (shr .u64 (shr .u64 a0 32) 16) 8))) (j := IntKind.u8.wrap (shr .u64 (shr .u64 (shr .u64 a0 32) 16) 8)) rfl rfl (by omega) (by assumption) rfl K9 rfl rfl (Opl.p1 (v := .lit (.int .i64 (wrap64 (lenAt len8tab (IntKind.u8.wrap (shr .u64 (shr .u64 (shr .u64 a0 32) 16) 8)))))) (n := Opl.add (k := .i64) (a := (wrap64 ((wrap64 (32 + 16)) + 8))) (b := wrap64 (lenAt len8tab (IntKind.u8.wrap (shr .u64 (shr .u64 (shr .u64 a0 32) 16) 8)))) K3 rfl rfl rfl rfl (Opl.one (v := .lit (.int .i64 (wrap64 ((wrap64 ((wrap64 (32 + 16)) + 8)) + (wrap64 (lenAt len8tab (IntKind.u8.wrap (shr .u64 (shr .u64 (shr .u64 a0 32) 16) 8)))))))) rfl rfl rfl (Opl.nil ?_))))))))))))))))
 obtain rfl := Option.some.inj H
 refine Evr.ret1 Try.func139 rfl ?_
 show (.lit (.int .i64 (wrap64 ((wrap64 ((wrap64 (32 + 16)) + 8)) + (wrap64 (lenAt len8tab (IntKind.u8.wrap (shr .u64 (shr .u64 (shr .u64 a0 32) 16) 8))))))) : PV) = _
 first | rfl | (simp only [go_sem]; rfl)
theorem math_bits_Len.ev {k : Nat} {a0 : Int} {r : Int} (H : math_bits_Len.f k a0 = some r) : Ret Try.prog 127 [.lit (.int .u64 a0)] fun v S => v = .lit (.int .i64 r) := by
 unfold math_bits_Len.f at H
 refine Ret.intro Try.func127 rfl (Nat.le_of_ble_eq_true rfl) rfl ?_
 rw [tm1]
 refine Evr.sr rfl (Opl.p1 (n := Opl.nil (Evr.seq (Evr.condF rfl (Evr.skip (Evr.sr rfl (Opl.p1 (n := ?_))))))))
 obtain ⟨r1, h_r1, H⟩ := Option.bind_eq_some_iff.1 H
 refine Opl.callc (math_bits_Len64.ev h_r1) rfl rfl rfl rfl ⟨(.lit _), trivial⟩ (by decide) (Opl.p1 (n := Opl.nil ?_))
 obtain rfl := Option.some.inj H
 refine Evr.ret1 Try.func127 rfl ?_
 show (.lit (.int .i64 r1) : PV) = _
 first | rfl | (simp only [go_sem]; rfl)
theorem cmp_isNaN_int.ev {a0 : Int} {r : Bool} (H : cmp_isNaN_int.f a0 = some r) : Ret Try.prog 128 [.lit (.int .i64 a0)] fun v S => v = .lit (.bool r) := by
 unfold cmp_isNaN_int.f at H
 refine Ret.intro Try.func128 rfl (Nat.le_of_ble_eq_true rfl) rfl ?_
 rw [tm1]
 refine Evr.sr rfl (Opl.p1 (n := Opl.nil (Evr.sr rfl (Opl.p1 (n := Opl.p1 (n := Opl.p1 (n := Opl.p1 (n := Opl.nil ?_))))))))
 obtain rfl := Option.some.inj H
 refine Evr.ret1 Try.func128 rfl ?_
 show (.lit (.bool (a0 != a0)) : PV) = _
 first | rfl | (simp only [go_sem]; rfl)
theorem cmp_Compare_int.ev {k : Nat} {a0 : Int} {a1 : Int} {r : Int} (H : cmp_Compare_int.f k a0 a1 = some r) : Ret Try.prog 112 [.lit (.int .i64 a0), .lit (.int .i64 a1)] fun v S => v = .lit (.int .i64 r) := by
 unfold cmp_Compare_int.f at H
 refine Ret.intro Try.func112 rfl (Nat.le_of_ble_eq_true rfl) rfl ?_
 rw [tm2]
 refine Evr.sr rfl (Opl.p1 (n := Opl.nil (Evr.sr rfl (Opl.p1 (n := ?_)))))
 obtain ⟨r1, h_r1, H'⟩ := Option.bind_eq_some_iff.1 H; clear H; have H := H'; clear H'
 refine Opl.callc (cmp_isNaN_int.ev h_r1) rfl rfl rfl rfl ⟨(.lit _), trivial⟩ (by decide) (Opl.p1 (n := Opl.nil (Evr.sr rfl (Opl.p1 (n := ?_)))))
 obtain ⟨r2, h_r2, H'⟩ := Option.bind_eq_some_iff.1 H; clear H; have H := H'; clear H'
 refine Opl.callc (cmp_isNaN_int.ev h_r2) rfl rfl rfl rfl ⟨(.lit _), trivial⟩ (by decide) (Opl.p1 (n := Opl.nil (Evr.seq (Evr.sr rfl (Opl.p1 (n := Opl.nil ?_))))))
 by_cases c1 : r1 = true
 case pos =>
  rw [if_pos c1] at H
  obtain rfl : r1 = true := by simpa using c1
  refine Evr.condT rfl (Evr.seq (Evr.sr rfl (Opl.p1 (n := Opl.nil ?_))))
  by_cases c2 : r2 = true
  case pos =>
   rw [if_pos c2] at H
   obtain rfl : r2 = true := by simpa using c2
   refine Evr.condT rfl (Evr.sr rfl (Opl.p1 (n := Opl.nil ?_)))
   obtain rfl := Option.some.inj H
   refine Evr.ret1 Try.func112 rfl ?_
   show (.lit (.int .i64 0) : PV) = _
   first | rfl | (simp only [go_sem]; rfl)
  rw [if_neg c2] at H
  obtain rfl : r2 = false := by simpa using c2
  refine Evr.condF rfl (Evr.skip (Evr.sr rfl (Opl.p1 (n := Opl.nil ?_))))
  obtain rfl := Option.some.inj H
  refine Evr.ret1 Try.func112 rfl ?_
  show (.lit (.int .i64 (-1)) : PV) = _
  first | rfl | (simp only [go_sem]; rfl)
 rw [if_neg c1] at H
 obtain rfl : r1 = false := by simpa using c1
 refine Evr.condF rfl (Evr.skip (Evr.seq (Evr.sr rfl (Opl.p1 (n := Opl.nil ?_)))))
 by_cases c3 : r2 = true
 case pos =>
  rw [if_pos c3] at H
  obtain rfl : r2 = true := by simpa using c3
  refine Evr.condT rfl (Evr.sr rfl (Opl.p1 (n := Opl.nil ?_)))
  obtain rfl := Option.some.inj H
  refine Evr.ret1 Try.func112 rfl ?_
  show (.lit (.int .i64 1) : PV) = _
  first | rfl | (simp only [go_sem]; rfl)
 rw [if_neg c3] at H
 obtain rfl : r2 = false := by simpa using c3
 refine Evr.condF rfl (Evr.skip (Evr.seq (Evr.sr rfl (Opl.p1 (n := Opl.p1 (n := Opl.p1 (n := Opl.nil ?_)))))))
 by_cases c4 : a0 < a1
 case pos =>
  rw [if_pos c4] at H
  have e1 : (decide (a0 < a1)) = true := by simpa using c4
  try rw [e1]
  refine Evr.condT rfl (Evr.sr rfl (Opl.p1 (n := Opl.nil ?_)))
  obtain rfl := Option.some.inj H
  refine Evr.ret1 Try.func112 rfl ?_
  show (.lit (.int .i64 (-1)) : PV) = _
  first | rfl | (simp only [go_sem]; rfl)
 rw [if_neg c4] at H
 have e2 : (decide (a0 < a1)) = false := by simpa using c4
 try rw [e2]
 refine Evr.condF rfl (Evr.skip (Evr.seq (Evr.sr rfl (Opl.p1 (n := Opl.p1 (n := Opl.p1 (n := Opl.nil ?_)))))))
 by_cases c5 : a0 > a1
 case pos =>
  rw [if_pos c5] at H
  have e3 : (decide (a0 > a1)) = true := by simpa using c5
  try rw [e3]
  refine Evr.condT rfl (Evr.sr rfl (Opl.p1 (n := Opl.nil ?_)))
  obtain rfl := Option.some.inj H
  refine Evr.ret1 Try.func112 rfl ?_
  show (.lit (.int .i64 1) : PV) = _
  first | rfl | (simp only [go_sem]; rfl)
 rw [if_neg c5] at H
 have e4 : (decide (a0 > a1)) = false := by simpa using c5
 try rw [e4]
 refine Evr.condF rfl (Evr.skip (Evr.sr rfl (Opl.p1 (n := Opl.nil ?_))))
 obtain rfl := Option.some.inj H
 refine Evr.ret1 Try.func112 rfl ?_
 show (.lit (.int .i64 0) : PV) = _
 first | rfl | (simp only [go_sem]; rfl)
theorem cmp_Or_int.ev {k : Nat} {l0 : List Int} {v0 : PV} (hv0 : Sl (cInt .i64) l0 v0) {r : Int} (H : cmp_Or_int.f k l0 = some r) : Ret Try.prog 111 [v0] fun v S => v = .lit (.int .i64 r) := by
 unfold cmp_Or_int.f at H
 refine Ret.intro Try.func111 rfl (Nat.le_of_ble_eq_true rfl) rfl ?_
 rw [tm1]
 refine Evr.sr rfl (Opl.p1 (n := Opl.nil (Evr.sr rfl (Opl.p1 (n := Opl.nil (Evr.seq (Evr.sr rfl (Opl.p1 (n := Opl.len (xs := l0) (by exact hv0) K41 rfl rfl rfl rfl (Opl.p1 (n := Opl.nil (Evr.block ?_))))))))))))
 refine Evr.loop (Evr.rounds (n := k) (Inv := fun n tm S => n ≤ k ∧ ∃ (x8_1 : Int), cmp_Or_int.l0 n 0 l0 (l0.length : Int) x8_1 = some r ∧ Has tm [(3, .lit (.int .i64 0)), (6, v0), (7, .lit (.int .i64 (l0.length : Int))), (8, .lit (.int .i64 x8_1))]) ?_ ?_ ?_)
 · exact ⟨Nat.le_refl _, _, H, ⟨rfl, rfl, rfl, rfl, trivial⟩⟩
 ·
  rintro tm S ⟨_, _, H, -⟩
  simp [cmp_Or_int.l0] at H
 ·
  rintro n1 ih1 tm S ⟨hle, x8_1, H, hh⟩
  simp only [cmp_Or_int.l0] at H
  rw [hh.eq]
  refine Evr.sr rfl (Opl.p1 (n := Opl.nil (Evr.seq ?_)))
  by_cases c1 : x8_1 < (l0.length : Int)
  case neg =>
   rw [if_neg c1] at H
   have e4 : (decide (x8_1 < (l0.length : Int))) = false := by simpa using c1
   try rw [e4]
   refine Evr.condF rfl (Evr.exit rfl (Evr.sr rfl (Opl.p1 (n := Opl.p1 (n := Opl.nil ?_)))))
   obtain rfl := Option.some.inj H
   refine Evr.ret1 Try.func111 rfl ?_
   show (.lit (.int .i64 0) : PV) = _
   first | rfl | (simp only [go_sem]; rfl)
  rw [if_pos c1] at H
  have e1 : (decide (x8_1 < (l0.length : Int))) = true := by simpa using c1
  try rw [e1]
  refine Evr.condT rfl (Evr.skip (Evr.seq (Evr.block (Evr.sr rfl ?_))))
  obtain ⟨c2, H⟩ := peel H
  obtain ⟨c3, H⟩ := peel H
  refine Opl.idx (M := (cInt .i64)) (xs := l0) (j := x8_1) (0 : Int) (by exact hv0) rfl (by omega) (by omega) K41 Z3 rfl rfl ?_
  rintro p1 q1 h1
  obtain rfl : p1 = [.lit (.int .i64 (rd l0 x8_1))] := h1
  refine Opl.lda (.lit (.int .i64 (rd l0 x8_1))) rfl T3 rfl rfl rfl rfl (Opl.p1 (n := Opl.nil (Evr.sr rfl (Opl.p1 (n := Opl.p1 (n := Opl.p1 (n := Opl.nil ?_)))))))
  by_cases c4 : (rd l0 x8_1) = 0
  case neg =>
   rw [if_neg c4] at H
   have e3 : ((rd l0 x8_1) != 0) = true := by simpa using c4
   try rw [e3]
   refine Evr.condT rfl (Evr.sr rfl (Opl.p1 (n := Opl.p1 (n := Opl.nil ?_))))
   obtain rfl := Option.some.inj H
   refine Evr.ret1 Try.func111 rfl ?_
   show (.lit (.int .i64 (rd l0 x8_1)) : PV) = _
   first | rfl | (simp only [go_sem]; rfl)
  rw [if_pos c4] at H
  have e2 : ((rd l0 x8_1) != 0) = false := by simpa using c4
  try rw [e2]
  refine Evr.condF rfl (Evr.skip (Evr.inBlock (Evr.regionN rfl (Opl.add (k := .i64) (a := x8_1) (b := 1) K3 rfl rfl rfl rfl (Opl.one (v := .lit (.int .i64 (wrap64 (x8_1 + 1)))) rfl rfl rfl (Opl.nil ?_))))))
  exact ih1 _ (by omega) _ _ ⟨by omega, _, H, ⟨rfl, rfl, rfl, rfl, trivial⟩⟩
theorem impl_clauseOf_1.ev {k : Nat} {a0 : Int} {a1 : Int} {r : Int} (H : impl_clauseOf_1.f k a0 a1 = some r) : Ret Try.prog 110 [.lit (.int .i64 a0), .lit (.int .i64 a1)] fun v S => v = .lit (.int .i64 r) := by
 unfold impl_clauseOf_1.f at H
 refine Ret.intro Try.func110 rfl (Nat.le_of_ble_eq_true rfl) rfl ?_
 rw [tm2]
 refine Evr.sr rfl (Opl.p1 (n := Opl.nil (Evr.sr rfl (Opl.p1 (n := ?_)))))
 obtain ⟨r1, h_r1, H⟩ := Option.bind_eq_some_iff.1 H
 refine Opl.callc (impl_atomOf.ev h_r1) rfl rfl rfl rfl ⟨(.lit _), trivial⟩ (by decide) (Opl.p1 (n := ?_))
 obtain ⟨r2, h_r2, H⟩ := Option.bind_eq_some_iff.1 H
 refine Opl.callc (impl_atomOf.ev h_r2) rfl rfl rfl rfl ⟨(.lit _), trivial⟩ (by decide) ?_
 obtain ⟨r3, h_r3, H⟩ := Option.bind_eq_some_iff.1 H
 refine Opl.callc (cmp_Compare_int.ev h_r3) rfl rfl rfl rfl ⟨(.lit _), (.lit _), trivial⟩ (by decide) (Opl.p1 (n := Opl.p1 (n := ?_)))
 obtain ⟨r4, h_r4, H⟩ := Option.bind_eq_some_iff.1 H
 refine Opl.callc (cmp_Compare_int.ev h_r4) rfl rfl rfl rfl ⟨(.lit _), (.lit _), trivial⟩ (by decide) (Opl.liti (M := (cInt .i64)) (ys := [r3, r4]) [.tmp 9, .tmp 12] K41 T3 rfl rfl rfl (by exact ⟨rfl, rfl, trivial⟩) rfl (by decide) rfl rfl ?_)
 rintro pv2 h1
 obtain ⟨r5, h_r5, H⟩ := Option.bind_eq_some_iff.1 H
 refine Opl.callc (cmp_Or_int.ev h1 h_r5) rfl rfl rfl rfl ⟨h1.plain, trivial⟩ (by decide) (Opl.p1 (n := Opl.nil ?_))
 obtain rfl := Option.some.inj H
 refine Evr.ret1 Try.func110 rfl ?_
 show (.lit (.int .i64 r5) : PV) = _
 first | rfl | (simp only [go_sem]; rfl)
theorem slices_insertionSortCmpFunc_int_at_impl_clauseOf_1.evb {k : Nat} {S0 : Sto} {l0 : List Int} {v0 : PV} (hv0 : Vec (cInt .i64) l0 v0 S0) {a1 : Int} {a2 : Int} {r : (List Int)} (H : slices_insertionSortCmpFunc_int_at_impl_clauseOf_1.f k l0 a1 a2 = some r) : RetS Try.prog 130 [v0, .lit (.int .i64 a1), .lit (.int .i64 a2), .lit (.func (.func 110) #[] #[])] S0 fun v S => Vec (cInt .i64) r v0 S ∧ Same S0 S (PV.id? v0).toList := by
 have hs0 : Same S0 S0 (PV.id? v0).toList := .refl _ _
 unfold slices_insertionSortCmpFunc_int_at_impl_clauseOf_1.f at H
 refine RetS.intro Try.func130 rfl (Nat.le_of_ble_eq_true rfl) rfl ?_
 rw [tm4]
 refine Evr.sr rfl (Opl.p1 (n := Opl.add (k := .i64) (a := a1) (b := 1) K3 rfl rfl rfl rfl (Opl.one (v := .lit (.int .i64 (wrap64 (a1 + 1)))) rfl rfl rfl (Opl.nil (Evr.block ?_)))))
 refine Evr.loop (Evr.rounds (n := k) (Inv := fun n tm S => n ≤ k ∧ ∃ (x0q2_1 : List Int) (x8_1 : Int), slices_insertionSortCmpFunc_int_at_impl_clauseOf_1.l1 n x0q2_1 x8_1 a1 a2 = some r ∧ Has tm [(0, v0), (1, .lit (.int .i64 a1)), (2, .lit (.int .i64 a2)), (3, .lit (.func (.func 110) #[] #[])), (8, .lit (.int .i64 x8_1))] ∧ Vec (cInt .i64) x0q2_1 v0 S ∧ Same S0 S (PV.id? v0).toList) ?_ ?_ ?_)
 · exact ⟨Nat.le_refl _, _, _, H, ⟨rfl, rfl, rfl, rfl, rfl, trivial⟩, hv0, hs0⟩
 ·
  rintro tm S ⟨_, _, _, H, -⟩
  simp [slices_insertionSortCmpFunc_int_at_impl_clauseOf_1.l1] at H
 ·
  rintro n1 ih1 tm S ⟨hle, x0q2_1, x8_1, H, hh, h1, h2⟩
  simp only [slices_insertionSortCmpFunc_int_at_impl_clauseOf_1.l1] at H
  rw [hh.eq]
  refine Evr.seq (Evr.sr rfl (Opl.p1 (n := Opl.p1 (n := Opl.p1 (n := Opl.nil ?_)))))
  by_cases c1 : x8_1 < a2
  case neg =>
   rw [if_neg c1] at H
   have e6 : (decide (x8_1 < a2)) = false := by simpa using c1
   try rw [e6]
   refine Evr.condF rfl (Evr.exit rfl ?_)
   obtain rfl := Option.some.inj H
   refine Evr.fin0 Try.func130 rfl ?_
   exact ⟨h1, h2⟩
  rw [if_pos c1] at H
  have e1 : (decide (x8_1 < a2)) = true := by simpa using c1
  try rw [e1]
  refine Evr.condT rfl (Evr.skip (Evr.seq (Evr.block (Evr.sr rfl (Opl.p1 (n := Opl.p1 (n := Opl.nil (Evr.block ?_))))))))
  refine Evr.loop (Evr.rounds (n := n1) (Inv := fun n tm S => n ≤ n1 ∧ ∃ (x0q3_1 : List Int) (x9q2_1 : Int), slices_insertionSortCmpFunc_int_at_impl_clauseOf_1.l2 n x0q3_1 x9q2_1 a1 a2 x8_1 = some r ∧ Has tm [(0, v0), (1, .lit (.int .i64 a1)), (2, .lit (.int .i64 a2)), (3, .lit (.func (.func 110) #[] #[])), (8, .lit (.int .i64 x8_1)), (9, .lit (.int .i64 x9q2_1))] ∧ Vec (cInt .i64) x0q3_1 v0 S ∧ Same S0 S (PV.id? v0).toList) ?_ ?_ ?_)
  · exact ⟨Nat.le_refl _, _, _, H, ⟨rfl, rfl, rfl, rfl, rfl, rfl, trivial⟩, h1, h2⟩
  ·
   rintro tm S ⟨_, _, _, H, -⟩
   simp [slices_insertionSortCmpFunc_int_at_impl_clauseOf_1.l2] at H
  ·
   rintro n2 ih2 tm S ⟨hle, x0q3_1, x9q2_1, H, hh, h3, h4⟩
   simp only [slices_insertionSortCmpFunc_int_at_impl_clauseOf_1.l2] at H
   rw [hh.eq]
   refine Evr.seq (Evr.seq (Evr.regionD rfl (by kernel_rfl) (Opl.p1 (n := Opl.p1 (n := Opl.p1 (n := Opl.p1 (n := ?_)))))))
   by_cases c2 : x9q2_1 > a1
   case neg =>
    rw [if_neg c2] at H
    have e5 : (decide (x9q2_1 > a1)) = false := by simpa using c2
    try rw [e5]
    refine Opl.skp rfl (Opl.skp rfl (Opl.skp rfl (Opl.skp rfl (Opl.skp rfl (Opl.skp rfl (Opl.skp rfl (Opl.skp rfl (Opl.skp rfl (Opl.skp rfl (Opl.skp rfl (Opl.skp rfl (Opl.p1 (n := Opl.nil (Evr.condF rfl (Evr.exit rfl (Evr.inBlock (Evr.regionN rfl (Opl.p1 (n := Opl.add (k := .i64) (a := x8_1) (b := 1) K3 rfl rfl rfl rfl (Opl.one (v := .lit (.int .i64 (wrap64 (x8_1 + 1)))) rfl rfl rfl (Opl.nil ?_)))))))))))))))))))))
    exact ih1 _ (by omega) _ _ ⟨by omega, _, _, H, ⟨rfl, rfl, rfl, rfl, rfl, trivial⟩, h3, h4⟩
   rw [if_pos c2] at H
   have e2 : (decide (x9q2_1 > a1)) = true := by simpa using c2
   try rw [e2]
   refine Opl.p1 (n := Opl.p1 (n := Opl.p1 (n := ?_)))
   obtain ⟨c3, H⟩ := peel H
   obtain ⟨c4, H⟩ := peel H
   obtain ⟨c5, H⟩ := peel H
   obtain ⟨c6, H⟩ := peel H
   refine Opl.idv (M := (cInt .i64)) (xs := x0q3_1) (j := x9q2_1) (v := v0) h3 rfl rfl (by first | omega | (simp only [List.length_set] at *; omega)) (by first | omega | (simp only [List.length_set] at *; omega)) K41 Z3 rfl rfl ?_
   rintro d1 z1 q1 h5 h6
   refine Opl.ldv (M := (cInt .i64)) (xs := x0q3_1) (j := x9q2_1) (0 : Int) h5 h6 (by first | omega | (simp only [List.length_set] at *; omega)) (by first | omega | (simp only [List.length_set] at *; omega)) rfl T3 rfl rfl rfl ?_
   rintro p1 q2 h7
   obtain rfl : p1 = [.lit (.int .i64 (rd x0q3_1 x9q2_1))] := h7
   refine ⟨.lit (.int .i64 (rd x0q3_1 x9q2_1)), rfl, ?_⟩
   refine Opl.p1 (n := Opl.p1 (n := Opl.subi (k := .i64) (a := x9q2_1) (b := 1) K3 rfl rfl rfl rfl (Opl.idv (M := (cInt .i64)) (xs := x0q3_1) (j := (wrap64 (x9q2_1 - 1))) (v := v0) h3 rfl rfl (by first | omega | (simp only [List.length_set] at *; omega)) (by first | omega | (simp only [List.length_set] at *; omega)) K41 Z3 rfl rfl ?_)))
   rintro d2 z2 q3 h8 h9
   refine Opl.ldv (M := (cInt .i64)) (xs := x0q3_1) (j := (wrap64 (x9q2_1 - 1))) (0 : Int) h8 h9 (by first | omega | (simp only [List.length_set] at *; omega)) (by first | omega | (simp only [List.length_set] at *; omega)) rfl T3 rfl rfl rfl ?_
   rintro p2 q4 h10
   obtain rfl : p2 = [.lit (.int .i64 (rd x0q3_1 (wrap64 (x9q2_1 - 1))))] := h10
   refine ⟨.lit (.int .i64 (rd x0q3_1 (wrap64 (x9q2_1 - 1)))), rfl, ?_⟩
   obtain ⟨r1, h_r1, H⟩ := Option.bind_eq_some_iff.1 H
   refine Opl.callc (impl_clauseOf_1.ev h_r1) rfl rfl rfl rfl ⟨(.lit _), (.lit _), trivial⟩ (by decide) (Opl.p1 (n := Opl.p1 (n := Opl.nil ?_)))
   by_cases c7 : r1 < 0
   case neg =>
    rw [if_neg c7] at H
    have e4 : (decide (r1 < 0)) = false := by simpa using c7
    try rw [e4]
    refine Evr.condF rfl (Evr.exit rfl (Evr.inBlock (Evr.regionN rfl (Opl.one (v := .lit (.int .i64 x8_1)) rfl rfl rfl (Opl.add (k := .i64) (a := x8_1) (b := 1) K3 rfl rfl rfl rfl (Opl.one (v := .lit (.int .i64 (wrap64 (x8_1 + 1)))) rfl rfl rfl (Opl.nil ?_)))))))
    exact ih1 _ (by omega) _ _ ⟨by omega, _, _, H, ⟨rfl, rfl, rfl, rfl, rfl, trivial⟩, h3, h4⟩
   rw [if_pos c7] at H
   have e3 : (decide (r1 < 0)) = true := by simpa using c7
   try rw [e3]
   refine Evr.condT rfl (Evr.skip (Evr.seq (Evr.block (Evr.regionD rfl (by kernel_rfl) (Opl.one (v := v0) rfl rfl rfl (Opl.one (v := .lit (.int .i64 x9q2_1)) rfl rfl rfl (Opl.one (v := v0) rfl rfl rfl (Opl.one (v := .lit (.int .i64 x9q2_1)) rfl rfl rfl (Opl.subi (k := .i64) (a := x9q2_1) (b := 1) K3 rfl rfl rfl rfl (Opl.one (v := v0) rfl rfl rfl (Opl.one (v := .lit (.int .i64 x9q2_1)) rfl rfl rfl (Opl.subi (k := .i64) (a := x9q2_1) (b := 1) K3 rfl rfl rfl rfl ?_))))))))))))
   obtain ⟨c8, H⟩ := peel H
   obtain ⟨c9, H⟩ := peel H
   obtain ⟨c10, H⟩ := peel H
   obtain ⟨c11, H⟩ := peel H
   obtain ⟨c12, H⟩ := peel H
   obtain ⟨c13, H⟩ := peel H
   obtain ⟨c14, H⟩ := peel H
   obtain ⟨c15, H⟩ := peel H
   refine Opl.idv (M := (cInt .i64)) (xs := x0q3_1) (j := (wrap64 (x9q2_1 - 1))) (v := v0) h3 rfl rfl (by first | omega | (simp only [List.length_set] at *; omega)) (by first | omega | (simp only [List.length_set] at *; omega)) K41 Z3 rfl rfl ?_
   rintro d3 z3 q5 h11 h12
   refine Opl.ldv (M := (cInt .i64)) (xs := x0q3_1) (j := (wrap64 (x9q2_1 - 1))) (0 : Int) h11 h12 (by first | omega | (simp only [List.length_set] at *; omega)) (by first | omega | (simp only [List.length_set] at *; omega)) rfl T3 rfl rfl rfl ?_
   rintro p3 q6 h13
   obtain rfl : p3 = [.lit (.int .i64 (rd x0q3_1 (wrap64 (x9q2_1 - 1))))] := h13
   refine ⟨.lit (.int .i64 (rd x0q3_1 (wrap64 (x9q2_1 - 1)))), rfl, ?_⟩
   refine Opl.one (v := v0) rfl rfl rfl (Opl.one (v := .lit (.int .i64 x9q2_1)) rfl rfl rfl (Opl.idv (M := (cInt .i64)) (xs := x0q3_1) (j := x9q2_1) (v := v0) h3 rfl rfl (by first | omega | (simp only [List.length_set] at *; omega)) (by first | omega | (simp only [List.length_set] at *; omega)) K41 Z3 rfl rfl ?_))
   rintro d4 z4 q7 h14 h15
   refine Opl.ldv (M := (cInt .i64)) (xs := x0q3_1) (j := x9q2_1) (0 : Int) h14 h15 (by first | omega | (simp only [List.length_set] at *; omega)) (by first | omega | (simp only [List.length_set] at *; omega)) rfl T3 rfl rfl rfl ?_
   rintro p4 q8 h16
   obtain rfl : p4 = [.lit (.int .i64 (rd x0q3_1 x9q2_1))] := h16
   refine ⟨.lit (.int .i64 (rd x0q3_1 x9q2_1)), rfl, ?_⟩
   refine Opl.idv (M := (cInt .i64)) (xs := x0q3_1) (j := x9q2_1) (v := v0) h3 rfl rfl (by first | omega | (simp only [List.length_set] at *; omega)) (by first | omega | (simp only [List.length_set] at *; omega)) K41 Z3 rfl rfl ?_
   rintro d5 z5 q9 h17 h18
   refine Opl.stv (M := (cInt .i64)) (xs := x0q3_1) (j := x9q2_1) (y := (rd x0q3_1 (wrap64 (x9q2_1 - 1)))) (vs := [.lit (.int .i64 (rd x0q3_1 (wrap64 (x9q2_1 - 1))))]) h17 h18 (by first | omega | (simp only [List.length_set] at *; omega)) (by first | omega | (simp only [List.length_set] at *; omega)) rfl rfl (by exact rfl) Z3 rfl rfl rfl rfl ?_
   rw [← q9]
   rintro S h19 u1
   have h20 := u1.sameP h4 OutT.self
   refine Opl.idv (M := (cInt .i64)) (xs := (x0q3_1.set x9q2_1.toNat (rd x0q3_1 (wrap64 (x9q2_1 - 1))))) (j := (wrap64 (x9q2_1 - 1))) (v := v0) h19 rfl rfl (by first | omega | (simp only [List.length_set] at *; omega)) (by first | omega | (simp only [List.length_set] at *; omega)) K41 Z3 rfl rfl ?_
   rintro d6 z6 q10 h21 h22
   refine Opl.stv (M := (cInt .i64)) (xs := (x0q3_1.set x9q2_1.toNat (rd x0q3_1 (wrap64 (x9q2_1 - 1))))) (j := (wrap64 (x9q2_1 - 1))) (y := (rd x0q3_1 x9q2_1)) (vs := [.lit (.int .i64 (rd x0q3_1 x9q2_1))]) h21 h22 (by first | omega | (simp only [List.length_set] at *; omega)) (by first | omega | (simp only [List.length_set] at *; omega)) rfl rfl (by exact rfl) Z3 rfl rfl rfl rfl ?_
   rw [← q10]
   rintro S h23 u2
   have h24 := u2.sameP h20 OutT.self
   refine Opl.nil (Evr.inBlock (Evr.regionN rfl (Opl.one (v := .lit (.int .i64 x9q2_1)) rfl rfl rfl (Opl.subi (k := .i64) (a := x9q2_1) (b := 1) K3 rfl rfl rfl rfl (Opl.one (v := .lit (.int .i64 (wrap64 (x9q2_1 - 1)))) rfl rfl rfl (Opl.nil ?_))))))
   exact ih2 _ (by omega) _ _ ⟨by omega, _, _, H, ⟨rfl, rfl, rfl, rfl, rfl, rfl, trivial⟩, h23, h24⟩
theorem slices_pdqsortCmpFunc_int_at_impl_clauseOf_1.evb {k : Nat} {S0 : Sto} {l0 : List Int} {v0 : PV} (hv0 : Vec (cInt .i64) l0 v0 S0) {a1 : Int} {a2 : Int} {a3 : Int} {r : (List Int)} (H : slices_pdqsortCmpFunc_int_at_impl_clauseOf_1.f k l0 a1 a2 a3 = some r) : RetS Try.prog 126 [v0, .lit (.int .i64 a1), .lit (.int .i64 a2), .lit (.int .i64 a3), .lit (.func (.func 110) #[] #[])] S0 fun v S => Vec (cInt .i64) r v0 S ∧ Same S0 S (PV.id? v0).toList := by
 have hs0 : Same S0 S0 (PV.id? v0).toList := .refl _ _
 unfold slices_pdqsortCmpFunc_int_at_impl_clauseOf_1.f at H
 refine RetS.intro Try.func126 rfl (Nat.le_of_ble_eq_true rfl) rfl ?_
 rw [tm5]
 refine Evr.sr rfl (Opl.p1 (n := Opl.nil (Evr.sr rfl (Opl.p1 (n := Opl.nil (Evr.block ?_))))))
 refine Evr.loop (Evr.rounds (n := k) (Inv := fun n tm S => n ≤ k ∧ slices_pdqsortCmpFunc_int_at_impl_clauseOf_1.l1 n l0 a1 a2 a3 = some r ∧ Has tm [(0, v0), (1, .lit (.int .i64 a1)), (2, .lit (.int .i64 a2)), (3, .lit (.int .i64 a3)), (4, .lit (.func (.func 110) #[] #[])), (10, .lit (.bool true)), (11, .lit (.bool true))] ∧ Vec (cInt .i64) l0 v0 S ∧ Same S0 S (PV.id? v0).toList) ?_ ?_ ?_)
 · exact ⟨Nat.le_refl _, H, ⟨rfl, rfl, rfl, rfl, rfl, rfl, rfl, trivial⟩, hv0, hs0⟩
 ·
  rintro tm S ⟨_, H, -⟩
  simp [slices_pdqsortCmpFunc_int_at_impl_clauseOf_1.l1] at H
 ·
  rintro n1 ih1 tm S ⟨hle, H, hh, h1, h2⟩
  simp only [slices_pdqsortCmpFunc_int_at_impl_clauseOf_1.l1] at H
  rw [hh.eq]
  refine Evr.block (Evr.sr rfl (Opl.p1 (n := Opl.p1 (n := Opl.subi (k := .i64) (a := a2) (b := a1) K3 rfl rfl rfl rfl (Opl.one (v := .lit (.int .i64 (wrap64 (a2 - a1)))) rfl rfl rfl (Opl.nil (Evr.seq (Evr.sr rfl (Opl.one (v := .lit (.int .i64 (wrap64 (a2 - a1)))) rfl rfl rfl (Opl.leq (a := (wrap64 (a2 - a1))) (b := 12) K3 rfl rfl rfl rfl (Opl.nil ?_)))))))))))
  by_cases c1 : (wrap64 (a2 - a1)) ≤ 12
  case neg =>
   rw [if_neg c1] at H
   have e2 : (decide ((wrap64 (a2 - a1)) ≤ 12)) = false := by simpa using c1
   try rw [e2]
   refine Evr.condF rfl (Evr.skip (Evr.seq (Evr.sr rfl (Opl.one (v := .lit (.int .i64 a3)) rfl rfl rfl (Opl.p1 (n := Opl.nil ?_))))))
   by_cases c2 : a3 = 0
   case neg =>
    rw [if_neg c2] at H
    cases H
   rw [if_pos c2] at H
   cases H
  rw [if_pos c1] at H
  have e1 : (decide ((wrap64 (a2 - a1)) ≤ 12)) = true := by simpa using c1
  try rw [e1]
  refine Evr.condT rfl (Evr.sr rfl (Opl.one (v := v0) rfl rfl rfl (Opl.one (v := .lit (.int .i64 a1)) rfl rfl rfl (Opl.one (v := .lit (.int .i64 a2)) rfl rfl rfl (Opl.p1 (n := ?_))))))
  obtain ⟨r1, h_r1, H⟩ := Option.bind_eq_some_iff.1 H
  refine Opl.calls (slices_insertionSortCmpFunc_int_at_impl_clauseOf_1.evb h1 h_r1) rfl rfl rfl rfl rfl ?_
  rintro _ S ⟨h3, u1⟩
  have h4 := u1.sameP h2 OutT.self
  refine Opl.nil ?_
  obtain rfl := Option.some.inj H
  refine Evr.ret0 Try.func126 rfl ?_
  exact ⟨h3, h4⟩
theorem slices_SortFunc_int_int_at_impl_clauseOf_1.evb {k : Nat} {S0 : Sto} {l0 : List Int} {v0 : PV} (hv0 : Vec (cInt .i64) l0 v0 S0) {r : (List Int)} (H : slices_SortFunc_int_int_at_impl_clauseOf_1.f k l0 = some r) : RetS Try.prog 109 [v0, .lit (.func (.func 110) #[] #[])] S0 fun v S => Vec (cInt .i64) r v0 S ∧ Same S0 S (PV.id? v0).toList := by
 have hs0 : Same S0 S0 (PV.id? v0).toList := .refl _ _
 unfold slices_SortFunc_int_int_at_impl_clauseOf_1.f at H
 refine RetS.intro Try.func109 rfl (Nat.le_of_ble_eq_true rfl) rfl ?_
 rw [tm2]
 refine Evr.sr rfl (Opl.p1 (n := Opl.lenv (xs := l0) (by exact hv0) K41 rfl rfl rfl rfl (Opl.p1 (n := Opl.nil (Evr.regionN rfl (Opl.p1 (n := Opl.p1 (n := Opl.p1 (n := Opl.p1 (v := .lit (.int .u64 (IntKind.u64.wrap (l0.length : Int)))) (n := ?_))))))))))
 obtain ⟨r1, h_r1, H⟩ := Option.bind_eq_some_iff.1 H
 refine Opl.callc (math_bits_Len.ev h_r1) rfl rfl rfl rfl ⟨(.lit _), trivial⟩ (by decide) (Opl.p1 (n := ?_))
 obtain ⟨r2, h_r2, H⟩ := Option.bind_eq_some_iff.1 H
 refine Opl.calls (slices_pdqsortCmpFunc_int_at_impl_clauseOf_1.evb hv0 h_r2) rfl rfl rfl rfl rfl ?_
 rintro _ S ⟨h1, u1⟩
 have h2 := u1.sameP hs0 OutT.self
 refine Opl.nil ?_
 obtain rfl := Option.some.inj H
 refine Evr.fin0 Try.func109 rfl ?_
 exact ⟨h1, h2⟩
theorem impl_clauseOf.ev {k : Nat} {l0 : List Int} {v0 : PV} (hv0 : Sl (cInt .i64) l0 v0) {r : (List Int) × Bool} (H : impl_clauseOf.f k l0 = some r) : Ret Try.prog 68 [v0] fun v S => Out (fun q => ∃ q1 q2, q = .tup [q1, q2] ∧ Sl (cInt .i64) r.1 q1 ∧ q2 = .lit (.bool r.2)) v S := by
 unfold impl_clauseOf.f at H
 refine Ret.intro Try.func68 rfl (Nat.le_of_ble_eq_true rfl) rfl ?_
 rw [tm1]
 refine Evr.sr rfl (Opl.p1 (n := Opl.p1 (n := Opl.nil (Evr.sr rfl (Opl.p1 (n := ?_))))))
 obtain ⟨r1, h_r1, H⟩ := Option.bind_eq_some_iff.1 H
 refine Opl.calla (slices_Clone_int_int.ev hv0 h_r1) rfl rfl rfl rfl ⟨hv0.plain, trivial⟩ rfl ?_
 rintro pv1 S h1 u1 w1
 refine Opl.p1 (n := Opl.nil (Evr.sr rfl (Opl.p1 (n := ?_))))
 obtain ⟨r2, h_r2, H⟩ := Option.bind_eq_some_iff.1 H
 refine Opl.calls (slices_SortFunc_int_int_at_impl_clauseOf_1.evb h1 h_r2) rfl rfl rfl rfl rfl ?_
 rintro _ S ⟨h2, u2⟩
 refine Opl.nil (Evr.sr rfl (Opl.p1 (n := ?_)))
 obtain ⟨r3, h_r3, H⟩ := Option.bind_eq_some_iff.1 H
 refine Opl.calls (slices_Compact_int_int.evb h2 h_r3) rfl rfl rfl rfl rfl ?_
 rintro pv2 S ⟨h3, b1, u3⟩
 refine Opl.p1 (n := Opl.nil (Evr.seq (Evr.sr rfl (Opl.p1 (n := Opl.nil (Evr.block ?_))))))
 refine Evr.loop (Evr.rounds (n := k) (Inv := fun n tm S => n ≤ k ∧ ∃ (x5_1 : Int) (pv3 : PV), impl_clauseOf.l1 n x5_1 r3 = some r ∧ Has tm [(4, pv3), (5, .lit (.int .i64 x5_1))] ∧ Vec (cInt .i64) r3 pv3 S) ?_ ?_ ?_)
 · exact ⟨Nat.le_refl _, _, _, H, ⟨rfl, rfl, trivial⟩, h3⟩
 ·
  rintro tm S ⟨_, _, _, H, -⟩
  simp [impl_clauseOf.l1] at H
 ·
  rintro n1 ih1 tm S ⟨hle, x5_1, pv3, H, hh, h4⟩
  simp only [impl_clauseOf.l1] at H
  rw [hh.eq]
  refine Evr.seq (Evr.sr rfl (Opl.p1 (n := Opl.p1 (n := Opl.lenv (xs := r3) (by exact h4) K41 rfl rfl rfl rfl (Opl.p1 (n := Opl.nil ?_))))))
  by_cases c1 : x5_1 < (r3.length : Int)
  case neg =>
   rw [if_neg c1] at H
   have e4 : (decide (x5_1 < (r3.length : Int))) = false := by simpa using c1
   try rw [e4]
   refine Evr.condF rfl (Evr.exit rfl (Evr.sr rfl (Opl.p1 (n := ?_))))
   obtain ⟨r4, h_r4, H⟩ := Option.bind_eq_some_iff.1 H
   obtain ⟨pv4, h11, -, h12⟩ := Out.vec h4
   refine Opl.callv (sInt .i64) (impl_clone_int.ev h12 h_r4) rfl rfl rfl (.cons h11 .nil) ⟨h12.plain, trivial⟩ (by decide) ?_
   rintro pv5 h13
   refine Opl.p1 (n := Opl.p1 (n := Opl.nil ?_))
   obtain rfl := Option.some.inj H
   refine Evr.ret2 Try.func68 rfl ?_
   show Out _ (.tup [pv5, .lit (.bool true)]) _
   exact .tup2 (.sl h13) .lit
  rw [if_pos c1] at H
  have e1 : (decide (x5_1 < (r3.length : Int))) = true := by simpa using c1
  try rw [e1]
  refine Evr.condT rfl (Evr.skip (Evr.seq (Evr.block (Evr.seq (Evr.regionD rfl (by kernel_rfl) (Opl.p1 (n := Opl.p1 (n := ?_))))))))
  obtain ⟨c2, H⟩ := peel H
  obtain ⟨c3, H⟩ := peel H
  obtain ⟨c4, H⟩ := peel H
  obtain ⟨c5, H⟩ := peel H
  refine Opl.idv (M := (cInt .i64)) (xs := r3) (j := x5_1) (v := pv3) h4 rfl rfl (by omega) (by omega) K41 Z3 rfl rfl ?_
  rintro d1 z1 q1 h5 h6
  refine Opl.ldv (M := (cInt .i64)) (xs := r3) (j := x5_1) (0 : Int) h5 h6 (by omega) (by omega) rfl T3 rfl rfl rfl ?_
  rintro p1 q2 h7
  obtain rfl : p1 = [.lit (.int .i64 (rd r3 x5_1))] := h7
  refine ⟨.lit (.int .i64 (rd r3 x5_1)), rfl, ?_⟩
  refine Opl.p1 (n := Opl.p1 (n := Opl.subi (k := .i64) (a := x5_1) (b := 1) K3 rfl rfl rfl rfl (Opl.idv (M := (cInt .i64)) (xs := r3) (j := (wrap64 (x5_1 - 1))) (v := pv3) h4 rfl rfl (by omega) (by omega) K41 Z3 rfl rfl ?_)))
  rintro d2 z2 q3 h8 h9
  refine Opl.ldv (M := (cInt .i64)) (xs := r3) (j := (wrap64 (x5_1 - 1))) (0 : Int) h8 h9 (by omega) (by omega) rfl T3 rfl rfl rfl ?_
  rintro p2 q4 h10
  obtain rfl : p2 = [.lit (.int .i64 (rd r3 (wrap64 (x5_1 - 1))))] := h10
  refine ⟨.lit (.int .i64 (rd r3 (wrap64 (x5_1 - 1)))), rfl, ?_⟩
  refine Opl.one (v := .lit (.int .i64 (wrap64 (-(rd r3 (wrap64 (x5_1 - 1))))))) rfl rfl (by simp only [go_sem, Int.zero_sub, w64]; rfl) (Opl.eql (a := (rd r3 x5_1)) (b := (wrap64 (-(rd r3 (wrap64 (x5_1 - 1)))))) K3 rfl rfl rfl rfl (Opl.nil ?_))
  by_cases c6 : (rd r3 x5_1) = (wrap64 (-(rd r3 (wrap64 (x5_1 - 1)))))
  case pos =>
   rw [if_pos c6] at H
   have e2 : ((rd r3 x5_1) == (wrap64 (-(rd r3 (wrap64 (x5_1 - 1)))))) = true := by simpa using c6
   try rw [e2]
   refine Evr.condT rfl (Evr.sr rfl (Opl.one (v := .lit (.slice none 0 0)) rfl rfl rfl (Opl.one (v := .lit (.bool false)) rfl rfl rfl (Opl.nil ?_))))
   obtain rfl := Option.some.inj H
   refine Evr.ret2 Try.func68 rfl ?_
   show Out _ (.tup [.lit (.slice none 0 0), .lit (.bool false)]) _
   exact .tup2 (.sl .nil) .lit
  rw [if_neg c6] at H
  have e3 : ((rd r3 x5_1) == (wrap64 (-(rd r3 (wrap64 (x5_1 - 1)))))) = false := by simpa using c6
  try rw [e3]
  refine Evr.condF rfl (Evr.skip (Evr.inBlock (Evr.regionN rfl (Opl.one (v := .lit (.int .i64 x5_1)) rfl rfl rfl (Opl.add (k := .i64) (a := x5_1) (b := 1) K3 rfl rfl rfl rfl (Opl.one (v := .lit (.int .i64 (wrap64 (x5_1 + 1)))) rfl rfl rfl (Opl.nil ?_)))))))
  exact ih1 _ (by omega) _ _ ⟨by omega, _, _, H, ⟨rfl, rfl, trivial⟩, h4⟩
theorem slices_Index_int_int.ev {k : Nat} {l0 : List Int} {v0 : PV} (hv0 : Sl (cInt .i64) l0 v0) {a1 : Int} {r : Int} (H : slices_Index_int_int.f k l0 a1 = some r) : Ret Try.prog 114 [v0, .lit (.int .i64 a1)] fun v S => v = .lit (.int .i64 r) := by
 unfold slices_Index_int_int.f at H
 refine Ret.intro Try.func114 rfl (Nat.le_of_ble_eq_true rfl) rfl ?_
 rw [tm2]
 refine Evr.sr rfl (Opl.p1 (n := Opl.nil (Evr.seq (Evr.sr rfl (Opl.p1 (n := Opl.len (xs := l0) (by exact hv0) K41 rfl rfl rfl rfl (Opl.p1 (n := Opl.nil (Evr.block ?_)))))))))
 refine Evr.loop (Evr.rounds (n := k) (Inv := fun n tm S => n ≤ k ∧ ∃ (x8_1 : Int), slices_Index_int_int.l0 n l0 a1 (l0.length : Int) x8_1 = some r ∧ Has tm [(0, v0), (1, .lit (.int .i64 a1)), (7, .lit (.int .i64 (l0.length : Int))), (8, .lit (.int .i64 x8_1))]) ?_ ?_ ?_)
 · exact ⟨Nat.le_refl _, _, H, ⟨rfl, rfl, rfl, rfl, trivial⟩⟩
 ·
  rintro tm S ⟨_, _, H, -⟩
  simp [slices_Index_int_int.l0] at H
 ·
  rintro n1 ih1 tm S ⟨hle, x8_1, H, hh⟩
  simp only [slices_Index_int_int.l0] at H
  rw [hh.eq]
  refine Evr.sr rfl (Opl.p1 (n := Opl.nil (Evr.seq ?_)))
  by_cases c1 : x8_1 < (l0.length : Int)
  case neg =>
   rw [if_neg c1] at H
   have e4 : (decide (x8_1 < (l0.length : Int))) = false := by simpa using c1
   try rw [e4]
   refine Evr.condF rfl (Evr.exit rfl (Evr.sr rfl (Opl.p1 (n := Opl.nil ?_))))
   obtain rfl := Option.some.inj H
   refine Evr.ret1 Try.func114 rfl ?_
   show (.lit (.int .i64 (-1)) : PV) = _
   first | rfl | (simp only [go_sem]; rfl)
  rw [if_pos c1] at H
  have e1 : (decide (x8_1 < (l0.length : Int))) = true := by simpa using c1
  try rw [e1]
  refine Evr.condT rfl (Evr.skip (Evr.seq (Evr.block (Evr.sr rfl (Opl.p1 (n := Opl.p1 (n := Opl.nil (Evr.sr rfl (Opl.p1 (n := Opl.p1 (n := Opl.p1 (n := ?_))))))))))))
  obtain ⟨c2, H⟩ := peel H
  obtain ⟨c3, H⟩ := peel H
  refine Opl.idx (M := (cInt .i64)) (xs := l0) (j := x8_1) (0 : Int) (by exact hv0) rfl (by omega) (by omega) K41 Z3 rfl rfl ?_
  rintro p1 q1 h1
  obtain rfl : p1 = [.lit (.int .i64 (rd l0 x8_1))] := h1
  refine Opl.lda (.lit (.int .i64 (rd l0 x8_1))) rfl T3 rfl rfl rfl rfl (Opl.p1 (n := Opl.nil ?_))
  by_cases c4 : a1 = (rd l0 x8_1)
  case pos =>
   rw [if_pos c4] at H
   have e2 : (a1 == (rd l0 x8_1)) = true := by simpa using c4
   try rw [e2]
   refine Evr.condT rfl (Evr.sr rfl (Opl.p1 (n := Opl.p1 (n := Opl.nil ?_))))
   obtain rfl := Option.some.inj H
   refine Evr.ret1 Try.func114 rfl ?_
   show (.lit (.int .i64 x8_1) : PV) = _
   first | rfl | (simp only [go_sem]; rfl)
  rw [if_neg c4] at H
  have e3 : (a1 == (rd l0 x8_1)) = false := by simpa using c4
  try rw [e3]
  refine Evr.condF rfl (Evr.skip (Evr.inBlock (Evr.regionN rfl (Opl.add (k := .i64) (a := x8_1) (b := 1) K3 rfl rfl rfl rfl (Opl.one (v := .lit (.int .i64 (wrap64 (x8_1 + 1)))) rfl rfl rfl (Opl.nil ?_))))))
  exact ih1 _ (by omega) _ _ ⟨by omega, _, H, ⟨rfl, rfl, rfl, rfl, trivial⟩⟩
theorem slices_Contains_int_int.ev {k : Nat} {l0 : List Int} {v0 : PV} (hv0 : Sl (cInt .i64) l0 v0) {a1 : Int} {r : Bool} (H : slices_Contains_int_int.f k l0 a1 = some r) : Ret Try.prog 74 [v0, .lit (.int .i64 a1)] fun v S => v = .lit (.bool r) := by
 unfold slices_Contains_int_int.f at H
 refine Ret.intro Try.func74 rfl (Nat.le_of_ble_eq_true rfl) rfl ?_
 rw [tm2]
 refine Evr.sr rfl (Opl.p1 (n := Opl.nil (Evr.sr rfl (Opl.p1 (n := Opl.p1 (n := ?_))))))
 obtain ⟨t687, h_t687, H⟩ := Option.bind_eq_some_iff.1 H
 refine Opl.callc (slices_Index_int_int.ev hv0 h_t687) rfl rfl rfl rfl ⟨hv0.plain, (.lit _), trivial⟩ (by decide) (Opl.p1 (n := Opl.p1 (n := Opl.nil ?_)))
 obtain rfl := Option.some.inj H
 refine Evr.ret1 Try.func74 rfl ?_
 show (.lit (.bool (decide (t687 ≥ 0))) : PV) = _
 first | rfl | (simp only [go_sem]; rfl)
theorem impl_Resolved.ev {k : Nat} {l0 : List Int} {v0 : PV} (hv0 : Sl (cInt .i64) l0 v0) {l1 : List Int} {v1 : PV} (hv1 : Sl (cInt .i64) l1 v1) {a2 : Int} {r : (List Int) × Bool} (H : impl_Resolved.f k l0 l1 a2 = some r) : Ret Try.prog 23 [v0, v1, .lit (.int .i64 a2)] fun v S => Out (fun q => ∃ q1 q2, q = .tup [q1, q2] ∧ Sl (cInt .i64) r.1 q1 ∧ q2 = .lit (.bool r.2)) v S := by
 unfold impl_Resolved.f at H
 refine Ret.intro Try.func23 rfl (Nat.le_of_ble_eq_true rfl) rfl ?_
 rw [tm3]
 refine Evr.sr rfl (Opl.p1 (n := Opl.p1 (n := Opl.nil (Evr.seq (Evr.sr rfl (Opl.p1 (n := ?_)))))))
 obtain ⟨r1, h_r1, H⟩ := Option.bind_eq_some_iff.1 H
 refine Opl.callc (impl_ClauseValid.ev hv0 h_r1) rfl rfl rfl rfl ⟨hv0.plain, (.lit _), trivial⟩ (by decide) (Opl.p1 (n := Opl.p1 (n := ?_)))
 by_cases c1 : r1 = true
 case neg =>
  rw [if_neg c1] at H
  have e18 : (!r1) = true := by simpa using c1
  try rw [e18]
  refine Opl.skp rfl (Opl.skp rfl (Opl.skp rfl (Opl.p1 (n := Opl.p1 (n := Opl.skp rfl (Opl.skp rfl (Opl.p1 (n := Opl.p1 (n := Opl.skp rfl (Opl.skp rfl (Opl.skp rfl (Opl.skp rfl (Opl.p1 (n := Opl.p1 (n := Opl.skp rfl (Opl.skp rfl (Opl.skp rfl (Opl.skp rfl (Opl.skp rfl (Opl.p1 (n := Opl.nil (Evr.condT rfl (Evr.sr rfl (Opl.p1 (n := Opl.p1 (n := Opl.nil ?_))))))))))))))))))))))))))
  obtain rfl := Option.some.inj H
  refine Evr.ret2 Try.func23 rfl ?_
  show Out _ (.tup [.lit (.slice none 0 0), .lit (.bool false)]) _
  exact .tup2 (.sl .nil) .lit
 rw [if_pos c1] at H
 have e1 : (!r1) = false := by simpa using c1
 try rw [e1]
 refine Opl.p1 (n := ?_)
 obtain ⟨r2, h_r2, H⟩ := Option.bind_eq_some_iff.1 H
 refine Opl.callc (impl_ClauseValid.ev hv1 h_r2) rfl rfl rfl rfl ⟨hv1.plain, (.lit _), trivial⟩ (by decide) (Opl.p1 (n := Opl.p1 (n := Opl.p1 (n := ?_))))
 by_cases c2 : r2 = true
 case neg =>
  rw [if_neg c2] at H
  have e17 : (!r2) = true := by simpa using c2
  try rw [e17]
  refine Opl.skp rfl (Opl.skp rfl (Opl.p1 (n := Opl.p1 (n := Opl.skp rfl (Opl.skp rfl (Opl.skp rfl (Opl.skp rfl (Opl.p1 (n := Opl.p1 (n := Opl.skp rfl (Opl.skp rfl (Opl.skp rfl (Opl.skp rfl (Opl.skp rfl (Opl.p1 (n := Opl.nil (Evr.condT rfl (Evr.sr rfl (Opl.p1 (n := Opl.p1 (n := Opl.nil ?_)))))))))))))))))))))
  obtain rfl := Option.some.inj H
  refine Evr.ret2 Try.func23 rfl ?_
  show Out _ (.tup [.lit (.slice none 0 0), .lit (.bool false)]) _
  exact .tup2 (.sl .nil) .lit
 rw [if_pos c2] at H
 have e2 : (!r2) = false := by simpa using c2
 try rw [e2]
 refine Opl.p1 (n := Opl.p1 (n := Opl.p1 (n := Opl.p1 (n := ?_))))
 by_cases c3 : a2 ≤ 0
 case pos =>
  rw [if_pos c3] at H
  have e3 : (decide (a2 ≤ 0)) = true := by simpa using c3
  try rw [e3]
  refine Opl.skp rfl (Opl.skp rfl (Opl.skp rfl (Opl.skp rfl (Opl.p1 (n := Opl.p1 (n := Opl.skp rfl (Opl.skp rfl (Opl.skp rfl (Opl.skp rfl (Opl.skp rfl (Opl.p1 (n := Opl.nil (Evr.condT rfl (Evr.sr rfl (Opl.p1 (n := Opl.p1 (n := Opl.nil ?_)))))))))))))))))
  obtain rfl := Option.some.inj H
  refine Evr.ret2 Try.func23 rfl ?_
  show Out _ (.tup [.lit (.slice none 0 0), .lit (.bool false)]) _
  exact .tup2 (.sl .nil) .lit
 rw [if_neg c3] at H
 have e4 : (decide (a2 ≤ 0)) = false := by simpa using c3
 try rw [e4]
 refine Opl.p1 (n := Opl.p1 (n := ?_))
 obtain ⟨r3, h_r3, H⟩ := Option.bind_eq_some_iff.1 H
 refine Opl.callc (slices_Contains_int_int.ev hv0 h_r3) rfl rfl rfl rfl ⟨hv0.plain, (.lit _), trivial⟩ (by decide) (Opl.p1 (n := Opl.p1 (n := Opl.p1 (n := ?_))))
 by_cases c4 : r3 = true
 case neg =>
  rw [if_neg c4] at H
  have e16 : (!r3) = true := by simpa using c4
  try rw [e16]
  refine Opl.skp rfl (Opl.skp rfl (Opl.skp rfl (Opl.skp rfl (Opl.skp rfl (Opl.p1 (n := Opl.nil (Evr.condT rfl (Evr.sr rfl (Opl.p1 (n := Opl.p1 (n := Opl.nil ?_)))))))))))
  obtain rfl := Option.some.inj H
  refine Evr.ret2 Try.func23 rfl ?_
  show Out _ (.tup [.lit (.slice none 0 0), .lit (.bool false)]) _
  exact .tup2 (.sl .nil) .lit
 rw [if_pos c4] at H
 have e5 : (!r3) = false := by simpa using c4
 try rw [e5]
 refine Opl.p1 (n := Opl.p1 (n := Opl.one (v := .lit (.int .i64 (wrap64 (-a2)))) rfl rfl (by simp only [go_sem, Int.zero_sub, w64]; rfl) ?_))
 obtain ⟨r4, h_r4, H⟩ := Option.bind_eq_some_iff.1 H
 refine Opl.callc (slices_Contains_int_int.ev hv1 h_r4) rfl rfl rfl rfl ⟨hv1.plain, (.lit _), trivial⟩ (by decide) (Opl.p1 (n := Opl.p1 (n := Opl.nil ?_)))
 by_cases c5 : r4 = true
 case neg =>
  rw [if_neg c5] at H
  have e15 : (!r4) = true := by simpa using c5
  try rw [e15]
  refine Evr.condT rfl (Evr.sr rfl (Opl.one (v := .lit (.slice none 0 0)) rfl rfl rfl (Opl.one (v := .lit (.bool false)) rfl rfl rfl (Opl.nil ?_))))
  obtain rfl := Option.some.inj H
  refine Evr.ret2 Try.func23 rfl ?_
  show Out _ (.tup [.lit (.slice none 0 0), .lit (.bool false)]) _
  exact .tup2 (.sl .nil) .lit
 rw [if_pos c5] at H
 have e6 : (!r4) = false := by simpa using c5
 try rw [e6]
 refine Evr.condF rfl (Evr.skip (Evr.sr rfl (Opl.one (v := .lit (.slice none 0 0)) rfl rfl rfl (Opl.nil (Evr.seq (Evr.sr rfl (Opl.one (v := v0) rfl rfl rfl (Opl.len (xs := l0) (by exact hv0) K41 rfl rfl rfl rfl (Opl.one (v := .lit (.int .i64 0)) rfl rfl rfl (Opl.nil (Evr.block ?_)))))))))))
 refine Evr.loop (Evr.rounds (n := k) (Inv := fun n tm S => n ≤ k ∧ ∃ (x8q3_1 : List Int) (x40_1 : Int) (pv1 : PV), impl_Resolved.l1 n x8q3_1 x40_1 l0 l1 a2 = some r ∧ Has tm [(1, v1), (2, .lit (.int .i64 a2)), (8, pv1), (38, v0), (39, .lit (.int .i64 (l0.length : Int))), (40, .lit (.int .i64 x40_1))] ∧ Vec (cInt .i64) x8q3_1 pv1 S) ?_ ?_ ?_)
 · exact ⟨Nat.le_refl _, _, _, _, H, ⟨rfl, rfl, rfl, rfl, rfl, rfl, trivial⟩, .nil⟩
 ·
  rintro tm S ⟨_, _, _, _, H, -⟩
  simp [impl_Resolved.l1] at H
 ·
  rintro n1 ih1 tm S ⟨hle, x8q3_1, x40_1, pv1, H, hh, h1⟩
  simp only [impl_Resolved.l1] at H
  rw [hh.eq]
  refine Evr.sr rfl (Opl.p1 (n := Opl.nil (Evr.seq ?_)))
  by_cases c6 : x40_1 < (l0.length : Int)
  case pos =>
   rw [if_pos c6] at H
   have e7 : (decide (x40_1 < (l0.length : Int))) = true := by simpa using c6
   try rw [e7]
   refine Evr.condT rfl (Evr.skip (Evr.seq (Evr.block (Evr.sr rfl ?_))))
   obtain ⟨c7, H⟩ := peel H
   obtain ⟨c8, H⟩ := peel H
   refine Opl.idx (M := (cInt .i64)) (xs := l0) (j := x40_1) (0 : Int) (by exact hv0) rfl (by omega) (by omega) K41 Z3 rfl rfl ?_
   rintro p1 q1 h2
   obtain rfl : p1 = [.lit (.int .i64 (rd l0 x40_1))] := h2
   refine Opl.lda (.lit (.int .i64 (rd l0 x40_1))) rfl T3 rfl rfl rfl rfl (Opl.p1 (n := Opl.nil (Evr.sr rfl (Opl.p1 (n := Opl.p1 (n := Opl.p1 (n := Opl.nil ?_)))))))
   refine Evr.join (fun tm S => ∃ (kq1 : Nat) (x8q3_2 : List Int) (pv2 : PV), impl_Resolved.l1 kq1 x8q3_2 (wrap64 (x40_1 + 1)) l0 l1 a2 = some r ∧ kq1 ≤ n1 ∧ Has tm [(1, v1), (2, .lit (.int .i64 a2)), (8, pv2), (38, v0), (39, .lit (.int .i64 (l0.length : Int))), (40, .lit (.int .i64 x40_1))] ∧ Vec (cInt .i64) x8q3_2 pv2 S) ?_ fun hk1 => ?_
   ·
    rintro tm S ⟨kq1, x8q3_2, pv2, H, hle, hh, h3⟩
    rw [hh.eq]
    refine Evr.inBlock (Evr.regionN rfl (Opl.add (k := .i64) (a := x40_1) (b := 1) K3 rfl rfl rfl rfl (Opl.one (v := .lit (.int .i64 (wrap64 (x40_1 + 1)))) rfl rfl rfl (Opl.nil ?_))))
    exact ih1 _ (by omega) _ _ ⟨by omega, _, _, _, H, ⟨rfl, rfl, rfl, rfl, rfl, rfl, trivial⟩, h3⟩
   ·
    by_cases c9 : (rd l0 x40_1) ≠ a2
    case neg =>
     rw [if_neg c9] at H
     have e9 : ((rd l0 x40_1) != a2) = false := by simpa using c9
     try rw [e9]
     refine Evr.condF rfl (Evr.skip ?_)
     exact hk1 _ _ ⟨_, _, _, H, by omega, ⟨rfl, rfl, rfl, rfl, rfl, rfl, trivial⟩, h1⟩
    rw [if_pos c9] at H
    have e8 : ((rd l0 x40_1) != a2) = true := by simpa using c9
    try rw [e8]
    refine Evr.condT rfl (Evr.regionN rfl (Opl.p1 (n := Opl.p1 (n := Opl.liti (M := (cInt .i64)) (ys := [(rd l0 x40_1)]) [.tmp 48] K41 T3 rfl rfl rfl (by exact ⟨rfl, trivial⟩) rfl (by decide) rfl rfl ?_))))
    rintro pv4 h4
    obtain ⟨c10, H⟩ := peel H
    refine Opl.app (M := (cInt .i64)) (xs := x8q3_1) (ys := [(rd l0 x40_1)]) (v := pv1) h1 (.sl h4) (oInt .i64) rfl rfl K41 T3 rfl rfl (by (try simp only [List.length_cons, List.length_nil]); omega) (by show (_ + _) * 8 ≤ 140737488355328; (try simp only [List.length_cons, List.length_nil]); omega) rfl rfl rfl rfl rfl ?_
    rintro pv5 S h5 u1 w1
    refine Opl.p1 (n := Opl.nil ?_)
    exact hk1 _ _ ⟨_, _, _, H, by omega, ⟨rfl, rfl, rfl, rfl, rfl, rfl, trivial⟩, h5⟩
  rw [if_neg c6] at H
  have e10 : (decide (x40_1 < (l0.length : Int))) = false := by simpa using c6
  try rw [e10]
  refine Evr.condF rfl (Evr.exit rfl (Evr.seq (Evr.sr rfl (Opl.p1 (n := Opl.len (xs := l1) (by exact hv1) K41 rfl rfl rfl rfl (Opl.p1 (n := Opl.nil (Evr.block ?_))))))))
  refine Evr.loop (Evr.rounds (n := n1) (Inv := fun n tm S => n ≤ n1 ∧ ∃ (x8q5_1 : List Int) (x54q4_1 : Int) (pv6 : PV), impl_Resolved.l2 n x8q5_1 x54q4_1 l1 a2 = some r ∧ Has tm [(2, .lit (.int .i64 a2)), (8, pv6), (52, v1), (53, .lit (.int .i64 (l1.length : Int))), (54, .lit (.int .i64 x54q4_1))] ∧ Vec (cInt .i64) x8q5_1 pv6 S) ?_ ?_ ?_)
  · exact ⟨Nat.le_refl _, _, _, _, H, ⟨rfl, rfl, rfl, rfl, rfl, trivial⟩, h1⟩
  ·
   rintro tm S ⟨_, _, _, _, H, -⟩
   simp [impl_Resolved.l2] at H
  ·
   rintro n2 ih2 tm S ⟨hle, x8q5_1, x54q4_1, pv6, H, hh, h6⟩
   simp only [impl_Resolved.l2] at H
   rw [hh.eq]
   refine Evr.sr rfl (Opl.p1 (n := Opl.nil (Evr.seq ?_)))
   by_cases c11 : x54q4_1 < (l1.length : Int)
   case neg =>
    rw [if_neg c11] at H
    have e14 : (decide (x54q4_1 < (l1.length : Int))) = false := by simpa using c11
    try rw [e14]
    refine Evr.condF rfl (Evr.exit rfl (Evr.seq (Evr.frz 8 h6 rfl ?_)))
    rintro pv11 S h11 u3
    refine Evr.regionN rfl (Opl.p1 (n := ?_))
    obtain ⟨r5, h_r5, H⟩ := Option.bind_eq_some_iff.1 H
    refine Opl.call (impl_clauseOf.ev h11 h_r5) rfl rfl rfl rfl ⟨h11.plain, trivial⟩ (by decide) ?_
    rintro _ ⟨pv13, _, rfl, h13, rfl⟩
    refine Opl.p1 (v := pv13) (n := Opl.p1 (v := .lit (.bool r5.2)) (n := Opl.p1 (n := Opl.p1 (n := Opl.nil ?_))))
    obtain rfl := Option.some.inj H
    refine Evr.ret2 Try.func23 rfl ?_
    show Out _ (.tup [pv13, .lit (.bool r5.2)]) _
    exact .tup2 (.sl h13) .lit
   rw [if_pos c11] at H
   have e11 : (decide (x54q4_1 < (l1.length : Int))) = true := by simpa using c11
   try rw [e11]
   refine Evr.condT rfl (Evr.skip (Evr.seq (Evr.block (Evr.sr rfl ?_))))
   obtain ⟨c12, H⟩ := peel H
   obtain ⟨c13, H⟩ := peel H
   refine Opl.idx (M := (cInt .i64)) (xs := l1) (j := x54q4_1) (0 : Int) (by exact hv1) rfl (by omega) (by omega) K41 Z3 rfl rfl ?_
   rintro p2 q2 h7
   obtain rfl : p2 = [.lit (.int .i64 (rd l1 x54q4_1))] := h7
   refine Opl.lda (.lit (.int .i64 (rd l1 x54q4_1))) rfl T3 rfl rfl rfl rfl (Opl.p1 (n := Opl.nil (Evr.sr rfl (Opl.p1 (n := Opl.p1 (n := Opl.one (v := .lit (.int .i64 (wrap64 (-a2)))) rfl rfl (by simp only [go_sem, Int.zero_sub, w64]; rfl) (Opl.neq (a := (rd l1 x54q4_1)) (b := (wrap64 (-a2))) K3 rfl rfl rfl rfl (Opl.nil ?_))))))))
   refine Evr.join (fun tm S => ∃ (kq2 : Nat) (x8q5_2 : List Int) (pv7 : PV), impl_Resolved.l2 kq2 x8q5_2 (wrap64 (x54q4_1 + 1)) l1 a2 = some r ∧ kq2 ≤ n2 ∧ Has tm [(2, .lit (.int .i64 a2)), (8, pv7), (52, v1), (53, .lit (.int .i64 (l1.length : Int))), (54, .lit (.int .i64 x54q4_1))] ∧ Vec (cInt .i64) x8q5_2 pv7 S) ?_ fun hk2 => ?_
   ·
    rintro tm S ⟨kq2, x8q5_2, pv7, H, hle, hh, h8⟩
    rw [hh.eq]
    refine Evr.inBlock (Evr.regionN rfl (Opl.add (k := .i64) (a := x54q4_1) (b := 1) K3 rfl rfl rfl rfl (Opl.one (v := .lit (.int .i64 (wrap64 (x54q4_1 + 1)))) rfl rfl rfl (Opl.nil ?_))))
    exact ih2 _ (by omega) _ _ ⟨by omega, _, _, _, H, ⟨rfl, rfl, rfl, rfl, rfl, trivial⟩, h8⟩
   ·
    by_cases c14 : (rd l1 x54q4_1) ≠ (wrap64 (-a2))
    case neg =>
     rw [if_neg c14] at H
     have e13 : ((rd l1 x54q4_1) != (wrap64 (-a2))) = false := by simpa using c14
     try rw [e13]
     refine Evr.condF rfl (Evr.skip ?_)
     exact hk2 _ _ ⟨_, _, _, H, by omega, ⟨rfl, rfl, rfl, rfl, rfl, trivial⟩, h6⟩
    rw [if_pos c14] at H
    have e12 : ((rd l1 x54q4_1) != (wrap64 (-a2))) = true := by simpa using c14
    try rw [e12]
    refine Evr.condT rfl (Evr.regionN rfl (Opl.one (v := pv6) rfl rfl rfl (Opl.one (v := .lit (.int .i64 (rd l1 x54q4_1))) rfl rfl rfl (Opl.liti (M := (cInt .i64)) (ys := [(rd l1 x54q4_1)]) [.tmp 63] K41 T3 rfl rfl rfl (by exact ⟨rfl, trivial⟩) rfl (by decide) rfl rfl ?_))))
    rintro pv9 h9
    obtain ⟨c15, H⟩ := peel H
    refine Opl.app (M := (cInt .i64)) (xs := x8q5_1) (ys := [(rd l1 x54q4_1)]) (v := pv6) h6 (.sl h9) (oInt .i64) rfl rfl K41 T3 rfl rfl (by (try simp only [List.length_cons, List.length_nil]); omega) (by show (_ + _) * 8 ≤ 140737488355328; (try simp only [List.length_cons, List.length_nil]); omega) rfl rfl rfl rfl rfl ?_
    rintro pv10 S h10 u2 w2
    refine Opl.one (v := pv10) rfl rfl rfl (Opl.nil ?_)
    exact hk2 _ _ ⟨_, _, _, H, by omega, ⟨rfl, rfl, rfl, rfl, rfl, trivial⟩, h10⟩
theorem impl_ClausesValid_1.ev {k : Nat} {l0 : List Int} {v0 : PV} (hv0 : Sl (cInt .i64) l0 v0) {a1_0 : Int} {l1_1 : List (List Int)} {v1_1 : PV} (hv1_1 : Sl (cSl (cInt .i64)) l1_1 v1_1) {r : Bool} (H : impl_ClausesValid_1.f k l0 a1_0 l1_1 = some r) : Ret Try.prog 92 [v0, .fel ((.lit (.int .i64 a1_0)) :: v1_1 :: [])] fun v S => v = .lit (.bool r) := by
 unfold impl_ClausesValid_1.f at H
 refine Ret.intro Try.func92 rfl (Nat.le_of_ble_eq_true rfl) rfl ?_
 rw [tm2]
 refine Evr.sr rfl (Opl.p1 (n := Opl.nil (Evr.sr rfl (Opl.p1 (n := Opl.p1 (v := .fel ((.lit (.int .i64 a1_0)) :: v1_1 :: [])) (n := Opl.lda (.lit (.int .i64 a1_0)) rfl T3 rfl rfl rfl rfl ?_))))))
 obtain ⟨t303, h_t303, H⟩ := Option.bind_eq_some_iff.1 H
 refine Opl.callc (impl_ClauseValid.ev hv0 h_t303) rfl rfl rfl rfl ⟨hv0.plain, (.lit _), trivial⟩ (by decide) (Opl.p1 (n := Opl.p1 (n := Opl.nil ?_)))
 obtain rfl := Option.some.inj H
 refine Evr.ret1 Try.func92 rfl ?_
 show (.lit (.bool (!t303)) : PV) = _
 first | rfl | (simp only [go_sem]; rfl)
theorem slices_IndexFunc_at_impl_ClausesValid_1.ev {k : Nat} {l0 : List (List Int)} {v0 : PV} (hv0 : Sl (cSl (cInt .i64)) l0 v0) {a2_0 : Int} {l2_1 : List (List Int)} {v2_1 : PV} (hv2_1 : Sl (cSl (cInt .i64)) l2_1 v2_1) {r : Int} (H : slices_IndexFunc_at_impl_ClausesValid_1.f k l0 a2_0 l2_1 = some r) : Ret Try.prog 122 [v0, .fn 92 [.fel ((.lit (.int .i64 a2_0)) :: v2_1 :: [])]] fun v S => v = .lit (.int .i64 r) := by
 unfold slices_IndexFunc_at_impl_ClausesValid_1.f at H
 refine Ret.intro Try.func122 rfl (Nat.le_of_ble_eq_true rfl) rfl ?_
 rw [tm2]
 refine Evr.sr rfl (Opl.p1 (n := Opl.nil (Evr.seq (Evr.sr rfl (Opl.p1 (n := Opl.len (xs := l0) (by exact hv0) K22 rfl rfl rfl rfl (Opl.p1 (n := Opl.nil (Evr.block ?_)))))))))
 refine Evr.loop (Evr.rounds (n := k) (Inv := fun n tm S => n ≤ k ∧ ∃ (x8_1 : Int), slices_IndexFunc_at_impl_ClausesValid_1.l0 n l0 (l0.length : Int) x8_1 a2_0 l2_1 = some r ∧ Has tm [(0, v0), (1, .fn 92 [.fel ((.lit (.int .i64 a2_0)) :: v2_1 :: [])]), (7, .lit (.int .i64 (l0.length : Int))), (8, .lit (.int .i64 x8_1))]) ?_ ?_ ?_)
 · exact ⟨Nat.le_refl _, _, H, ⟨rfl, rfl, rfl, rfl, trivial⟩⟩
 ·
  rintro tm S ⟨_, _, H, -⟩
  simp [slices_IndexFunc_at_impl_ClausesValid_1.l0] at H
 ·
  rintro n1 ih1 tm S ⟨hle, x8_1, H, hh⟩
  simp only [slices_IndexFunc_at_impl_ClausesValid_1.l0] at H
  rw [hh.eq]
  refine Evr.sr rfl (Opl.p1 (n := Opl.nil (Evr.seq ?_)))
  by_cases c1 : x8_1 < (l0.length : Int)
  case neg =>
   rw [if_neg c1] at H
   have e2 : (decide (x8_1 < (l0.length : Int))) = false := by simpa using c1
   try rw [e2]
   refine Evr.condF rfl (Evr.exit rfl (Evr.sr rfl (Opl.p1 (n := Opl.nil ?_))))
   obtain rfl := Option.some.inj H
   refine Evr.ret1 Try.func122 rfl ?_
   show (.lit (.int .i64 (-1)) : PV) = _
   first | rfl | (simp only [go_sem]; rfl)
  rw [if_pos c1] at H
  have e1 : (decide (x8_1 < (l0.length : Int))) = true := by simpa using c1
  try rw [e1]
  refine Evr.condT rfl (Evr.skip (Evr.seq (Evr.block (Evr.sr rfl (Opl.p1 (n := Opl.p1 (n := Opl.nil (Evr.sr rfl (Opl.p1 (n := Opl.p1 (n := Opl.p1 (n := ?_))))))))))))
  obtain ⟨c2, H⟩ := peel H
  obtain ⟨c3, H⟩ := peel H
  refine Opl.idx (M := (cSl (cInt .i64))) (xs := l0) (j := x8_1) ([] : List Int) (by exact hv0) rfl (by omega) (by omega) K22 Z41 rfl rfl ?_
  rintro p1 q1 h1
  obtain ⟨pv1, rfl, h2⟩ := h1
  refine Opl.lda (pv1) rfl T41 rfl rfl rfl rfl ?_
  obtain ⟨t306, h_t306, H⟩ := Option.bind_eq_some_iff.1 H
  refine Opl.callc (impl_ClausesValid_1.ev h2 hv2_1 h_t306) rfl rfl rfl rfl ⟨h2.plain, (.felL ⟨(.lit _), hv2_1.plain, trivial⟩), trivial⟩ (by decide) (Opl.nil ?_)
  by_cases c4 : t306 = true
  case pos =>
   rw [if_pos c4] at H
   obtain rfl : t306 = true := by simpa using c4
   refine Evr.condT rfl (Evr.sr rfl (Opl.p1 (n := Opl.p1 (n := Opl.nil ?_))))
   obtain rfl := Option.some.inj H
   refine Evr.ret1 Try.func122 rfl ?_
   show (.lit (.int .i64 x8_1) : PV) = _
   first | rfl | (simp only [go_sem]; rfl)
  rw [if_neg c4] at H
  obtain rfl : t306 = false := by simpa using c4
  refine Evr.condF rfl (Evr.skip (Evr.inBlock (Evr.regionN rfl (Opl.add (k := .i64) (a := x8_1) (b := 1) K3 rfl rfl rfl rfl (Opl.one (v := .lit (.int .i64 (wrap64 (x8_1 + 1)))) rfl rfl rfl (Opl.nil ?_))))))
  exact ih1 _ (by omega) _ _ ⟨by omega, _, H, ⟨rfl, rfl, rfl, rfl, trivial⟩⟩
theorem slices_ContainsFunc_at_impl_ClausesValid_1.ev {k : Nat} {l0 : List (List Int)} {v0 : PV} (hv0 : Sl (cSl (cInt .i64)) l0 v0) {a2_0 : Int} {l2_1 : List (List Int)} {v2_1 : PV} (hv2_1 : Sl (cSl (cInt .i64)) l2_1 v2_1) {r : Bool} (H : slices_ContainsFunc_at_impl_ClausesValid_1.f k l0 a2_0 l2_1 = some r) : Ret Try.prog 91 [v0, .fn 92 [.fel ((.lit (.int .i64 a2_0)) :: v2_1 :: [])]] fun v S => v = .lit (.bool r) := by
 unfold slices_ContainsFunc_at_impl_ClausesValid_1.f at H
 refine Ret.intro Try.func91 rfl (Nat.le_of_ble_eq_true rfl) rfl ?_
 rw [tm2]
 refine Evr.sr rfl (Opl.p1 (n := Opl.nil (Evr.sr rfl (Opl.p1 (n := Opl.p1 (n := ?_))))))
 obtain ⟨t308, h_t308, H⟩ := Option.bind_eq_some_iff.1 H
 refine Opl.callc (slices_IndexFunc_at_impl_ClausesValid_1.ev hv0 hv2_1 h_t308) rfl rfl rfl rfl ⟨hv0.plain, (.fnL ⟨(.felL ⟨(.lit _), hv2_1.plain, trivial⟩), trivial⟩), trivial⟩ (by decide) (Opl.p1 (n := Opl.p1 (n := Opl.nil ?_)))
 obtain rfl := Option.some.inj H
 refine Evr.ret1 Try.func91 rfl ?_
 show (.lit (.bool (decide (t308 ≥ 0))) : PV) = _
 first | rfl | (simp only [go_sem]; rfl)
theorem impl_ClausesValid.ev {k : Nat} {a0_0 : Int} {l0_1 : List (List Int)} {v0_1 : PV} (hv0_1 : Sl (cSl (cInt .i64)) l0_1 v0_1) {r : Bool} (H : impl_ClausesValid.f k a0_0 l0_1 = some r) : Ret Try.prog 36 [.agg [.lit (.int .i64 a0_0), v0_1]] fun v S => v = .lit (.bool r) := by
 unfold impl_ClausesValid.f at H
 refine Ret.intro Try.func36 rfl (Nat.le_of_ble_eq_true rfl) rfl ?_
 rw [tm1]
 refine Evr.sr rfl (Opl.box (cs := [.lit (.int .i64 a0_0), v0_1]) rfl rfl rfl rfl ?_)
 rintro i1 S h1 u1 w1
 refine Opl.p1 (n := Opl.nil (Evr.sr rfl (Opl.p1 (v := .ptr i1 0) (n := Opl.ldb (v := .lit (.int .i64 a0_0)) h1 rfl T3 rfl rfl rfl rfl ?_))))
 obtain ⟨t310, h_t310, H⟩ := Option.bind_eq_some_iff.1 H
 refine Opl.callc (impl_in.ev h_t310) rfl rfl rfl rfl ⟨(.lit _), (.lit _), (.lit _), trivial⟩ (by decide) (Opl.p1 (n := ?_))
 by_cases c1 : t310 = true
 case neg =>
  rw [if_neg c1] at H
  obtain rfl : t310 = false := by simpa using c1
  refine Opl.skp rfl (Opl.skp rfl (Opl.skp rfl (Opl.skp rfl (Opl.p1 (n := Opl.p1 (n := Opl.skp rfl (Opl.skp rfl (Opl.skp rfl (Opl.skp rfl (Opl.skp rfl (Opl.p1 (n := Opl.p1 (n := Opl.nil ?_)))))))))))))
  obtain rfl := Option.some.inj H
  refine Evr.ret1 Try.func36 rfl ?_
  show (.lit (.bool false) : PV) = _
  first | rfl | (simp only [go_sem]; rfl)
 rw [if_pos c1] at H
 obtain rfl : t310 = true := by simpa using c1
 refine Opl.p1 (v := .ptr i1 1) (n := Opl.ldb (v := v0_1) h1 rfl T22 rfl rfl rfl rfl (Opl.len (xs := l0_1) (by exact hv0_1) K22 rfl rfl rfl rfl (Opl.p1 (n := Opl.p1 (n := Opl.p1 (n := ?_))))))
 by_cases c2 : (l0_1.length : Int) ≤ 2500
 case neg =>
  rw [if_neg c2] at H
  have e2 : (decide ((l0_1.length : Int) ≤ 2500)) = false := by simpa using c2
  try rw [e2]
  refine Opl.skp rfl (Opl.skp rfl (Opl.skp rfl (Opl.skp rfl (Opl.skp rfl (Opl.p1 (n := Opl.p1 (n := Opl.nil ?_)))))))
  obtain rfl := Option.some.inj H
  refine Evr.ret1 Try.func36 rfl ?_
  show (.lit (.bool false) : PV) = _
  first | rfl | (simp only [go_sem]; rfl)
 rw [if_pos c2] at H
 have e1 : (decide ((l0_1.length : Int) ≤ 2500)) = true := by simpa using c2
 try rw [e1]
 refine Opl.p1 (v := .ptr i1 1) (n := Opl.ldb (v := v0_1) h1 rfl T22 rfl rfl rfl rfl (Opl.p1 (n := ?_)))
 obtain ⟨t311, h_t311, H⟩ := Option.bind_eq_some_iff.1 H
 refine Opl.callw (slices_ContainsFunc_at_impl_ClausesValid_1.ev hv0_1 hv0_1 h_t311) rfl rfl rfl (.cons (.refl _) (.cons (View.fnV (.cons (View.boxV h1 (.cons (.refl _) (.cons (.refl _) .nil))) .nil)) .nil)) ⟨hv0_1.plain, (.fnL ⟨(.felL ⟨(.lit _), hv0_1.plain, trivial⟩), trivial⟩), trivial⟩ (by decide) (Opl.p1 (n := Opl.p1 (n := Opl.p1 (n := Opl.nil ?_))))
 obtain rfl := Option.some.inj H
 refine Evr.ret1 Try.func36 rfl ?_
 show (.lit (.bool (!t311)) : PV) = _
 first | rfl | (simp only [go_sem]; rfl)
theorem impl_bitsValid_1.ev {a0 : Int} {r : Bool} (H : impl_bitsValid_1.f a0 = some r) : Ret Try.prog 116 [.lit (.int .i64 a0)] fun v S => v = .lit (.bool r) := by
 unfold impl_bitsValid_1.f at H
 refine Ret.intro Try.func116 rfl (Nat.le_of_ble_eq_true rfl) rfl ?_
 rw [tm1]
 refine Evr.sr rfl (Opl.p1 (n := Opl.nil (Evr.sr rfl (Opl.p1 (n := ?_)))))
 obtain ⟨t739, h_t739, H⟩ := Option.bind_eq_some_iff.1 H
 refine Opl.callc (impl_in.ev h_t739) rfl rfl rfl rfl ⟨(.lit _), (.lit _), (.lit _), trivial⟩ (by decide) (Opl.p1 (n := Opl.p1 (n := Opl.nil ?_)))
 obtain rfl := Option.some.inj H
 refine Evr.ret1 Try.func116 rfl ?_
 show (.lit (.bool (!t739)) : PV) = _
 first | rfl | (simp only [go_sem]; rfl)
theorem slices_IndexFunc_at_impl_bitsValid_1.ev {k : Nat} {l0 : List Int} {v0 : PV} (hv0 : Sl (cInt .i64) l0 v0) {r : Int} (H : slices_IndexFunc_at_impl_bitsValid_1.f k l0 = some r) : Ret Try.prog 107 [v0, .lit (.func (.func 116) #[] #[])] fun v S => v = .lit (.int .i64 r) := by
 unfold slices_IndexFunc_at_impl_bitsValid_1.f at H
 refine Ret.intro Try.func107 rfl (Nat.le_of_ble_eq_true rfl) rfl ?_
 rw [tm2]
 refine Evr.sr rfl (Opl.p1 (n := Opl.nil (Evr.seq (Evr.sr rfl (Opl.p1 (n := Opl.len (xs := l0) (by exact hv0) K41 rfl rfl rfl rfl (Opl.p1 (n := Opl.nil (Evr.block ?_)))))))))
 refine Evr.loop (Evr.rounds (n := k) (Inv := fun n tm S => n ≤ k ∧ ∃ (x8_1 : Int), slices_IndexFunc_at_impl_bitsValid_1.l0 n l0 (l0.length : Int) x8_1 = some r ∧ Has tm [(0, v0), (1, .lit (.func (.func 116) #[] #[])), (7, .lit (.int .i64 (l0.length : Int))), (8, .lit (.int .i64 x8_1))]) ?_ ?_ ?_)
 · exact ⟨Nat.le_refl _, _, H, ⟨rfl, rfl, rfl, rfl, trivial⟩⟩
 ·
  rintro tm S ⟨_, _, H, -⟩
  simp [slices_IndexFunc_at_impl_bitsValid_1.l0] at H
 ·
  rintro n1 ih1 tm S ⟨hle, x8_1, H, hh⟩
  simp only [slices_IndexFunc_at_impl_bitsValid_1.l0] at H
  rw [hh.eq]
  refine Evr.sr rfl (Opl.p1 (n := Opl.nil (Evr.seq ?_)))
  by_cases c1 : x8_1 < (l0.length : Int)
  case neg =>
   rw [if_neg c1] at H
   have e2 : (decide (x8_1 < (l0.length : Int))) = false := by simpa using c1
   try rw [e2]
   refine Evr.condF rfl (Evr.exit rfl (Evr.sr rfl (Opl.p1 (n := Opl.nil ?_))))
   obtain rfl := Option.some.inj H
   refine Evr.ret1 Try.func107 rfl ?_
   show (.lit (.int .i64 (-1)) : PV) = _
   first | rfl | (simp only [go_sem]; rfl)
  rw [if_pos c1] at H
  have e1 : (decide (x8_1 < (l0.length : Int))) = true := by simpa using c1
  try rw [e1]
  refine Evr.condT rfl (Evr.skip (Evr.seq (Evr.block (Evr.sr rfl (Opl.p1 (n := Opl.p1 (n := Opl.nil (Evr.sr rfl (Opl.p1 (n := Opl.p1 (n := Opl.p1 (n := ?_))))))))))))
  obtain ⟨c2, H⟩ := peel H
  obtain ⟨c3, H⟩ := peel H
  refine Opl.idx (M := (cInt .i64)) (xs := l0) (j := x8_1) (0 : Int) (by exact hv0) rfl (by omega) (by omega) K41 Z3 rfl rfl ?_
  rintro p1 q1 h1
  obtain rfl : p1 = [.lit (.int .i64 (rd l0 x8_1))] := h1
  refine Opl.lda (.lit (.int .i64 (rd l0 x8_1))) rfl T3 rfl rfl rfl rfl ?_
  obtain ⟨t741, h_t741, H⟩ := Option.bind_eq_some_iff.1 H
  refine Opl.callc (impl_bitsValid_1.ev h_t741) rfl rfl rfl rfl ⟨(.lit _), trivial⟩ (by decide) (Opl.nil ?_)
  by_cases c4 : t741 = true
  case pos =>
   rw [if_pos c4] at H
   obtain rfl : t741 = true := by simpa using c4
   refine Evr.condT rfl (Evr.sr rfl (Opl.p1 (n := Opl.p1 (n := Opl.nil ?_))))
   obtain rfl := Option.some.inj H
   refine Evr.ret1 Try.func107 rfl ?_
   show (.lit (.int .i64 x8_1) : PV) = _
   first | rfl | (simp only [go_sem]; rfl)
  rw [if_neg c4] at H
  obtain rfl : t741 = false := by simpa using c4
  refine Evr.condF rfl (Evr.skip (Evr.inBlock (Evr.regionN rfl (Opl.add (k := .i64) (a := x8_1) (b := 1) K3 rfl rfl rfl rfl (Opl.one (v := .lit (.int .i64 (wrap64 (x8_1 + 1)))) rfl rfl rfl (Opl.nil ?_))))))
  exact ih1 _ (by omega) _ _ ⟨by omega, _, H, ⟨rfl, rfl, rfl, rfl, trivial⟩⟩
theorem slices_ContainsFunc_at_impl_bitsValid_1.ev {k : Nat} {l0 : List Int} {v0 : PV} (hv0 : Sl (cInt .i64) l0 v0) {r : Bool} (H : slices_ContainsFunc_at_impl_bitsValid_1.f k l0 = some r) : Ret Try.prog 66 [v0, .lit (.func (.func 116) #[] #[])] fun v S => v = .lit (.bool r) := by
 unfold slices_ContainsFunc_at_impl_bitsValid_1.f at H
 refine Ret.intro Try.func66 rfl (Nat.le_of_ble_eq_true rfl) rfl ?_
 rw [tm2]
 refine Evr.sr rfl (Opl.p1 (n := Opl.nil (Evr.sr rfl (Opl.p1 (n := Opl.p1 (n := ?_))))))
 obtain ⟨t742, h_t742, H⟩ := Option.bind_eq_some_iff.1 H
 refine Opl.callc (slices_IndexFunc_at_impl_bitsValid_1.ev hv0 h_t742) rfl rfl rfl rfl ⟨hv0.plain, (.lit _), trivial⟩ (by decide) (Opl.p1 (n := Opl.p1 (n := Opl.nil ?_)))
 obtain rfl := Option.some.inj H
 refine Evr.ret1 Try.func66 rfl ?_
 show (.lit (.bool (decide (t742 ≥ 0))) : PV) = _
 first | rfl | (simp only [go_sem]; rfl)
theorem impl_bitsValid.ev {k : Nat} {l0 : List Int} {v0 : PV} (hv0 : Sl (cInt .i64) l0 v0) {r : Bool} (H : impl_bitsValid.f k l0 = some r) : Ret Try.prog 78 [v0] fun v S => v = .lit (.bool r) := by
 unfold impl_bitsValid.f at H
 refine Ret.intro Try.func78 rfl (Nat.le_of_ble_eq_true rfl) rfl ?_
 rw [tm1]
 refine Evr.sr rfl (Opl.p1 (n := Opl.nil (Evr.sr rfl (Opl.p1 (n := ?_)))))
 obtain ⟨t743, h_t743, H⟩ := Option.bind_eq_some_iff.1 H
 refine Opl.callc (slices_ContainsFunc_at_impl_bitsValid_1.ev hv0 h_t743) rfl rfl rfl rfl ⟨hv0.plain, (.lit _), trivial⟩ (by decide) (Opl.p1 (n := Opl.p1 (n := Opl.nil ?_)))
 obtain rfl := Option.some.inj H
 refine Evr.ret1 Try.func78 rfl ?_
 show (.lit (.bool (!t743)) : PV) = _
 first | rfl | (simp only [go_sem]; rfl)
theorem impl_bit.ev {a0 : Bool} {r : Int} (H : impl_bit.f a0 = some r) : Ret Try.prog 125 [.lit (.bool a0)] fun v S => v = .lit (.int .i64 r) := by
 unfold impl_bit.f at H
 refine Ret.intro Try.func125 rfl (Nat.le_of_ble_eq_true rfl) rfl ?_
 rw [tm1]
 refine Evr.sr rfl (Opl.p1 (n := Opl.nil (Evr.seq (Evr.sr rfl (Opl.p1 (n := Opl.nil ?_))))))
 by_cases c1 : a0 = true
 case pos =>
  rw [if_pos c1] at H
  obtain rfl : a0 = true := by simpa using c1
  refine Evr.condT rfl (Evr.sr rfl (Opl.p1 (n := Opl.nil ?_)))
  obtain rfl := Option.some.inj H
  refine Evr.ret1 Try.func125 rfl ?_
  show (.lit (.int .i64 1) : PV) = _
  first | rfl | (simp only [go_sem]; rfl)
 rw [if_neg c1] at H
 obtain rfl : a0 = false := by simpa using c1
 refine Evr.condF rfl (Evr.skip (Evr.sr rfl (Opl.p1 (n := Opl.nil ?_))))
 obtain rfl := Option.some.inj H
 refine Evr.ret1 Try.func125 rfl ?_
 show (.lit (.int .i64 0) : PV) = _
 first | rfl | (simp only [go_sem]; rfl)
theorem impl_litTrue.ev {a0 : Int} {l1 : List Int} {v1 : PV} (hv1 : Sl (cInt .i64) l1 v1) {r : Bool} (H : impl_litTrue.f a0 l1 = some r) : Ret Try.prog 104 [.lit (.int .i64 a0), v1] fun v S => v = .lit (.bool r) := by
 unfold impl_litTrue.f at H
 refine Ret.intro Try.func104 rfl (Nat.le_of_ble_eq_true rfl) rfl ?_
 rw [tm2]
 refine Evr.sr rfl (Opl.p1 (n := Opl.nil (Evr.seq (Evr.regionD rfl (by kernel_rfl) (Opl.p1 (n := Opl.p1 (n := ?_)))))))
 obtain ⟨t378, h_t378, H⟩ := Option.bind_eq_some_iff.1 H
 refine Opl.callc (impl_atomOf.ev h_t378) rfl rfl rfl rfl ⟨(.lit _), trivial⟩ (by decide) (Opl.subi (k := .i64) (a := t378) (b := 1) K3 rfl rfl rfl rfl ?_)
 obtain ⟨c1, H⟩ := peel H
 obtain ⟨c2, H⟩ := peel H
 refine Opl.idx (M := (cInt .i64)) (xs := l1) (j := (wrap64 (t378 - 1))) (0 : Int) (by exact hv1) rfl (by omega) (by omega) K41 Z3 rfl rfl ?_
 rintro p1 q1 h1
 obtain rfl : p1 = [.lit (.int .i64 (rd l1 (wrap64 (t378 - 1))))] := h1
 refine Opl.lda (.lit (.int .i64 (rd l1 (wrap64 (t378 - 1))))) rfl T3 rfl rfl rfl rfl (Opl.one (v := .lit (.int .i64 a0)) rfl rfl rfl (Opl.p1 (n := ?_)))
 obtain ⟨t380, h_t380, H⟩ := Option.bind_eq_some_iff.1 H
 refine Opl.callc (impl_bit.ev h_t380) rfl rfl rfl rfl ⟨(.lit _), trivial⟩ (by decide) (Opl.eql (a := (rd l1 (wrap64 (t378 - 1)))) (b := t380) K3 rfl rfl rfl rfl (Opl.one (v := .lit (.bool ((rd l1 (wrap64 (t378 - 1))) == t380))) rfl rfl rfl (Opl.nil ?_)))
 obtain rfl := Option.some.inj H
 refine Evr.ret1 Try.func104 rfl ?_
 show (.lit (.bool ((rd l1 (wrap64 (t378 - 1))) == t380)) : PV) = _
 first | rfl | (simp only [go_sem]; rfl)
theorem impl_trueIn_1_1.ev {k : Nat} {a0 : Int} {l1 : List Int} {v1 : PV} (hv1 : Sl (cInt .i64) l1 v1) {r : Bool} (H : impl_trueIn_1_1.f k a0 l1 = some r) : Ret Try.prog 103 [.lit (.int .i64 a0), .fel (v1 :: [])] fun v S => v = .lit (.bool r) := by
 unfold impl_trueIn_1_1.f at H
 refine Ret.intro Try.func103 rfl (Nat.le_of_ble_eq_true rfl) rfl ?_
 rw [tm2]
 refine Evr.sr rfl (Opl.p1 (n := Opl.nil (Evr.sr rfl (Opl.p1 (n := Opl.lda (v1) rfl T41 rfl rfl rfl rfl ?_)))))
 obtain ⟨r1, h_r1, H⟩ := Option.bind_eq_some_iff.1 H
 refine Opl.callc (impl_litTrue.ev hv1 h_r1) rfl rfl rfl rfl ⟨(.lit _), hv1.plain, trivial⟩ (by decide) (Opl.p1 (n := Opl.nil ?_))
 obtain rfl := Option.some.inj H
 refine Evr.ret1 Try.func103 rfl ?_
 show (.lit (.bool r1) : PV) = _
 first | rfl | (simp only [go_sem]; rfl)
theorem slices_IndexFunc_int_int_at_impl_trueIn_1_1.ev {k : Nat} {l0 : List Int} {v0 : PV} (hv0 : Sl (cInt .i64) l0 v0) {l2 : List Int} {v2 : PV} (hv2 : Sl (cInt .i64) l2 v2) {r : Int} (H : slices_IndexFunc_int_int_at_impl_trueIn_1_1.f k l0 l2 = some r) : Ret Try.prog 107 [v0, .fn 103 [.fel (v2 :: [])]] fun v S => v = .lit (.int .i64 r) := by
 unfold slices_IndexFunc_int_int_at_impl_trueIn_1_1.f at H
 refine Ret.intro Try.func107 rfl (Nat.le_of_ble_eq_true rfl) rfl ?_
 rw [tm2]
 refine Evr.sr rfl (Opl.p1 (n := Opl.nil (Evr.seq (Evr.sr rfl (Opl.p1 (n := Opl.len (xs := l0) (by exact hv0) K41 rfl rfl rfl rfl (Opl.p1 (n := Opl.nil (Evr.block ?_)))))))))
 refine Evr.loop (Evr.rounds (n := k) (Inv := fun n tm S => n ≤ k ∧ ∃ (x8_1 : Int), slices_IndexFunc_int_int_at_impl_trueIn_1_1.l1 n x8_1 l0 l2 = some r ∧ Has tm [(0, v0), (1, .fn 103 [.fel (v2 :: [])]), (7, .lit (.int .i64 (l0.length : Int))), (8, .lit (.int .i64 x8_1))]) ?_ ?_ ?_)
 · exact ⟨Nat.le_refl _, _, H, ⟨rfl, rfl, rfl, rfl, trivial⟩⟩
 ·
  rintro tm S ⟨_, _, H, -⟩
  simp [slices_IndexFunc_int_int_at_impl_trueIn_1_1.l1] at H
 ·
  rintro n1 ih1 tm S ⟨hle, x8_1, H, hh⟩
  simp only [slices_IndexFunc_int_int_at_impl_trueIn_1_1.l1] at H
  rw [hh.eq]
  refine Evr.sr rfl (Opl.p1 (n := Opl.nil (Evr.seq ?_)))
  by_cases c1 : x8_1 < (l0.length : Int)
  case neg =>
   rw [if_neg c1] at H
   have e2 : (decide (x8_1 < (l0.length : Int))) = false := by simpa using c1
   try rw [e2]
   refine Evr.condF rfl (Evr.exit rfl (Evr.sr rfl (Opl.p1 (n := Opl.nil ?_))))
   obtain rfl := Option.some.inj H
   refine Evr.ret1 Try.func107 rfl ?_
   show (.lit (.int .i64 (-1)) : PV) = _
   first | rfl | (simp only [go_sem]; rfl)
  rw [if_pos c1] at H
  have e1 : (decide (x8_1 < (l0.length : Int))) = true := by simpa using c1
  try rw [e1]
  refine Evr.condT rfl (Evr.skip (Evr.seq (Evr.block (Evr.sr rfl (Opl.p1 (n := Opl.p1 (n := Opl.nil (Evr.sr rfl (Opl.p1 (n := Opl.p1 (n := Opl.p1 (n := ?_))))))))))))
  obtain ⟨c2, H⟩ := peel H
  obtain ⟨c3, H⟩ := peel H
  refine Opl.idx (M := (cInt .i64)) (xs := l0) (j := x8_1) (0 : Int) (by exact hv0) rfl (by omega) (by omega) K41 Z3 rfl rfl ?_
  rintro p1 q1 h1
  obtain rfl : p1 = [.lit (.int .i64 (rd l0 x8_1))] := h1
  refine Opl.lda (.lit (.int .i64 (rd l0 x8_1))) rfl T3 rfl rfl rfl rfl ?_
  obtain ⟨r1, h_r1, H⟩ := Option.bind_eq_some_iff.1 H
  refine Opl.callc (impl_trueIn_1_1.ev hv2 h_r1) rfl rfl rfl rfl ⟨(.lit _), (.felL ⟨hv2.plain, trivial⟩), trivial⟩ (by decide) (Opl.nil ?_)
  by_cases c4 : r1 = true
  case pos =>
   rw [if_pos c4] at H
   obtain rfl : r1 = true := by simpa using c4
   refine Evr.condT rfl (Evr.sr rfl (Opl.p1 (n := Opl.p1 (n := Opl.nil ?_))))
   obtain rfl := Option.some.inj H
   refine Evr.ret1 Try.func107 rfl ?_
   show (.lit (.int .i64 x8_1) : PV) = _
   first | rfl | (simp only [go_sem]; rfl)
  rw [if_neg c4] at H
  obtain rfl : r1 = false := by simpa using c4
  refine Evr.condF rfl (Evr.skip (Evr.inBlock (Evr.regionN rfl (Opl.add (k := .i64) (a := x8_1) (b := 1) K3 rfl rfl rfl rfl (Opl.one (v := .lit (.int .i64 (wrap64 (x8_1 + 1)))) rfl rfl rfl (Opl.nil ?_))))))
  exact ih1 _ (by omega) _ _ ⟨by omega, _, H, ⟨rfl, rfl, rfl, rfl, trivial⟩⟩
theorem slices_ContainsFunc_int_int_at_impl_trueIn_1_1.ev {k : Nat} {l0 : List Int} {v0 : PV} (hv0 : Sl (cInt .i64) l0 v0) {l2 : List Int} {v2 : PV} (hv2 : Sl (cInt .i64) l2 v2) {r : Bool} (H : slices_ContainsFunc_int_int_at_impl_trueIn_1_1.f k l0 l2 = some r) : Ret Try.prog 66 [v0, .fn 103 [.fel (v2 :: [])]] fun v S => v = .lit (.bool r) := by
 unfold slices_ContainsFunc_int_int_at_impl_trueIn_1_1.f at H
 refine Ret.intro Try.func66 rfl (Nat.le_of_ble_eq_true rfl) rfl ?_
 rw [tm2]
 refine Evr.sr rfl (Opl.p1 (n := Opl.nil (Evr.sr rfl (Opl.p1 (n := Opl.p1 (n := ?_))))))
 obtain ⟨r1, h_r1, H⟩ := Option.bind_eq_some_iff.1 H
 refine Opl.callc (slices_IndexFunc_int_int_at_impl_trueIn_1_1.ev hv0 hv2 h_r1) rfl rfl rfl rfl ⟨hv0.plain, (.fnL ⟨(.felL ⟨hv2.plain, trivial⟩), trivial⟩), trivial⟩ (by decide) (Opl.p1 (n := Opl.p1 (n := Opl.nil ?_)))
 obtain rfl := Option.some.inj H
 refine Evr.ret1 Try.func66 rfl ?_
 show (.lit (.bool (decide (r1 ≥ 0))) : PV) = _
 first | rfl | (simp only [go_sem]; rfl)
theorem impl_trueIn_1.ev {k : Nat} {l0 : List Int} {v0 : PV} (hv0 : Sl (cInt .i64) l0 v0) {l1 : List Int} {v1 : PV} (hv1 : Sl (cInt .i64) l1 v1) {r : Bool} (H : impl_trueIn_1.f k l0 l1 = some r) : Ret Try.prog 102 [v0, .fel (v1 :: [])] fun v S => v = .lit (.bool r) := by
 unfold impl_trueIn_1.f at H
 refine Ret.intro Try.func102 rfl (Nat.le_of_ble_eq_true rfl) rfl ?_
 rw [tm2]
 refine Evr.sr rfl (Opl.p1 (n := Opl.nil (Evr.sr rfl (Opl.p1 (n := Opl.p1 (n := ?_))))))
 obtain ⟨r1, h_r1, H⟩ := Option.bind_eq_some_iff.1 H
 refine Opl.callc (slices_ContainsFunc_int_int_at_impl_trueIn_1_1.ev hv0 hv1 h_r1) rfl rfl rfl rfl ⟨hv0.plain, (.fnL ⟨(.felL ⟨hv1.plain, trivial⟩), trivial⟩), trivial⟩ (by decide) (Opl.p1 (n := Opl.p1 (n := Opl.nil ?_)))
 obtain rfl := Option.some.inj H
 refine Evr.ret1 Try.func102 rfl ?_
 show (.lit (.bool (!r1)) : PV) = _
 first | rfl | (simp only [go_sem]; rfl)
theorem slices_IndexFunc_int_int_at_impl_trueIn_1.ev {k : Nat} {l0 : List (List Int)} {v0 : PV} (hv0 : Sl (cSl (cInt .i64)) l0 v0) {l2 : List Int} {v2 : PV} (hv2 : Sl (cInt .i64) l2 v2) {r : Int} (H : slices_IndexFunc_int_int_at_impl_trueIn_1.f k l0 l2 = some r) : Ret Try.prog 122 [v0, .fn 102 [.fel (v2 :: [])]] fun v S => v = .lit (.int .i64 r) := by
 unfold slices_IndexFunc_int_int_at_impl_trueIn_1.f at H
 refine Ret.intro Try.func122 rfl (Nat.le_of_ble_eq_true rfl) rfl ?_
 rw [tm2]
 refine Evr.sr rfl (Opl.p1 (n := Opl.nil (Evr.seq (Evr.sr rfl (Opl.p1 (n := Opl.len (xs := l0) (by exact hv0) K22 rfl rfl rfl rfl (Opl.p1 (n := Opl.nil (Evr.block ?_)))))))))
 refine Evr.loop (Evr.rounds (n := k) (Inv := fun n tm S => n ≤ k ∧ ∃ (x8_1 : Int), slices_IndexFunc_int_int_at_impl_trueIn_1.l1 n x8_1 l0 l2 = some r ∧ Has tm [(0, v0), (1, .fn 102 [.fel (v2 :: [])]), (7, .lit (.int .i64 (l0.length : Int))), (8, .lit (.int .i64 x8_1))]) ?_ ?_ ?_)
 · exact ⟨Nat.le_refl _, _, H, ⟨rfl, rfl, rfl, rfl, trivial⟩⟩
 ·
  rintro tm S ⟨_, _, H, -⟩
  simp [slices_IndexFunc_int_int_at_impl_trueIn_1.l1] at H
 ·
  rintro n1 ih1 tm S ⟨hle, x8_1, H, hh⟩
  simp only [slices_IndexFunc_int_int_at_impl_trueIn_1.l1] at H
  rw [hh.eq]
  refine Evr.sr rfl (Opl.p1 (n := Opl.nil (Evr.seq ?_)))
  by_cases c1 : x8_1 < (l0.length : Int)
  case neg =>
   rw [if_neg c1] at H
   have e2 : (decide (x8_1 < (l0.length : Int))) = false := by simpa using c1
   try rw [e2]
   refine Evr.condF rfl (Evr.exit rfl (Evr.sr rfl (Opl.p1 (n := Opl.nil ?_))))
   obtain rfl := Option.some.inj H
   refine Evr.ret1 Try.func122 rfl ?_
   show (.lit (.int .i64 (-1)) : PV) = _
   first | rfl | (simp only [go_sem]; rfl)
  rw [if_pos c1] at H
  have e1 : (decide (x8_1 < (l0.length : Int))) = true := by simpa using c1
  try rw [e1]
  refine Evr.condT rfl (Evr.skip (Evr.seq (Evr.block (Evr.sr rfl (Opl.p1 (n := Opl.p1 (n := Opl.nil (Evr.sr rfl (Opl.p1 (n := Opl.p1 (n := Opl.p1 (n := ?_))))))))))))
  obtain ⟨c2, H⟩ := peel H
  obtain ⟨c3, H⟩ := peel H
  refine Opl.idx (M := (cSl (cInt .i64))) (xs := l0) (j := x8_1) ([] : List Int) (by exact hv0) rfl (by omega) (by omega) K22 Z41 rfl rfl ?_
  rintro p1 q1 h1
  obtain ⟨pv1, rfl, h2⟩ := h1
  refine Opl.lda (pv1) rfl T41 rfl rfl rfl rfl ?_
  obtain ⟨r1, h_r1, H⟩ := Option.bind_eq_some_iff.1 H
  refine Opl.callc (impl_trueIn_1.ev h2 hv2 h_r1) rfl rfl rfl rfl ⟨h2.plain, (.felL ⟨hv2.plain, trivial⟩), trivial⟩ (by decide) (Opl.nil ?_)
  by_cases c4 : r1 = true
  case pos =>
   rw [if_pos c4] at H
   obtain rfl : r1 = true := by simpa using c4
   refine Evr.condT rfl (Evr.sr rfl (Opl.p1 (n := Opl.p1 (n := Opl.nil ?_))))
   obtain rfl := Option.some.inj H
   refine Evr.ret1 Try.func122 rfl ?_
   show (.lit (.int .i64 x8_1) : PV) = _
   first | rfl | (simp only [go_sem]; rfl)
  rw [if_neg c4] at H
  obtain rfl : r1 = false := by simpa using c4
  refine Evr.condF rfl (Evr.skip (Evr.inBlock (Evr.regionN rfl (Opl.add (k := .i64) (a := x8_1) (b := 1) K3 rfl rfl rfl rfl (Opl.one (v := .lit (.int .i64 (wrap64 (x8_1 + 1)))) rfl rfl rfl (Opl.nil ?_))))))
  exact ih1 _ (by omega) _ _ ⟨by omega, _, H, ⟨rfl, rfl, rfl, rfl, trivial⟩⟩
theorem slices_ContainsFunc_int_int_at_impl_trueIn_1.ev {k : Nat} {l0 : List (List Int)} {v0 : PV} (hv0 : Sl (cSl (cInt .i64)) l0 v0) {l2 : List Int} {v2 : PV} (hv2 : Sl (cInt .i64) l2 v2) {r : Bool} (H : slices_ContainsFunc_int_int_at_impl_trueIn_1.f k l0 l2 = some r) : Ret Try.prog 91 [v0, .fn 102 [.fel (v2 :: [])]] fun v S => v = .lit (.bool r) := by
 unfold slices_ContainsFunc_int_int_at_impl_trueIn_1.f at H
 refine Ret.intro Try.func91 rfl (Nat.le_of_ble_eq_true rfl) rfl ?_
 rw [tm2]
 refine Evr.sr rfl (Opl.p1 (n := Opl.nil (Evr.sr rfl (Opl.p1 (n := Opl.p1 (n := ?_))))))
 obtain ⟨r1, h_r1, H⟩ := Option.bind_eq_some_iff.1 H
 refine Opl.callc (slices_IndexFunc_int_int_at_impl_trueIn_1.ev hv0 hv2 h_r1) rfl rfl rfl rfl ⟨hv0.plain, (.fnL ⟨(.felL ⟨hv2.plain, trivial⟩), trivial⟩), trivial⟩ (by decide) (Opl.p1 (n := Opl.p1 (n := Opl.nil ?_)))
 obtain rfl := Option.some.inj H
 refine Evr.ret1 Try.func91 rfl ?_
 show (.lit (.bool (decide (r1 ≥ 0))) : PV) = _
 first | rfl | (simp only [go_sem]; rfl)
theorem impl_trueIn.ev {k : Nat} {l0 : List (List Int)} {v0 : PV} (hv0 : Sl (cSl (cInt .i64)) l0 v0) {l1 : List Int} {v1 : PV} (hv1 : Sl (cInt .i64) l1 v1) {r : Bool} (H : impl_trueIn.f k l0 l1 = some r) : Ret Try.prog 59 [v0, v1] fun v S => v = .lit (.bool r) := by
 unfold impl_trueIn.f at H
 refine Ret.intro Try.func59 rfl (Nat.le_of_ble_eq_true rfl) rfl ?_
 rw [tm2]
 refine Evr.sr rfl (Opl.box (cs := [v1]) (by exact hv1.cells) rfl rfl rfl ?_)
 rintro i1 S h1 u1 w1
 refine Opl.p1 (n := Opl.nil (Evr.sr rfl (Opl.p1 (n := Opl.p1 (n := ?_)))))
 obtain ⟨r1, h_r1, H⟩ := Option.bind_eq_some_iff.1 H
 refine Opl.callw (slices_ContainsFunc_int_int_at_impl_trueIn_1.ev hv0 hv1 h_r1) rfl rfl rfl (.cons (.refl _) (.cons (View.fnV (.cons (View.boxV h1 (.cons (.refl _) .nil)) .nil)) .nil)) ⟨hv0.plain, (.fnL ⟨(.felL ⟨hv1.plain, trivial⟩), trivial⟩), trivial⟩ (by decide) (Opl.p1 (n := Opl.p1 (n := Opl.nil ?_)))
 obtain rfl := Option.some.inj H
 refine Evr.ret1 Try.func59 rfl ?_
 show (.lit (.bool (!r1)) : PV) = _
 first | rfl | (simp only [go_sem]; rfl)
theorem impl_TrueIn.ev {k : Nat} {a0_0 : Int} {l0_1 : List (List Int)} {v0_1 : PV} (hv0_1 : Sl (cSl (cInt .i64)) l0_1 v0_1) {l1 : List Int} {v1 : PV} (hv1 : Sl (cInt .i64) l1 v1) {r : Bool} (H : impl_TrueIn.f k a0_0 l0_1 l1 = some r) : Ret Try.prog 26 [.agg [.lit (.int .i64 a0_0), v0_1], v1] fun v S => v = .lit (.bool r) := by
 unfold impl_TrueIn.f at H
 refine Ret.intro Try.func26 rfl (Nat.le_of_ble_eq_true rfl) rfl ?_
 rw [tm2]
 refine Evr.sr rfl (Opl.box (cs := [.lit (.int .i64 a0_0), v0_1]) rfl rfl rfl rfl ?_)
 rintro i1 S h1 u1 w1
 refine Opl.p1 (n := Opl.nil (Evr.sr rfl (Opl.ldb (v := .agg [.lit (.int .i64 a0_0), v0_1]) h1 rfl T31 rfl rfl rfl rfl ?_)))
 obtain ⟨r1, h_r1, H⟩ := Option.bind_eq_some_iff.1 H
 refine Opl.callc (impl_ClausesValid.ev hv0_1 h_r1) rfl rfl rfl rfl ⟨(.aggL ⟨(.lit _), hv0_1.plain, trivial⟩), trivial⟩ (by decide) (Opl.p1 (n := ?_))
 by_cases c1 : r1 = true
 case neg =>
  rw [if_neg c1] at H
  obtain rfl : r1 = false := by simpa using c1
  refine Opl.skp rfl (Opl.skp rfl (Opl.skp rfl (Opl.skp rfl (Opl.skp rfl (Opl.p1 (n := Opl.p1 (n := Opl.skp rfl (Opl.skp rfl (Opl.p1 (n := Opl.p1 (n := Opl.skp rfl (Opl.skp rfl (Opl.skp rfl (Opl.skp rfl (Opl.p1 (n := Opl.p1 (n := Opl.nil ?_)))))))))))))))))
  obtain rfl := Option.some.inj H
  refine Evr.ret1 Try.func26 rfl ?_
  show (.lit (.bool false) : PV) = _
  first | rfl | (simp only [go_sem]; rfl)
 rw [if_pos c1] at H
 obtain rfl : r1 = true := by simpa using c1
 refine Opl.p1 (n := Opl.len (xs := l1) (by exact hv1) K41 rfl rfl rfl rfl (Opl.p1 (v := .ptr i1 0) (n := Opl.ldb (v := .lit (.int .i64 a0_0)) h1 rfl T3 rfl rfl rfl rfl (Opl.p1 (n := Opl.p1 (n := Opl.p1 (n := ?_)))))))
 by_cases c2 : (l1.length : Int) = a0_0
 case neg =>
  rw [if_neg c2] at H
  have e2 : ((l1.length : Int) == a0_0) = false := by simpa using c2
  try rw [e2]
  refine Opl.skp rfl (Opl.skp rfl (Opl.p1 (n := Opl.p1 (n := Opl.skp rfl (Opl.skp rfl (Opl.skp rfl (Opl.skp rfl (Opl.p1 (n := Opl.p1 (n := Opl.nil ?_))))))))))
  obtain rfl := Option.some.inj H
  refine Evr.ret1 Try.func26 rfl ?_
  show (.lit (.bool false) : PV) = _
  first | rfl | (simp only [go_sem]; rfl)
 rw [if_pos c2] at H
 have e1 : ((l1.length : Int) == a0_0) = true := by simpa using c2
 try rw [e1]
 refine Opl.p1 (n := ?_)
 obtain ⟨r2, h_r2, H⟩ := Option.bind_eq_some_iff.1 H
 refine Opl.callc (impl_bitsValid.ev hv1 h_r2) rfl rfl rfl rfl ⟨hv1.plain, trivial⟩ (by decide) (Opl.p1 (n := Opl.p1 (n := ?_)))
 by_cases c3 : r2 = true
 case neg =>
  rw [if_neg c3] at H
  obtain rfl : r2 = false := by simpa using c3
  refine Opl.skp rfl (Opl.skp rfl (Opl.skp rfl (Opl.skp rfl (Opl.p1 (n := Opl.p1 (n := Opl.nil ?_))))))
  obtain rfl := Option.some.inj H
  refine Evr.ret1 Try.func26 rfl ?_
  show (.lit (.bool false) : PV) = _
  first | rfl | (simp only [go_sem]; rfl)
 rw [if_pos c3] at H
 obtain rfl : r2 = true := by simpa using c3
 refine Opl.p1 (v := .ptr i1 1) (n := Opl.ldb (v := v0_1) h1 rfl T22 rfl rfl rfl rfl (Opl.p1 (n := ?_)))
 obtain ⟨r3, h_r3, H⟩ := Option.bind_eq_some_iff.1 H
 refine Opl.callc (impl_trueIn.ev hv0_1 hv1 h_r3) rfl rfl rfl rfl ⟨hv0_1.plain, hv1.plain, trivial⟩ (by decide) (Opl.p1 (n := Opl.p1 (n := Opl.nil ?_)))
 obtain rfl := Option.some.inj H
 refine Evr.ret1 Try.func26 rfl ?_
 show (.lit (.bool r3) : PV) = _
 first | rfl | (simp only [go_sem]; rfl)
end Go.Proofs.Ytaajnneigmgikaa.PA
end
