/- Walks of Go functions: each is shown to answer as the Lean function beside it tells, under the conditions that its theorem names. -/
import Derived.Test.YtikjlbanfbkhmaaProg
import Derived.KernelRfl
import Derived.Below
import Derived.Deep.Draws
import Derived.Deep.AppendLies
import Derived.Maps.AppendAt
import Derived.OwnWalk
import Derived.Laws.BytesArg
import Derived.Laws.MakeOwn
import Derived.Laws.OwnMore
import Derived.Deep.OwnRows
import Derived.Tactics
import Derived.Lib.ConvBytes
import Derived.Laws.Slices
import Derived.WalkKit
import Derived.RowKit3
import Derived.Deep.LoopGhost
import Derived.Deep.QuietTactic
import Derived.BigQuiet
import Derived.WideLaws
import Derived.Deep.DeepCutAuto
import Derived.Deep.CutBlock
import Derived.Deep.RegionHeld3
import Derived.Laws.Rows
import Derived.Lib.AppendStr
import Derived.ArgAppend
import Derived.Laws.IdiomCopy
import Derived.OrdersHeld
import Derived.Laws.BitsLemmas
import Derived.RowKit
import Derived.Laws.StructEq
import Derived.Lib.SliceRun
import Derived.WalkSpells
import Derived.ChangeArms
import Derived.ChangeSlices
import Derived.Deep.Slices
import Derived.Attr
import Derived.Laws.Append
import Derived.Laws.AppendOwn
import Derived.Laws.Entries
import Derived.Calls
import Derived.Laws.Sem
import Derived.Test.YtikjlbanfbkhmaaKW02f765b98d
import Derived.Test.YtikjlbanfbkhmaaKD7b8a93b072
section
namespace Go.Proofs.Ytikjlbanfbkhmaa.PA
open Go Go.Abs Go.RowKit Go.Proofs Go.Proofs.YtikjlbanfbkhmaaW.PrintWords Go.Proofs.YtikjlbanfbkhmaaW.PrintLast Go.Proofs.YtikjlbanfbkhmaaW.PrintMore
set_option maxRecDepth 100000
theorem K3 : tkAt Try.prog 3 = some (.int .i64) := by kernel_rfl
theorem Z3 : szAt Try.prog 3 = some 1 := by kernel_rfl
theorem T3 : tiOf Try.prog 3 = some ⟨(.int .i64), 1, 8, [.int .i64 0], []⟩ := by kernel_rfl
theorem K4 : tkAt Try.prog 4 = some .bool := by kernel_rfl
theorem Z4 : szAt Try.prog 4 = some 1 := by kernel_rfl
theorem T4 : tiOf Try.prog 4 = some ⟨.bool, 1, 1, [.bool false], []⟩ := by kernel_rfl
theorem K5 : tkAt Try.prog 5 = some (.int .u8) := by kernel_rfl
theorem Z5 : szAt Try.prog 5 = some 1 := by kernel_rfl
theorem T5 : tiOf Try.prog 5 = some ⟨(.int .u8), 1, 1, [.int .u8 0], []⟩ := by kernel_rfl
theorem K22 : tkAt Try.prog 22 = some (.slice 66) := by kernel_rfl
theorem Z22 : szAt Try.prog 22 = some 1 := by kernel_rfl
theorem T22 : tiOf Try.prog 22 = some ⟨(.slice 66), 1, 24, [.slice none 0 0], []⟩ := by kernel_rfl
theorem K23 : tkAt Try.prog 23 = some (.slice 26) := by kernel_rfl
theorem Z23 : szAt Try.prog 23 = some 1 := by kernel_rfl
theorem T23 : tiOf Try.prog 23 = some ⟨(.slice 26), 1, 24, [.slice none 0 0], []⟩ := by kernel_rfl
theorem K26 : tkAt Try.prog 26 = some (.slice 3) := by kernel_rfl
theorem Z26 : szAt Try.prog 26 = some 1 := by kernel_rfl
theorem T26 : tiOf Try.prog 26 = some ⟨(.slice 3), 1, 24, [.slice none 0 0], []⟩ := by kernel_rfl
theorem K28 : tkAt Try.prog 28 = some (.slice 64) := by kernel_rfl
theorem Z28 : szAt Try.prog 28 = some 1 := by kernel_rfl
theorem T28 : tiOf Try.prog 28 = some ⟨(.slice 64), 1, 24, [.slice none 0 0], []⟩ := by kernel_rfl
theorem K38 : tkAt Try.prog 38 = some .strct := by kernel_rfl
theorem Z38 : szAt Try.prog 38 = some 3 := by kernel_rfl
theorem T38 : tiOf Try.prog 38 = some ⟨.strct, 3, 56, [.slice none 0 0, .int .i64 0, .slice none 0 0], [⟨0, 1, (.slice 26)⟩, ⟨1, 1, (.int .i64)⟩, ⟨2, 1, (.slice 26)⟩]⟩ := by kernel_rfl
theorem K39 : tkAt Try.prog 39 = some (.slice 83) := by kernel_rfl
theorem Z39 : szAt Try.prog 39 = some 1 := by kernel_rfl
theorem T39 : tiOf Try.prog 39 = some ⟨(.slice 83), 1, 24, [.slice none 0 0], []⟩ := by kernel_rfl
theorem K43 : tkAt Try.prog 43 = some .strct := by kernel_rfl
theorem Z43 : szAt Try.prog 43 = some 3 := by kernel_rfl
theorem T43 : tiOf Try.prog 43 = some ⟨.strct, 3, 56, [.slice none 0 0, .int .i64 0, .slice none 0 0], [⟨0, 1, (.slice 26)⟩, ⟨1, 1, (.int .i64)⟩, ⟨2, 1, (.slice 26)⟩]⟩ := by kernel_rfl
theorem K45 : tkAt Try.prog 45 = some (.slice 80) := by kernel_rfl
theorem Z45 : szAt Try.prog 45 = some 1 := by kernel_rfl
theorem T45 : tiOf Try.prog 45 = some ⟨(.slice 80), 1, 24, [.slice none 0 0], []⟩ := by kernel_rfl
theorem K52 : tkAt Try.prog 52 = some (.slice 5) := by kernel_rfl
theorem Z52 : szAt Try.prog 52 = some 1 := by kernel_rfl
theorem T52 : tiOf Try.prog 52 = some ⟨(.slice 5), 1, 24, [.slice none 0 0], []⟩ := by kernel_rfl
theorem K64 : tkAt Try.prog 64 = some .strct := by kernel_rfl
theorem Z64 : szAt Try.prog 64 = some 4 := by kernel_rfl
theorem T64 : tiOf Try.prog 64 = some ⟨.strct, 4, 32, [.int .i64 0, .int .i64 0, .int .i64 0, .int .i64 0], [⟨0, 1, (.int .i64)⟩, ⟨1, 1, (.int .i64)⟩, ⟨2, 1, (.int .i64)⟩, ⟨3, 1, (.int .i64)⟩]⟩ := by kernel_rfl
theorem K66 : tkAt Try.prog 66 = some .strct := by kernel_rfl
theorem Z66 : szAt Try.prog 66 = some 4 := by kernel_rfl
theorem T66 : tiOf Try.prog 66 = some ⟨.strct, 4, 32, [.int .i64 0, .int .i64 0, .int .i64 0, .int .i64 0], [⟨0, 1, (.int .i64)⟩, ⟨1, 1, (.int .i64)⟩, ⟨2, 1, (.int .i64)⟩, ⟨3, 1, (.int .i64)⟩]⟩ := by kernel_rfl
theorem K77 : tkAt Try.prog 77 = some (.slice 78) := by kernel_rfl
theorem Z77 : szAt Try.prog 77 = some 1 := by kernel_rfl
theorem T77 : tiOf Try.prog 77 = some ⟨(.slice 78), 1, 24, [.slice none 0 0], []⟩ := by kernel_rfl
theorem K78 : tkAt Try.prog 78 = some (.slice 4) := by kernel_rfl
theorem Z78 : szAt Try.prog 78 = some 1 := by kernel_rfl
theorem T78 : tiOf Try.prog 78 = some ⟨(.slice 4), 1, 24, [.slice none 0 0], []⟩ := by kernel_rfl
theorem K80 : tkAt Try.prog 80 = some .strct := by kernel_rfl
theorem Z80 : szAt Try.prog 80 = some 4 := by kernel_rfl
theorem T80 : tiOf Try.prog 80 = some ⟨.strct, 4, 32, [.int .i64 0, .int .i64 0, .int .i64 0, .int .i64 0], [⟨0, 1, (.int .i64)⟩, ⟨1, 1, (.int .i64)⟩, ⟨2, 1, (.int .i64)⟩, ⟨3, 1, (.int .i64)⟩]⟩ := by kernel_rfl
theorem K83 : tkAt Try.prog 83 = some .strct := by kernel_rfl
theorem Z83 : szAt Try.prog 83 = some 4 := by kernel_rfl
theorem T83 : tiOf Try.prog 83 = some ⟨.strct, 4, 32, [.int .i64 0, .int .i64 0, .int .i64 0, .int .i64 0], [⟨0, 1, (.int .i64)⟩, ⟨1, 1, (.int .i64)⟩, ⟨2, 1, (.int .i64)⟩, ⟨3, 1, (.int .i64)⟩]⟩ := by kernel_rfl
theorem K90 : tkAt Try.prog 90 = some .func := by kernel_rfl
theorem Z90 : szAt Try.prog 90 = some 1 := by kernel_rfl
theorem T90 : tiOf Try.prog 90 = some ⟨.func, 1, 8, [.nilFunc], []⟩ := by kernel_rfl
theorem K93 : tkAt Try.prog 93 = some .func := by kernel_rfl
theorem Z93 : szAt Try.prog 93 = some 1 := by kernel_rfl
theorem T93 : tiOf Try.prog 93 = some ⟨.func, 1, 8, [.nilFunc], []⟩ := by kernel_rfl
theorem K95 : tkAt Try.prog 95 = some (.slice 23) := by kernel_rfl
theorem Z95 : szAt Try.prog 95 = some 1 := by kernel_rfl
theorem T95 : tiOf Try.prog 95 = some ⟨(.slice 23), 1, 24, [.slice none 0 0], []⟩ := by kernel_rfl
theorem K105 : tkAt Try.prog 105 = some .func := by kernel_rfl
theorem Z105 : szAt Try.prog 105 = some 1 := by kernel_rfl
theorem T105 : tiOf Try.prog 105 = some ⟨.func, 1, 8, [.nilFunc], []⟩ := by kernel_rfl
theorem K108 : tkAt Try.prog 108 = some (.ptr 121) := by kernel_rfl
theorem Z108 : szAt Try.prog 108 = some 1 := by kernel_rfl
theorem T108 : tiOf Try.prog 108 = some ⟨(.ptr 121), 1, 8, [.pointer none], []⟩ := by kernel_rfl
theorem K117 : tkAt Try.prog 117 = some .func := by kernel_rfl
theorem Z117 : szAt Try.prog 117 = some 1 := by kernel_rfl
theorem T117 : tiOf Try.prog 117 = some ⟨.func, 1, 8, [.nilFunc], []⟩ := by kernel_rfl
theorem K121 : tkAt Try.prog 121 = some .strct := by kernel_rfl
theorem Z121 : szAt Try.prog 121 = some 2 := by kernel_rfl
theorem T121 : tiOf Try.prog 121 = some ⟨.strct, 2, 32, [.slice none 0 0, .int .i64 0], [⟨0, 1, (.slice 5)⟩, ⟨1, 1, (.int .i64)⟩]⟩ := by kernel_rfl
theorem O64 : structOffs Try.prog 64 = some [0, 1, 2, 3] := by kernel_rfl
def cITime : Cd ITime := cIso (cPair (cInt .i64) (cPair (cInt .i64) (cPair (cInt .i64) (cInt .i64)))) (fun x => (x.f0, x.f1, x.f2, x.f3))
theorem oITime : cITime.Ones := oIso (oPair (oInt .i64) (oPair (oInt .i64) (oPair (oInt .i64) (oInt .i64))))
theorem cITime_R {x : ITime} {c : List PV} (h : cITime.R x c) : c = [.lit (.int .i64 x.f0), .lit (.int .i64 x.f1), .lit (.int .i64 x.f2), .lit (.int .i64 x.f3)] := by
  obtain ⟨p0, q0, e0, g0, r0⟩ := h
  obtain ⟨p1, q1, e1, g1, r1⟩ := r0
  obtain ⟨p2, q2, e2, g2, r2⟩ := r1
  have g0' : p0 = _ := g0
  have g1' : p1 = _ := g1
  have g2' : p2 = _ := g2
  have g3' : q2 = _ := r2
  rw [e0, g0', e1, g1', e2, g2', g3']; rfl
theorem cITime_mk {a0 : Int} {a1 : Int} {a2 : Int} {a3 : Int}  : cITime.R ⟨a0, a1, a2, a3⟩ [.lit (.int .i64 a0), .lit (.int .i64 a1), .lit (.int .i64 a2), .lit (.int .i64 a3)] := ⟨_, _, rfl, rfl, ⟨_, _, rfl, rfl, ⟨_, _, rfl, rfl, rfl⟩⟩⟩
attribute [go_sem] K3 Z3 T3 K4 Z4 T4 K5 Z5 T5 K22 Z22 T22 K23 Z23 T23 K26 Z26 T26 K28 Z28 T28 K38 Z38 T38 K39 Z39 T39 K43 Z43 T43 K45 Z45 T45 K52 Z52 T52 K64 Z64 T64 K66 Z66 T66 K77 Z77 T77 K78 Z78 T78 K80 Z80 T80 K83 Z83 T83 K90 Z90 T90 K93 Z93 T93 K95 Z95 T95 K105 Z105 T105 K108 Z108 T108 K117 Z117 T117 K121 Z121 T121
end Go.Proofs.Ytikjlbanfbkhmaa.PA
end
section
namespace Go.Proofs.Ytikjlbanfbkhmaa.PA
open Go Go.Abs Go.RowKit Go.Proofs Go.Proofs.YtikjlbanfbkhmaaW.PrintWords Go.Proofs.YtikjlbanfbkhmaaW.PrintLast Go.Proofs.YtikjlbanfbkhmaaW.PrintMore
set_option maxRecDepth 100000
set_option maxHeartbeats 4000000
set_option linter.unusedVariables false
set_option linter.unusedSimpArgs false
theorem impl_in.ev {a0 : Int} {a1 : Int} {a2 : Int} {r : Bool} (H : impl_in.f a0 a1 a2 = some r) : Ret Try.prog 64 [.lit (.int .i64 a0), .lit (.int .i64 a1), .lit (.int .i64 a2)] fun v S => v = .lit (.bool r) := by
 unfold impl_in.f at H
 refine Ret.intro Try.func64 rfl (Nat.le_of_ble_eq_true rfl) rfl ?_
 rw [tm3]
 refine Evr.sr rfl (Opl.p1 (n := Opl.nil (Evr.sr rfl (Opl.p1 (n := Opl.p1 (n := Opl.p1 (n := Opl.p1 (n := ?_))))))))
 by_cases c1 : a0 ≥ a1
 case neg =>
  rw [if_neg c1] at H
  have e2 : (decide (a0 ≥ a1)) = false := by simpa using c1
  try rw [e2]
  refine Opl.skp rfl (Opl.skp rfl (Opl.skp rfl (Opl.p1 (n := Opl.p1 (n := Opl.nil ?_)))))
  obtain rfl := Option.some.inj H
  refine Evr.ret1 Try.func64 rfl ?_
  show (.lit (.bool false) : PV) = _
  first | rfl | (simp only [go_sem]; rfl)
 rw [if_pos c1] at H
 have e1 : (decide (a0 ≥ a1)) = true := by simpa using c1
 try rw [e1]
 refine Opl.p1 (n := Opl.p1 (n := Opl.p1 (n := Opl.p1 (n := Opl.p1 (n := Opl.nil ?_)))))
 obtain rfl := Option.some.inj H
 refine Evr.ret1 Try.func64 rfl ?_
 show (.lit (.bool (decide (a0 ≤ a2))) : PV) = _
 first | rfl | (simp only [go_sem]; rfl)
theorem impl_TimesValid.ev {k : Nat} {l0 : List ITime} {v0 : PV} (hv0 : Sl cITime l0 v0) {a1 : Int} {r : Bool} (H : impl_TimesValid.f k l0 a1 = some r) : Ret Try.prog 75 [v0, .lit (.int .i64 a1)] fun v S => v = .lit (.bool r) := by
 unfold impl_TimesValid.f at H
 refine Ret.intro Try.func75 rfl (Nat.le_of_ble_eq_true rfl) rfl ?_
 rw [tm2]
 refine Evr.sr rfl (Opl.p1 (n := Opl.nil (Evr.seq (Evr.seq ?_))))
 refine Evr.join (fun tm S => ∃ (kq1 : Nat) (x16_1 : Bool), impl_TimesValid.j0 kq1 l0 a1 x16_1 = some r ∧ Has tm [(0, v0), (1, .lit (.int .i64 a1)), (16, .lit (.bool x16_1))]) ?_ fun hk1 => ?_
 ·
  rintro tm S ⟨kq1, x16_1, H, hh⟩
  rw [hh.eq]
  obtain _ | k1 := kq1
  · simp [impl_TimesValid.j0] at H
  simp only [impl_TimesValid.j0] at H
  by_cases c1 : x16_1 = true
  case pos =>
   rw [if_pos c1] at H
   obtain rfl : x16_1 = true := by simpa using c1
   refine Evr.condT rfl (Evr.sr rfl (Opl.p1 (n := Opl.nil ?_)))
   obtain rfl := Option.some.inj H
   refine Evr.ret1 Try.func75 rfl ?_
   show (.lit (.bool false) : PV) = _
   first | rfl | (simp only [go_sem]; rfl)
  rw [if_neg c1] at H
  obtain rfl : x16_1 = false := by simpa using c1
  refine Evr.condF rfl (Evr.skip (Evr.seq (Evr.sr rfl (Opl.p1 (n := Opl.len (xs := l0) (by exact hv0) K28 rfl rfl rfl rfl (Opl.p1 (n := Opl.nil (Evr.block ?_))))))))
  refine Evr.loop (Evr.rounds (n := k1) (Inv := fun n tm S => n ≤ k1 ∧ ∃ (x19_1 : Int), impl_TimesValid.l0 n a1 l0 (l0.length : Int) x19_1 = some r ∧ Has tm [(1, .lit (.int .i64 a1)), (17, v0), (18, .lit (.int .i64 (l0.length : Int))), (19, .lit (.int .i64 x19_1))]) ?_ ?_ ?_)
  · exact ⟨Nat.le_refl _, _, H, ⟨rfl, rfl, rfl, rfl, trivial⟩⟩
  ·
   rintro tm S ⟨_, _, H, -⟩
   simp [impl_TimesValid.l0] at H
  ·
   rintro n1 ih1 tm S ⟨hle, x19_1, H, hh⟩
   simp only [impl_TimesValid.l0] at H
   rw [hh.eq]
   refine Evr.sr rfl (Opl.p1 (n := Opl.nil (Evr.seq ?_)))
   by_cases c2 : x19_1 < (l0.length : Int)
   case neg =>
    rw [if_neg c2] at H
    have e16 : (decide (x19_1 < (l0.length : Int))) = false := by simpa using c2
    try rw [e16]
    refine Evr.condF rfl (Evr.exit rfl (Evr.sr rfl (Opl.p1 (n := Opl.nil ?_))))
    obtain rfl := Option.some.inj H
    refine Evr.ret1 Try.func75 rfl ?_
    show (.lit (.bool true) : PV) = _
    first | rfl | (simp only [go_sem]; rfl)
   rw [if_pos c2] at H
   have e1 : (decide (x19_1 < (l0.length : Int))) = true := by simpa using c2
   try rw [e1]
   refine Evr.condT rfl (Evr.skip (Evr.seq (Evr.block (Evr.sr rfl (Opl.p1 (n := ?_))))))
   obtain ⟨c3, H⟩ := peel H
   obtain ⟨c4, H⟩ := peel H
   refine Opl.idx (M := cITime) (xs := l0) (j := x19_1) zITime (by exact hv0) rfl (by omega) (by omega) K28 Z64 rfl rfl ?_
   rintro p1 q1 h1
   obtain rfl := cITime_R (x := (rd_ITime l0 x19_1)) h1
   refine Opl.lda (.agg [.lit (.int .i64 ((rd_ITime l0 x19_1).f0)), .lit (.int .i64 ((rd_ITime l0 x19_1).f1)), .lit (.int .i64 ((rd_ITime l0 x19_1).f2)), .lit (.int .i64 ((rd_ITime l0 x19_1).f3))]) rfl T64 rfl rfl rfl rfl (Opl.alloc T64 rfl rfl rfl ?_)
   rintro i1 S h2 u1 w1
   refine Opl.p1 (n := Opl.stb (vs := [.lit (.int .i64 ((rd_ITime l0 x19_1).f0)), .lit (.int .i64 ((rd_ITime l0 x19_1).f1)), .lit (.int .i64 ((rd_ITime l0 x19_1).f2)), .lit (.int .i64 ((rd_ITime l0 x19_1).f3))]) h2 rfl rfl Z64 rfl (Nat.le_of_ble_eq_true rfl) rfl rfl rfl rfl ?_)
   rintro S (h3 : Box (.ptr i1 0) [.lit (.int .i64 ((rd_ITime l0 x19_1).f0)), .lit (.int .i64 ((rd_ITime l0 x19_1).f1)), .lit (.int .i64 ((rd_ITime l0 x19_1).f2)), .lit (.int .i64 ((rd_ITime l0 x19_1).f3))] _) u2
   refine Opl.nil (Evr.sr rfl (Opl.p1 (v := .ptr i1 0) (n := Opl.ldb (v := .lit (.int .i64 ((rd_ITime l0 x19_1).f0))) h3 rfl T3 rfl rfl rfl rfl ?_)))
   obtain ⟨t281, h_t281, H⟩ := Option.bind_eq_some_iff.1 H
   refine Opl.callc (impl_in.ev h_t281) rfl rfl rfl rfl ⟨(.lit _), (.lit _), (.lit _), trivial⟩ (by decide) (Opl.p1 (n := Opl.nil (Evr.seq (Evr.sr rfl (Opl.p1 (v := .ptr i1 0) (n := Opl.ldb (v := .lit (.int .i64 ((rd_ITime l0 x19_1).f0))) h3 rfl T3 rfl rfl rfl rfl (Opl.nil (Evr.block (Evr.sr rfl (Opl.p1 (n := Opl.p1 (n := Opl.nil ?_))))))))))))
   refine Evr.join (fun tm S => ∃ (kq2 : Nat) (x7_1 : Bool), impl_TimesValid.j2 kq2 a1 x7_1 l0 (l0.length : Int) x19_1 = some r ∧ kq2 ≤ n1 ∧ Has tm [(1, .lit (.int .i64 a1)), (7, .lit (.bool x7_1)), (17, v0), (18, .lit (.int .i64 (l0.length : Int))), (19, .lit (.int .i64 x19_1))]) ?_ fun hk2 => ?_
   ·
    rintro tm S ⟨kq2, x7_1, H, hle, hh⟩
    rw [hh.eq]
    refine Evr.inBlock (Evr.sr rfl (Opl.p1 (n := Opl.p1 (n := Opl.nil ?_))))
    obtain _ | k2 := kq2
    · simp [impl_TimesValid.j2] at H
    simp only [impl_TimesValid.j2] at H
    by_cases c5 : x7_1 = true
    case neg =>
     rw [if_neg c5] at H
     have e3 : (!x7_1) = true := by simpa using c5
     try rw [e3]
     refine Evr.condT rfl (Evr.sr rfl (Opl.p1 (n := Opl.nil ?_)))
     obtain rfl := Option.some.inj H
     refine Evr.ret1 Try.func75 rfl ?_
     show (.lit (.bool false) : PV) = _
     first | rfl | (simp only [go_sem]; rfl)
    rw [if_pos c5] at H
    have e2 : (!x7_1) = false := by simpa using c5
    try rw [e2]
    refine Evr.condF rfl (Evr.skip (Evr.inBlock (Evr.regionN rfl (Opl.add (k := .i64) (a := x19_1) (b := 1) K3 rfl rfl rfl rfl (Opl.one (v := .lit (.int .i64 (wrap64 (x19_1 + 1)))) rfl rfl rfl (Opl.nil ?_))))))
    exact ih1 _ (by omega) _ _ ⟨by omega, _, H, ⟨rfl, rfl, rfl, rfl, trivial⟩⟩
   ·
    by_cases c6 : ((rd_ITime l0 x19_1).f0) = 0
    case pos =>
     rw [if_pos c6] at H
     have e4 : (((rd_ITime l0 x19_1).f0) == 0) = true := by simpa using c6
     try rw [e4]
     refine Evr.condT rfl (Evr.regionN rfl (Opl.ldb (v := .agg [.lit (.int .i64 ((rd_ITime l0 x19_1).f0)), .lit (.int .i64 ((rd_ITime l0 x19_1).f1)), .lit (.int .i64 ((rd_ITime l0 x19_1).f2)), .lit (.int .i64 ((rd_ITime l0 x19_1).f3))]) h3 rfl T64 rfl rfl rfl rfl (Opl.p1 (v := .agg [.lit (.int .i64 0), .lit (.int .i64 0), .lit (.int .i64 0), .lit (.int .i64 0)]) (n := Opl.eqs (b := (((rd_ITime l0 x19_1).f0) == 0 && (((rd_ITime l0 x19_1).f1) == 0 && (((rd_ITime l0 x19_1).f2) == 0 && (((rd_ITime l0 x19_1).f3) == 0 && true))))) O64 K64 rfl rfl rfl rfl rfl (Opl.p1 (n := Opl.nil ?_))))))
     exact hk2 _ _ ⟨_, _, H, by omega, ⟨rfl, (by first | rfl | (show PV.lit (.bool _) = _; congr 2; simp_all)), rfl, rfl, rfl, trivial⟩⟩
    rw [if_neg c6] at H
    have e5 : (((rd_ITime l0 x19_1).f0) == 0) = false := by simpa using c6
    try rw [e5]
    refine Evr.condF rfl (Evr.sr rfl (Opl.p1 (n := Opl.p1 (n := Opl.nil ?_))))
    refine Evr.join (fun tm S => ∃ (kq3 : Nat) (x7_2 : Bool), impl_TimesValid.j2 kq3 a1 x7_2 l0 (l0.length : Int) x19_1 = some r ∧ kq3 ≤ n1 ∧ Has tm [(1, .lit (.int .i64 a1)), (7, .lit (.bool x7_2)), (17, v0), (18, .lit (.int .i64 (l0.length : Int))), (19, .lit (.int .i64 x19_1))]) ?_ fun hk3 => ?_
    ·
     rintro tm S ⟨kq3, x7_2, H, hle, hh⟩
     rw [hh.eq]
     exact hk2 _ _ ⟨_, _, H, by omega, ⟨rfl, (by first | rfl | (show PV.lit (.bool _) = _; congr 2; simp_all)), rfl, rfl, rfl, trivial⟩⟩
    ·
     by_cases c7 : ((rd_ITime l0 x19_1).f0) = 1
     case pos =>
      rw [if_pos c7] at H
      have e6 : (((rd_ITime l0 x19_1).f0) == 1) = true := by simpa using c7
      try rw [e6]
      refine Evr.condT rfl ?_
      refine Evr.join (fun tm S => ∃ (kq4 : Nat) (x7_3 : Bool), impl_TimesValid.j2 kq4 a1 x7_3 l0 (l0.length : Int) x19_1 = some r ∧ kq4 ≤ n1 ∧ Has tm [(1, .lit (.int .i64 a1)), (7, .lit (.bool x7_3)), (17, v0), (18, .lit (.int .i64 (l0.length : Int))), (19, .lit (.int .i64 x19_1))]) ?_ fun hk4 => ?_
      ·
       rintro tm S ⟨kq4, x7_3, H, hle, hh⟩
       rw [hh.eq]
       exact hk3 _ _ ⟨_, _, H, by omega, ⟨rfl, (by first | rfl | (show PV.lit (.bool _) = _; congr 2; simp_all)), rfl, rfl, rfl, trivial⟩⟩
      ·
       refine Evr.regionN rfl (Opl.p1 (v := .ptr i1 1) (n := Opl.ldb (v := .lit (.int .i64 ((rd_ITime l0 x19_1).f1))) h3 rfl T3 rfl rfl rfl rfl (Opl.p1 (n := Opl.subi (k := .i64) (a := a1) (b := 1) K3 rfl rfl rfl rfl ?_))))
       obtain ⟨t282, h_t282, H⟩ := Option.bind_eq_some_iff.1 H
       refine Opl.callc (impl_in.ev h_t282) rfl rfl rfl rfl ⟨(.lit _), (.lit _), (.lit _), trivial⟩ (by decide) (Opl.one (v := .lit (.bool t282)) rfl rfl rfl ?_)
       by_cases c8 : t282 = true
       case neg =>
        rw [if_neg c8] at H
        obtain rfl : t282 = false := by simpa using c8
        refine Opl.skp rfl (Opl.skp rfl (Opl.skp rfl (Opl.one (v := .lit (.bool false)) rfl rfl rfl (Opl.one (v := .lit (.bool false)) rfl rfl rfl (Opl.skp rfl (Opl.skp rfl (Opl.skp rfl (Opl.one (v := .lit (.bool false)) rfl rfl rfl (Opl.one (v := .lit (.bool false)) rfl rfl rfl (Opl.nil ?_))))))))))
        exact hk4 _ _ ⟨_, _, H, by omega, ⟨rfl, (by first | rfl | (show PV.lit (.bool _) = _; congr 2; simp_all)), rfl, rfl, rfl, trivial⟩⟩
       rw [if_pos c8] at H
       obtain rfl : t282 = true := by simpa using c8
       refine Opl.p1 (v := .ptr i1 2) (n := Opl.ldb (v := .lit (.int .i64 ((rd_ITime l0 x19_1).f2))) h3 rfl T3 rfl rfl rfl rfl (Opl.p1 (n := Opl.one (v := .lit (.bool (((rd_ITime l0 x19_1).f2) == 0))) rfl rfl rfl (Opl.one (v := .lit (.bool (((rd_ITime l0 x19_1).f2) == 0))) rfl rfl rfl ?_))))
       by_cases c9 : ((rd_ITime l0 x19_1).f2) = 0
       case neg =>
        rw [if_neg c9] at H
        have e8 : (((rd_ITime l0 x19_1).f2) == 0) = false := by simpa using c9
        try rw [e8]
        refine Opl.skp rfl (Opl.skp rfl (Opl.skp rfl (Opl.one (v := .lit (.bool false)) rfl rfl rfl (Opl.one (v := .lit (.bool false)) rfl rfl rfl (Opl.nil ?_)))))
        exact hk4 _ _ ⟨_, _, H, by omega, ⟨rfl, (by first | rfl | (show PV.lit (.bool _) = _; congr 2; simp_all)), rfl, rfl, rfl, trivial⟩⟩
       rw [if_pos c9] at H
       have e7 : (((rd_ITime l0 x19_1).f2) == 0) = true := by simpa using c9
       try rw [e7]
       refine Opl.p1 (v := .ptr i1 3) (n := Opl.ldb (v := .lit (.int .i64 ((rd_ITime l0 x19_1).f3))) h3 rfl T3 rfl rfl rfl rfl (Opl.p1 (n := Opl.one (v := .lit (.bool (((rd_ITime l0 x19_1).f3) == 0))) rfl rfl rfl (Opl.one (v := .lit (.bool (((rd_ITime l0 x19_1).f3) == 0))) rfl rfl rfl (Opl.nil ?_)))))
       exact hk4 _ _ ⟨_, _, H, by omega, ⟨rfl, (by first | rfl | (show PV.lit (.bool _) = _; congr 2; simp_all)), rfl, rfl, rfl, trivial⟩⟩
     rw [if_neg c7] at H
     have e9 : (((rd_ITime l0 x19_1).f0) == 1) = false := by simpa using c7
     try rw [e9]
     refine Evr.condF rfl ?_
     refine Evr.join (fun tm S => ∃ (kq5 : Nat) (x7_4 : Bool), impl_TimesValid.j2 kq5 a1 x7_4 l0 (l0.length : Int) x19_1 = some r ∧ kq5 ≤ n1 ∧ Has tm [(1, .lit (.int .i64 a1)), (7, .lit (.bool x7_4)), (17, v0), (18, .lit (.int .i64 (l0.length : Int))), (19, .lit (.int .i64 x19_1))]) ?_ fun hk5 => ?_
     ·
      rintro tm S ⟨kq5, x7_4, H, hle, hh⟩
      rw [hh.eq]
      exact hk3 _ _ ⟨_, _, H, by omega, ⟨rfl, (by first | rfl | (show PV.lit (.bool _) = _; congr 2; simp_all)), rfl, rfl, rfl, trivial⟩⟩
     ·
      refine Evr.regionN rfl (Opl.p1 (n := Opl.p1 (n := ?_)))
      by_cases c10 : t281 = true
      case neg =>
       rw [if_neg c10] at H
       obtain rfl : t281 = false := by simpa using c10
       refine Opl.skp rfl (Opl.skp rfl (Opl.skp rfl (Opl.p1 (n := Opl.p1 (n := Opl.skp rfl (Opl.skp rfl (Opl.skp rfl (Opl.skp rfl (Opl.skp rfl (Opl.p1 (n := Opl.p1 (n := Opl.skp rfl (Opl.skp rfl (Opl.skp rfl (Opl.skp rfl (Opl.skp rfl (Opl.p1 (n := Opl.p1 (n := Opl.skp rfl (Opl.skp rfl (Opl.skp rfl (Opl.skp rfl (Opl.skp rfl (Opl.skp rfl (Opl.skp rfl (Opl.skp rfl (Opl.skp rfl (Opl.skp rfl (Opl.skp rfl (Opl.skp rfl (Opl.skp rfl (Opl.skp rfl (Opl.skp rfl (Opl.p1 (n := Opl.p1 (n := Opl.nil ?_))))))))))))))))))))))))))))))))))))
       exact hk5 _ _ ⟨_, _, H, by omega, ⟨rfl, (by first | rfl | (show PV.lit (.bool _) = _; congr 2; simp_all)), rfl, rfl, rfl, trivial⟩⟩
      rw [if_pos c10] at H
      obtain rfl : t281 = true := by simpa using c10
      refine Opl.p1 (v := .ptr i1 1) (n := Opl.ldb (v := .lit (.int .i64 ((rd_ITime l0 x19_1).f1))) h3 rfl T3 rfl rfl rfl rfl (Opl.p1 (n := Opl.p1 (n := Opl.p1 (n := ?_)))))
      by_cases c11 : ((rd_ITime l0 x19_1).f1) = 0
      case neg =>
       rw [if_neg c11] at H
       have e15 : (((rd_ITime l0 x19_1).f1) == 0) = false := by simpa using c11
       try rw [e15]
       refine Opl.skp rfl (Opl.skp rfl (Opl.skp rfl (Opl.skp rfl (Opl.skp rfl (Opl.p1 (n := Opl.p1 (n := Opl.skp rfl (Opl.skp rfl (Opl.skp rfl (Opl.skp rfl (Opl.skp rfl (Opl.p1 (n := Opl.p1 (n := Opl.skp rfl (Opl.skp rfl (Opl.skp rfl (Opl.skp rfl (Opl.skp rfl (Opl.skp rfl (Opl.skp rfl (Opl.skp rfl (Opl.skp rfl (Opl.skp rfl (Opl.skp rfl (Opl.skp rfl (Opl.skp rfl (Opl.skp rfl (Opl.skp rfl (Opl.p1 (n := Opl.p1 (n := Opl.nil ?_)))))))))))))))))))))))))))))))
       exact hk5 _ _ ⟨_, _, H, by omega, ⟨rfl, (by first | rfl | (show PV.lit (.bool _) = _; congr 2; simp_all)), rfl, rfl, rfl, trivial⟩⟩
      rw [if_pos c11] at H
      have e10 : (((rd_ITime l0 x19_1).f1) == 0) = true := by simpa using c11
      try rw [e10]
      refine Opl.p1 (v := .ptr i1 2) (n := Opl.ldb (v := .lit (.int .i64 ((rd_ITime l0 x19_1).f2))) h3 rfl T3 rfl rfl rfl rfl (Opl.p1 (n := Opl.subi (k := .i64) (a := x19_1) (b := 1) K3 rfl rfl rfl rfl ?_)))
      obtain ⟨t283, h_t283, H⟩ := Option.bind_eq_some_iff.1 H
      refine Opl.callc (impl_in.ev h_t283) rfl rfl rfl rfl ⟨(.lit _), (.lit _), (.lit _), trivial⟩ (by decide) (Opl.one (v := .lit (.bool t283)) rfl rfl rfl (Opl.one (v := .lit (.bool t283)) rfl rfl rfl ?_))
      by_cases c12 : t283 = true
      case neg =>
       rw [if_neg c12] at H
       obtain rfl : t283 = false := by simpa using c12
       refine Opl.skp rfl (Opl.skp rfl (Opl.skp rfl (Opl.skp rfl (Opl.skp rfl (Opl.one (v := .lit (.bool false)) rfl rfl rfl (Opl.one (v := .lit (.bool false)) rfl rfl rfl (Opl.skp rfl (Opl.skp rfl (Opl.skp rfl (Opl.skp rfl (Opl.skp rfl (Opl.skp rfl (Opl.skp rfl (Opl.skp rfl (Opl.skp rfl (Opl.skp rfl (Opl.skp rfl (Opl.skp rfl (Opl.skp rfl (Opl.skp rfl (Opl.skp rfl (Opl.one (v := .lit (.bool false)) rfl rfl rfl (Opl.one (v := .lit (.bool false)) rfl rfl rfl (Opl.nil ?_))))))))))))))))))))))))
       exact hk5 _ _ ⟨_, _, H, by omega, ⟨rfl, (by first | rfl | (show PV.lit (.bool _) = _; congr 2; simp_all)), rfl, rfl, rfl, trivial⟩⟩
      rw [if_pos c12] at H
      obtain rfl : t283 = true := by simpa using c12
      refine Opl.p1 (v := .ptr i1 3) (n := Opl.ldb (v := .lit (.int .i64 ((rd_ITime l0 x19_1).f3))) h3 rfl T3 rfl rfl rfl rfl (Opl.one (v := .lit (.int .i64 x19_1)) rfl rfl rfl (Opl.subi (k := .i64) (a := x19_1) (b := 1) K3 rfl rfl rfl rfl ?_)))
      obtain ⟨t284, h_t284, H⟩ := Option.bind_eq_some_iff.1 H
      refine Opl.callc (impl_in.ev h_t284) rfl rfl rfl rfl ⟨(.lit _), (.lit _), (.lit _), trivial⟩ (by decide) (Opl.one (v := .lit (.bool t284)) rfl rfl rfl (Opl.one (v := .lit (.bool t284)) rfl rfl rfl ?_))
      by_cases c13 : t284 = true
      case neg =>
       rw [if_neg c13] at H
       obtain rfl : t284 = false := by simpa using c13
       refine Opl.skp rfl (Opl.skp rfl (Opl.skp rfl (Opl.skp rfl (Opl.skp rfl (Opl.skp rfl (Opl.skp rfl (Opl.skp rfl (Opl.skp rfl (Opl.skp rfl (Opl.skp rfl (Opl.skp rfl (Opl.skp rfl (Opl.skp rfl (Opl.skp rfl (Opl.one (v := .lit (.bool false)) rfl rfl rfl (Opl.one (v := .lit (.bool false)) rfl rfl rfl (Opl.nil ?_)))))))))))))))))
       exact hk5 _ _ ⟨_, _, H, by omega, ⟨rfl, (by first | rfl | (show PV.lit (.bool _) = _; congr 2; simp_all)), rfl, rfl, rfl, trivial⟩⟩
      rw [if_pos c13] at H
      obtain rfl : t284 = true := by simpa using c13
      refine Opl.p1 (v := .ptr i1 2) (n := Opl.ldb (v := .lit (.int .i64 ((rd_ITime l0 x19_1).f2))) h3 rfl T3 rfl rfl rfl rfl (Opl.p1 (v := .ptr i1 3) (n := Opl.ldb (v := .lit (.int .i64 ((rd_ITime l0 x19_1).f3))) h3 rfl T3 rfl rfl rfl rfl (Opl.p1 (n := Opl.one (v := .lit (.bool (((rd_ITime l0 x19_1).f2) == ((rd_ITime l0 x19_1).f3)))) rfl rfl rfl ?_)))))
      by_cases c14 : ((rd_ITime l0 x19_1).f2) = ((rd_ITime l0 x19_1).f3)
      case pos =>
       rw [if_pos c14] at H
       have e11 : (((rd_ITime l0 x19_1).f2) == ((rd_ITime l0 x19_1).f3)) = true := by simpa using c14
       try rw [e11]
       refine Opl.skp rfl (Opl.skp rfl (Opl.skp rfl (Opl.skp rfl (Opl.skp rfl (Opl.skp rfl (Opl.skp rfl (Opl.skp rfl (Opl.one (v := .lit (.bool true)) rfl rfl rfl (Opl.one (v := .lit (.bool true)) rfl rfl rfl (Opl.one (v := .lit (.bool true)) rfl rfl rfl (Opl.nil ?_)))))))))))
       exact hk5 _ _ ⟨_, _, H, by omega, ⟨rfl, (by first | rfl | (show PV.lit (.bool _) = _; congr 2; simp_all)), rfl, rfl, rfl, trivial⟩⟩
      rw [if_neg c14] at H
      have e12 : (((rd_ITime l0 x19_1).f2) == ((rd_ITime l0 x19_1).f3)) = false := by simpa using c14
      try rw [e12]
      refine Opl.p1 (v := .ptr i1 0) (n := Opl.ldb (v := .lit (.int .i64 ((rd_ITime l0 x19_1).f0))) h3 rfl T3 rfl rfl rfl rfl (Opl.p1 (n := Opl.one (v := .lit (.bool (((rd_ITime l0 x19_1).f0) != 2))) rfl rfl rfl ?_)))
      by_cases c15 : ((rd_ITime l0 x19_1).f0) = 2
      case pos =>
       rw [if_pos c15] at H
       have e13 : (((rd_ITime l0 x19_1).f0) != 2) = false := by simpa using c15
       try rw [e13]
       refine Opl.skp rfl (Opl.skp rfl (Opl.skp rfl (Opl.one (v := .lit (.bool false)) rfl rfl rfl (Opl.one (v := .lit (.bool false)) rfl rfl rfl (Opl.one (v := .lit (.bool false)) rfl rfl rfl (Opl.one (v := .lit (.bool false)) rfl rfl rfl (Opl.nil ?_)))))))
       exact hk5 _ _ ⟨_, _, H, by omega, ⟨rfl, (by first | rfl | (show PV.lit (.bool _) = _; congr 2; simp_all)), rfl, rfl, rfl, trivial⟩⟩
      rw [if_neg c15] at H
      have e14 : (((rd_ITime l0 x19_1).f0) != 2) = true := by simpa using c15
      try rw [e14]
      refine Opl.p1 (v := .ptr i1 0) (n := Opl.ldb (v := .lit (.int .i64 ((rd_ITime l0 x19_1).f0))) h3 rfl T3 rfl rfl rfl rfl (Opl.p1 (n := Opl.one (v := .lit (.bool (((rd_ITime l0 x19_1).f0) != 5))) rfl rfl rfl (Opl.one (v := .lit (.bool (((rd_ITime l0 x19_1).f0) != 5))) rfl rfl rfl (Opl.one (v := .lit (.bool (((rd_ITime l0 x19_1).f0) != 5))) rfl rfl rfl (Opl.one (v := .lit (.bool (((rd_ITime l0 x19_1).f0) != 5))) rfl rfl rfl (Opl.nil ?_)))))))
      exact hk5 _ _ ⟨_, _, H, by omega, ⟨rfl, (by first | rfl | (show PV.lit (.bool _) = _; congr 2; simp_all)), rfl, rfl, rfl, trivial⟩⟩
 ·
  refine Evr.regionN rfl (Opl.p1 (n := ?_))
  obtain ⟨t277, h_t277, H⟩ := Option.bind_eq_some_iff.1 H
  refine Opl.callc (impl_in.ev h_t277) rfl rfl rfl rfl ⟨(.lit _), (.lit _), (.lit _), trivial⟩ (by decide) (Opl.p1 (n := Opl.p1 (n := ?_)))
  by_cases c16 : t277 = true
  case neg =>
   rw [if_neg c16] at H
   have e18 : (!t277) = true := by simpa using c16
   try rw [e18]
   refine Opl.skp rfl (Opl.skp rfl (Opl.skp rfl (Opl.skp rfl (Opl.p1 (n := Opl.nil ?_)))))
   exact hk1 _ _ ⟨_, _, H, ⟨rfl, rfl, (by first | rfl | (show PV.lit (.bool _) = _; congr 2; simp_all)), trivial⟩⟩
  rw [if_pos c16] at H
  have e17 : (!t277) = false := by simpa using c16
  try rw [e17]
  refine Opl.p1 (n := Opl.len (xs := l0) (by exact hv0) K28 rfl rfl rfl rfl ?_)
  obtain ⟨t278, h_t278, H⟩ := Option.bind_eq_some_iff.1 H
  refine Opl.callc (impl_in.ev h_t278) rfl rfl rfl rfl ⟨(.lit _), (.lit _), (.lit _), trivial⟩ (by decide) (Opl.p1 (n := Opl.p1 (n := Opl.nil ?_)))
  exact hk1 _ _ ⟨_, _, H, ⟨rfl, rfl, (by first | rfl | (show PV.lit (.bool _) = _; congr 2; simp_all)), trivial⟩⟩
theorem impl_clone_int.ev {l0 : List Int} {v0 : PV} (hv0 : Sl (cInt .i64) l0 v0) {r : List Int} (H : impl_clone_int.f l0 = some r) : Ret Try.prog 50 [v0] fun v S => Vec (cInt .i64) r v S := by
 unfold impl_clone_int.f at H
 refine Ret.intro Try.func50 rfl (Nat.le_of_ble_eq_true rfl) rfl ?_
 rw [tm1]
 obtain ⟨c1, H⟩ := peel H
 obtain rfl := Option.some.inj H
 refine Evr.seq (Evr.regionN rfl (Opl.p1 (n := Opl.nil (Evr.seq (Evr.seq (Evr.regionN rfl (Opl.p1 (n := Opl.len (by exact hv0) K26 rfl rfl rfl rfl (Opl.p1 (n := Opl.nil ?_))))))))))
 by_cases c2 : (l0.length : Int) = 0
 · have e1 : ((l0.length : Int) == 0) = true := by simpa using c2
   try rw [e1]
   refine Evr.condT rfl (Evr.seq (Evr.regionN rfl (Opl.p1 (n := Opl.nil ?_))))
   obtain rfl : l0 = [] := List.eq_nil_of_length_eq_zero (by omega)
   refine Evr.ret1 Try.func50 rfl ?_
   exact .nil
 · have e1 : ((l0.length : Int) == 0) = false := by simpa using c2
   try rw [e1]
   refine Evr.condF rfl (Evr.skip (Evr.seq (Evr.regionN rfl (Opl.p1 (n := Opl.len (by exact hv0) K26 rfl rfl rfl rfl ?_)))))
   refine Opl.make (M := (cInt .i64)) (m := (l0.length : Int)) (0 : Int) (by exact rfl) rfl rfl K26 T3 rfl (by omega) (by show (_ : Nat) * 8 ≤ 281474976710656; omega) (by omega) rfl rfl rfl ?_
   rintro pv1 S h1 u1 w1
   refine Opl.p1 (n := Opl.nil (Evr.seq (Evr.regionN rfl (Opl.p1 (n := Opl.p1 (n := ?_))))))
   refine Opl.copy (M := (cInt .i64)) (ys := l0) h1 (by exact hv0) (oInt .i64) rfl (by simp) (by simp; omega) K26 Z3 rfl rfl rfl rfl rfl ?_
   rintro S h2 u2
   refine Opl.nil (Evr.seq (Evr.regionN rfl (Opl.p1 (n := Opl.p1 (n := Opl.nil ?_)))))
   refine Evr.ret1 Try.func50 rfl ?_
   exact h2
theorem impl_guessed.ev {k : Nat} {l0 : List ITime} {v0 : PV} (hv0 : Sl cITime l0 v0) {a1 : Int} {r : (List Int) × Bool} (H : impl_guessed.f k l0 a1 = some r) : Ret Try.prog 44 [v0, .lit (.int .i64 a1)] fun v S => Out (fun q => ∃ q1 q2, q = .tup [q1, q2] ∧ Sl (cInt .i64) r.1 q1 ∧ q2 = .lit (.bool r.2)) v S := by
 unfold impl_guessed.f at H
 refine Ret.intro Try.func44 rfl (Nat.le_of_ble_eq_true rfl) rfl ?_
 rw [tm2]
 refine Evr.sr rfl (Opl.p1 (n := Opl.p1 (n := Opl.nil (Evr.seq (Evr.sr rfl (Opl.p1 (n := Opl.p1 (n := ?_))))))))
 obtain ⟨t285, h_t285, H⟩ := Option.bind_eq_some_iff.1 H
 refine Opl.callc (impl_TimesValid.ev hv0 h_t285) rfl rfl rfl rfl ⟨hv0.plain, (.lit _), trivial⟩ (by decide) (Opl.p1 (n := Opl.nil ?_))
 by_cases c1 : t285 = true
 case neg =>
  rw [if_neg c1] at H
  have e6 : (!t285) = true := by simpa using c1
  try rw [e6]
  refine Evr.condT rfl (Evr.sr rfl (Opl.p1 (n := Opl.p1 (n := Opl.nil ?_))))
  obtain rfl := Option.some.inj H
  refine Evr.ret2 Try.func44 rfl ?_
  show Out _ (.tup [.lit (.slice none 0 0), .lit (.bool false)]) _
  exact .tup2 (.sl .nil) .lit
 rw [if_pos c1] at H
 have e1 : (!t285) = false := by simpa using c1
 try rw [e1]
 refine Evr.condF rfl (Evr.skip (Evr.sr rfl (Opl.p1 (n := Opl.nil (Evr.seq (Evr.sr rfl (Opl.p1 (n := Opl.len (xs := l0) (by exact hv0) K28 rfl rfl rfl rfl (Opl.p1 (n := Opl.nil (Evr.block ?_)))))))))))
 refine Evr.loop (Evr.rounds (n := k) (Inv := fun n tm S => n ≤ k ∧ ∃ (x6_1 : List Int) (x15_1 : Int) (pv1 : PV), impl_guessed.l0 n a1 x6_1 l0 (l0.length : Int) x15_1 = some r ∧ Has tm [(1, .lit (.int .i64 a1)), (6, pv1), (13, v0), (14, .lit (.int .i64 (l0.length : Int))), (15, .lit (.int .i64 x15_1))] ∧ Vec (cInt .i64) x6_1 pv1 S) ?_ ?_ ?_)
 · exact ⟨Nat.le_refl _, _, _, _, H, ⟨rfl, rfl, rfl, rfl, rfl, trivial⟩, .nil⟩
 ·
  rintro tm S ⟨_, _, _, _, H, -⟩
  simp [impl_guessed.l0] at H
 ·
  rintro n1 ih1 tm S ⟨hle, x6_1, x15_1, pv1, H, hh, h1⟩
  simp only [impl_guessed.l0] at H
  rw [hh.eq]
  refine Evr.sr rfl (Opl.p1 (n := Opl.nil (Evr.seq ?_)))
  by_cases c2 : x15_1 < (l0.length : Int)
  case neg =>
   rw [if_neg c2] at H
   have e5 : (decide (x15_1 < (l0.length : Int))) = false := by simpa using c2
   try rw [e5]
   refine Evr.condF rfl (Evr.exit rfl (Evr.sr rfl (Opl.p1 (n := ?_))))
   obtain ⟨t291, h_t291, H⟩ := Option.bind_eq_some_iff.1 H
   obtain ⟨pv5, h14, -, h15⟩ := Out.vec h1
   refine Opl.callv (sInt .i64) (impl_clone_int.ev h15 h_t291) rfl rfl rfl (.cons h14 .nil) ⟨h15.plain, trivial⟩ (by decide) ?_
   rintro pv6 h16
   refine Opl.p1 (n := Opl.p1 (n := Opl.lenv (xs := x6_1) (by exact h1) K26 rfl rfl rfl rfl (Opl.add (k := .i64) (a := a1) (b := (x6_1.length : Int)) K3 rfl rfl rfl rfl (Opl.leq (a := (wrap64 (a1 + (x6_1.length : Int)))) (b := 7) K3 rfl rfl rfl rfl (Opl.one (v := pv6) rfl rfl rfl (Opl.one (v := .lit (.bool (decide ((wrap64 (a1 + (x6_1.length : Int))) ≤ 7)))) rfl rfl rfl (Opl.nil ?_)))))))
   obtain rfl := Option.some.inj H
   refine Evr.ret2 Try.func44 rfl ?_
   show Out _ (.tup [pv6, .lit (.bool (decide ((wrap64 (a1 + (x6_1.length : Int))) ≤ 7)))]) _
   exact .tup2 (.sl h16) .lit
  rw [if_pos c2] at H
  have e2 : (decide (x15_1 < (l0.length : Int))) = true := by simpa using c2
  try rw [e2]
  refine Evr.condT rfl (Evr.skip (Evr.seq (Evr.block (Evr.sr rfl (Opl.p1 (n := ?_))))))
  obtain ⟨c3, H⟩ := peel H
  obtain ⟨c4, H⟩ := peel H
  refine Opl.idx (M := cITime) (xs := l0) (j := x15_1) zITime (by exact hv0) rfl (by omega) (by omega) K28 Z64 rfl rfl ?_
  rintro p1 q1 h2
  obtain rfl := cITime_R (x := (rd_ITime l0 x15_1)) h2
  refine Opl.lda (.agg [.lit (.int .i64 ((rd_ITime l0 x15_1).f0)), .lit (.int .i64 ((rd_ITime l0 x15_1).f1)), .lit (.int .i64 ((rd_ITime l0 x15_1).f2)), .lit (.int .i64 ((rd_ITime l0 x15_1).f3))]) rfl T64 rfl rfl rfl rfl (Opl.alloc T64 rfl rfl rfl ?_)
  rintro i1 S h3 u1 w1
  have ap1 := w1.vec h1
  have h4 := u1.vec h1 ap1
  refine Opl.p1 (n := Opl.stb (vs := [.lit (.int .i64 ((rd_ITime l0 x15_1).f0)), .lit (.int .i64 ((rd_ITime l0 x15_1).f1)), .lit (.int .i64 ((rd_ITime l0 x15_1).f2)), .lit (.int .i64 ((rd_ITime l0 x15_1).f3))]) h3 rfl rfl Z64 rfl (Nat.le_of_ble_eq_true rfl) rfl rfl rfl rfl ?_)
  rintro S (h5 : Box (.ptr i1 0) [.lit (.int .i64 ((rd_ITime l0 x15_1).f0)), .lit (.int .i64 ((rd_ITime l0 x15_1).f1)), .lit (.int .i64 ((rd_ITime l0 x15_1).f2)), .lit (.int .i64 ((rd_ITime l0 x15_1).f3))] _) u2
  have h6 := u2.vec h4 ap1
  refine Opl.nil (Evr.sr rfl (Opl.p1 (v := .ptr i1 0) (n := Opl.ldb (v := .lit (.int .i64 ((rd_ITime l0 x15_1).f0))) h5 rfl T3 rfl rfl rfl rfl (Opl.p1 (n := Opl.nil ?_)))))
  refine Evr.join (fun tm S => ∃ (kq1 : Nat) (x6_2 : List Int) (pv2 : PV), impl_guessed.l0 kq1 a1 x6_2 l0 (l0.length : Int) (wrap64 (x15_1 + 1)) = some r ∧ kq1 ≤ n1 ∧ Has tm [(1, .lit (.int .i64 a1)), (6, pv2), (13, v0), (14, .lit (.int .i64 (l0.length : Int))), (15, .lit (.int .i64 x15_1))] ∧ Vec (cInt .i64) x6_2 pv2 S) ?_ fun hk1 => ?_
  ·
   rintro tm S ⟨kq1, x6_2, pv2, H, hle, hh, h7⟩
   rw [hh.eq]
   refine Evr.inBlock (Evr.regionN rfl (Opl.add (k := .i64) (a := x15_1) (b := 1) K3 rfl rfl rfl rfl (Opl.one (v := .lit (.int .i64 (wrap64 (x15_1 + 1)))) rfl rfl rfl (Opl.nil ?_))))
   exact ih1 _ (by omega) _ _ ⟨by omega, _, _, _, H, ⟨rfl, rfl, rfl, rfl, rfl, trivial⟩, h7⟩
  ·
   by_cases c5 : ((rd_ITime l0 x15_1).f0) ≥ 5
   case neg =>
    rw [if_neg c5] at H
    have e4 : (decide (((rd_ITime l0 x15_1).f0) ≥ 5)) = false := by simpa using c5
    try rw [e4]
    refine Evr.condF rfl (Evr.skip ?_)
    exact hk1 _ _ ⟨_, _, _, H, by omega, ⟨rfl, rfl, rfl, rfl, rfl, trivial⟩, h6⟩
   rw [if_pos c5] at H
   have e3 : (decide (((rd_ITime l0 x15_1).f0) ≥ 5)) = true := by simpa using c5
   try rw [e3]
   refine Evr.condT rfl (Evr.regionN rfl (Opl.p1 (n := Opl.p1 (n := Opl.lits (M := (cInt .i64)) (ys := [x15_1]) [.tmp 24] K26 T3 rfl rfl rfl (by exact ⟨rfl, trivial⟩) rfl (by decide) rfl rfl rfl ?_))))
   rintro pv3 S h8 u3 w3
   have ap2 := w3.vec h6
   have h9 := u3.vec h6 ap2
   have ap3 := w3.box h5
   have h10 := u3.box h5 ap3
   obtain ⟨c6, H⟩ := peel H
   refine Opl.app (M := (cInt .i64)) (xs := x6_1) (ys := [x15_1]) (v := pv1) h9 (.vec h8) (oInt .i64) rfl rfl K26 T3 rfl rfl (by (try simp only [List.length_cons, List.length_nil]); omega) (by show (_ + _) * 8 ≤ 140737488355328; (try simp only [List.length_cons, List.length_nil]); omega) rfl rfl rfl rfl rfl ?_
   rintro pv4 S h11 u4 w4
   have ap4 := w4.box h10
   have h12 := u4.box h10 ap1.symm
   have ap5 := w4.vec h8
   have h13 := u4.vec h8 ap2.symm
   refine Opl.p1 (n := Opl.nil ?_)
   exact hk1 _ _ ⟨_, _, _, H, by omega, ⟨rfl, rfl, rfl, rfl, rfl, trivial⟩, h11⟩
theorem impl_GuessCount.ev {k : Nat} {l0 : List ITime} {v0 : PV} (hv0 : Sl cITime l0 v0) {a1 : Int} {r : Int} (H : impl_GuessCount.f k l0 a1 = some r) : Ret Try.prog 31 [v0, .lit (.int .i64 a1)] fun v S => v = .lit (.int .i64 r) := by
 unfold impl_GuessCount.f at H
 refine Ret.intro Try.func31 rfl (Nat.le_of_ble_eq_true rfl) rfl ?_
 rw [tm2]
 refine Evr.sr rfl (Opl.p1 (n := Opl.nil (Evr.sr rfl (Opl.p1 (n := Opl.p1 (n := ?_))))))
 obtain ⟨bt780, h_bt780, H⟩ := Option.bind_eq_some_iff.1 H
 refine Opl.call (impl_guessed.ev hv0 h_bt780) rfl rfl rfl rfl ⟨hv0.plain, (.lit _), trivial⟩ (by decide) ?_
 rintro _ ⟨pv2, _, rfl, h2, rfl⟩
 refine Opl.p1 (n := Opl.p1 (v := pv2) (n := Opl.p1 (v := .lit (.bool bt780.2)) (n := Opl.p1 (n := Opl.p1 (n := Opl.nil (Evr.seq (Evr.sr rfl (Opl.p1 (n := Opl.p1 (n := Opl.nil ?_))))))))))
 by_cases c1 : bt780.2 = true
 case neg =>
  rw [if_neg c1] at H
  have e2 : (!bt780.2) = true := by simpa using c1
  try rw [e2]
  refine Evr.condT rfl (Evr.sr rfl (Opl.p1 (n := Opl.nil ?_)))
  obtain rfl := Option.some.inj H
  refine Evr.ret1 Try.func31 rfl ?_
  show (.lit (.int .i64 0) : PV) = _
  first | rfl | (simp only [go_sem]; rfl)
 rw [if_pos c1] at H
 have e1 : (!bt780.2) = false := by simpa using c1
 try rw [e1]
 refine Evr.condF rfl (Evr.skip (Evr.sr rfl (Opl.p1 (n := Opl.p1 (n := Opl.len (xs := bt780.1) (by exact h2) K26 rfl rfl rfl rfl (Opl.add (k := .i64) (a := a1) (b := (bt780.1.length : Int)) K3 rfl rfl rfl rfl ?_))))))
 obtain ⟨c2, H⟩ := peel H
 refine Opl.one (v := .lit (.int .i64 (shl .i64 1 (wrap64 (a1 + (bt780.1.length : Int)))))) rfl rfl (by simp only [go_sem]; rw [if_neg (by omega)]; simp only [shl, w64, IntKind.bits]; rfl) (Opl.one (v := .lit (.int .i64 (shl .i64 1 (wrap64 (a1 + (bt780.1.length : Int)))))) rfl rfl rfl (Opl.nil ?_))
 obtain rfl := Option.some.inj H
 refine Evr.ret1 Try.func31 rfl ?_
 show (.lit (.int .i64 (shl .i64 1 (wrap64 (a1 + (bt780.1.length : Int))))) : PV) = _
 first | rfl | (simp only [go_sem]; rfl)
theorem impl_keeps.ev {k : Nat} {l0 : List ITime} {v0 : PV} (hv0 : Sl cITime l0 v0) {l1 : List Int} {v1 : PV} (hv1 : Sl (cInt .i64) l1 v1) {r : (List Int)} (H : impl_keeps.f k l0 l1 = some r) : Ret Try.prog 69 [v0, v1] fun v S => Vec (cInt .i64) r v S := by
 unfold impl_keeps.f at H
 refine Ret.intro Try.func69 rfl (Nat.le_of_ble_eq_true rfl) rfl ?_
 rw [tm2]
 refine Evr.sr rfl (Opl.p1 (n := Opl.nil (Evr.sr rfl (Opl.p1 (n := Opl.nil (Evr.seq (Evr.sr rfl (Opl.p1 (n := Opl.len (xs := l0) (by exact hv0) K28 rfl rfl rfl rfl (Opl.p1 (n := Opl.nil (Evr.block ?_))))))))))))
 refine Evr.loop (Evr.rounds (n := k) (Inv := fun n tm S => n ≤ k ∧ ∃ (x5_1 : List Int) (x10_1 : Int) (pv1 : PV), impl_keeps.l0 n l1 x5_1 l0 (l0.length : Int) x10_1 = some r ∧ Has tm [(1, v1), (5, pv1), (8, v0), (9, .lit (.int .i64 (l0.length : Int))), (10, .lit (.int .i64 x10_1))] ∧ Vec (cInt .i64) x5_1 pv1 S) ?_ ?_ ?_)
 · exact ⟨Nat.le_refl _, _, _, _, H, ⟨rfl, rfl, rfl, rfl, rfl, trivial⟩, .nil⟩
 ·
  rintro tm S ⟨_, _, _, _, H, -⟩
  simp [impl_keeps.l0] at H
 ·
  rintro n1 ih1 tm S ⟨hle, x5_1, x10_1, pv1, H, hh, h1⟩
  simp only [impl_keeps.l0] at H
  rw [hh.eq]
  refine Evr.sr rfl (Opl.p1 (n := Opl.nil (Evr.seq ?_)))
  by_cases c1 : x10_1 < (l0.length : Int)
  case neg =>
   rw [if_neg c1] at H
   have e6 : (decide (x10_1 < (l0.length : Int))) = false := by simpa using c1
   try rw [e6]
   refine Evr.condF rfl (Evr.exit rfl (Evr.sr rfl (Opl.p1 (n := ?_))))
   obtain ⟨t863, h_t863, H⟩ := Option.bind_eq_some_iff.1 H
   obtain ⟨pv8, h25, -, h26⟩ := Out.vec h1
   refine Opl.callav (sInt .i64) (impl_clone_int.ev h26 h_t863) rfl rfl rfl (.cons h25 .nil) ⟨h26.plain, trivial⟩ rfl ?_
   rintro pv9 S h27 u7 w7
   have ap10 := w7.vec h1
   have h28 := u7.vec h1 ap10
   refine Opl.p1 (n := Opl.nil ?_)
   obtain rfl := Option.some.inj H
   refine Evr.ret1 Try.func69 rfl ?_
   show Vec _ _ pv9 _
   exact h27
  rw [if_pos c1] at H
  have e1 : (decide (x10_1 < (l0.length : Int))) = true := by simpa using c1
  try rw [e1]
  refine Evr.condT rfl (Evr.skip (Evr.seq (Evr.block (Evr.sr rfl (Opl.p1 (n := ?_))))))
  obtain ⟨c2, H⟩ := peel H
  obtain ⟨c3, H⟩ := peel H
  refine Opl.idx (M := cITime) (xs := l0) (j := x10_1) zITime (by exact hv0) rfl (by omega) (by omega) K28 Z64 rfl rfl ?_
  rintro p1 q1 h2
  obtain rfl := cITime_R (x := (rd_ITime l0 x10_1)) h2
  refine Opl.lda (.agg [.lit (.int .i64 ((rd_ITime l0 x10_1).f0)), .lit (.int .i64 ((rd_ITime l0 x10_1).f1)), .lit (.int .i64 ((rd_ITime l0 x10_1).f2)), .lit (.int .i64 ((rd_ITime l0 x10_1).f3))]) rfl T64 rfl rfl rfl rfl (Opl.alloc T64 rfl rfl rfl ?_)
  rintro i1 S h3 u1 w1
  have ap1 := w1.vec h1
  have h4 := u1.vec h1 ap1
  refine Opl.p1 (n := Opl.stb (vs := [.lit (.int .i64 ((rd_ITime l0 x10_1).f0)), .lit (.int .i64 ((rd_ITime l0 x10_1).f1)), .lit (.int .i64 ((rd_ITime l0 x10_1).f2)), .lit (.int .i64 ((rd_ITime l0 x10_1).f3))]) h3 rfl rfl Z64 rfl (Nat.le_of_ble_eq_true rfl) rfl rfl rfl rfl ?_)
  rintro S (h5 : Box (.ptr i1 0) [.lit (.int .i64 ((rd_ITime l0 x10_1).f0)), .lit (.int .i64 ((rd_ITime l0 x10_1).f1)), .lit (.int .i64 ((rd_ITime l0 x10_1).f2)), .lit (.int .i64 ((rd_ITime l0 x10_1).f3))] _) u2
  have h6 := u2.vec h4 ap1
  refine Opl.nil (Evr.sr rfl (Opl.p1 (v := .ptr i1 0) (n := Opl.ldb (v := .lit (.int .i64 ((rd_ITime l0 x10_1).f0))) h5 rfl T3 rfl rfl rfl rfl (Opl.nil (Evr.block (Evr.sr rfl (Opl.p1 (n := Opl.p1 (n := Opl.nil ?_)))))))))
  refine Evr.join (fun tm S => ∃ (kq1 : Nat) (x5_2 : List Int) (pv2 : PV), impl_keeps.l0 kq1 l1 x5_2 l0 (l0.length : Int) (wrap64 (x10_1 + 1)) = some r ∧ kq1 ≤ n1 ∧ Has tm [(1, v1), (5, pv2), (8, v0), (9, .lit (.int .i64 (l0.length : Int))), (10, .lit (.int .i64 x10_1))] ∧ Vec (cInt .i64) x5_2 pv2 S) ?_ fun hk1 => ?_
  ·
   rintro tm S ⟨kq1, x5_2, pv2, H, hle, hh, h7⟩
   rw [hh.eq]
   refine Evr.inBlock (Evr.inBlock (Evr.regionN rfl (Opl.add (k := .i64) (a := x10_1) (b := 1) K3 rfl rfl rfl rfl (Opl.one (v := .lit (.int .i64 (wrap64 (x10_1 + 1)))) rfl rfl rfl (Opl.nil ?_)))))
   exact ih1 _ (by omega) _ _ ⟨by omega, _, _, _, H, ⟨rfl, rfl, rfl, rfl, rfl, trivial⟩, h7⟩
  ·
   by_cases c4 : ((rd_ITime l0 x10_1).f0) = 6
   case pos =>
    rw [if_pos c4] at H
    have e2 : (((rd_ITime l0 x10_1).f0) == 6) = true := by simpa using c4
    try rw [e2]
    refine Evr.condT rfl (Evr.regionD rfl (by kernel_rfl) (Opl.p1 (n := Opl.p1 (n := Opl.p1 (n := ?_)))))
    obtain ⟨c5, H⟩ := peel H
    obtain ⟨c6, H⟩ := peel H
    obtain ⟨c7, H⟩ := peel H
    obtain ⟨c8, H⟩ := peel H
    refine Opl.idx (M := (cInt .i64)) (xs := l1) (j := x10_1) (0 : Int) (by exact hv1) rfl (by omega) (by omega) K26 Z3 rfl rfl ?_
    rintro p2 q2 h8
    obtain rfl : p2 = [.lit (.int .i64 (rd l1 x10_1))] := h8
    refine Opl.lda (.lit (.int .i64 (rd l1 x10_1))) rfl T3 rfl rfl rfl rfl (Opl.subi (k := .i64) (a := 1) (b := (rd l1 x10_1)) K3 rfl rfl rfl rfl (Opl.one (v := v1) rfl rfl rfl (Opl.p1 (v := .ptr i1 3) (n := Opl.ldb (v := .lit (.int .i64 ((rd_ITime l0 x10_1).f3))) h5 rfl T3 rfl rfl rfl rfl (Opl.idx (M := (cInt .i64)) (xs := l1) (j := ((rd_ITime l0 x10_1).f3)) (0 : Int) (by exact hv1) rfl (by omega) (by omega) K26 Z3 rfl rfl ?_)))))
    rintro p3 q3 h9
    obtain rfl : p3 = [.lit (.int .i64 (rd l1 ((rd_ITime l0 x10_1).f3)))] := h9
    refine Opl.lda (.lit (.int .i64 (rd l1 ((rd_ITime l0 x10_1).f3)))) rfl T3 rfl rfl rfl rfl (Opl.one (v := .lit (.int .i64 (Go.bits .or .i64 (wrap64 (1 - (rd l1 x10_1))) (rd l1 ((rd_ITime l0 x10_1).f3))))) rfl rfl (by simp only [go_sem]; simp only [Go.bits, w64]; rfl) (Opl.lits (M := (cInt .i64)) (ys := [(Go.bits .or .i64 (wrap64 (1 - (rd l1 x10_1))) (rd l1 ((rd_ITime l0 x10_1).f3)))]) [.tmp 30] K26 T3 rfl rfl rfl (by exact ⟨rfl, trivial⟩) rfl (by decide) rfl rfl rfl ?_))
    rintro pv3 S h10 u3 w3
    have ap2 := w3.vec h6
    have h11 := u3.vec h6 ap2
    have ap3 := w3.box h5
    have h12 := u3.box h5 ap3
    refine Opl.app (M := (cInt .i64)) (xs := x5_1) (ys := [(Go.bits .or .i64 (wrap64 (1 - (rd l1 x10_1))) (rd l1 ((rd_ITime l0 x10_1).f3)))]) (v := pv1) h11 (.vec h10) (oInt .i64) rfl rfl K26 T3 rfl rfl (by (try simp only [List.length_cons, List.length_nil]); omega) (by show (_ + _) * 8 ≤ 140737488355328; (try simp only [List.length_cons, List.length_nil]); omega) rfl rfl rfl rfl rfl ?_
    rintro pv4 S h13 u4 w4
    have ap4 := w4.box h12
    have h14 := u4.box h12 ap1.symm
    have ap5 := w4.vec h10
    have h15 := u4.vec h10 ap2.symm
    refine Opl.one (v := pv4) rfl rfl rfl (Opl.nil ?_)
    exact hk1 _ _ ⟨_, _, _, H, by omega, ⟨rfl, rfl, rfl, rfl, rfl, trivial⟩, h13⟩
   rw [if_neg c4] at H
   have e3 : (((rd_ITime l0 x10_1).f0) == 6) = false := by simpa using c4
   try rw [e3]
   refine Evr.condF rfl (Evr.sr rfl (Opl.p1 (n := Opl.p1 (n := Opl.nil ?_))))
   refine Evr.join (fun tm S => ∃ (kq2 : Nat) (x5_3 : List Int) (pv5 : PV), impl_keeps.l0 kq2 l1 x5_3 l0 (l0.length : Int) (wrap64 (x10_1 + 1)) = some r ∧ kq2 ≤ n1 ∧ Has tm [(1, v1), (5, pv5), (8, v0), (9, .lit (.int .i64 (l0.length : Int))), (10, .lit (.int .i64 x10_1))] ∧ Vec (cInt .i64) x5_3 pv5 S) ?_ fun hk2 => ?_
   ·
    rintro tm S ⟨kq2, x5_3, pv5, H, hle, hh, h16⟩
    rw [hh.eq]
    exact hk1 _ _ ⟨_, _, _, H, by omega, ⟨rfl, rfl, rfl, rfl, rfl, trivial⟩, h16⟩
   ·
    by_cases c9 : ((rd_ITime l0 x10_1).f0) = 7
    case neg =>
     rw [if_neg c9] at H
     have e5 : (((rd_ITime l0 x10_1).f0) == 7) = false := by simpa using c9
     try rw [e5]
     refine Evr.condF rfl (Evr.skip ?_)
     exact hk2 _ _ ⟨_, _, _, H, by omega, ⟨rfl, rfl, rfl, rfl, rfl, trivial⟩, h6⟩
    rw [if_pos c9] at H
    have e4 : (((rd_ITime l0 x10_1).f0) == 7) = true := by simpa using c9
    try rw [e4]
    refine Evr.condT rfl (Evr.regionD rfl (by kernel_rfl) (Opl.p1 (n := Opl.p1 (n := Opl.p1 (n := ?_)))))
    obtain ⟨c10, H⟩ := peel H
    obtain ⟨c11, H⟩ := peel H
    obtain ⟨c12, H⟩ := peel H
    obtain ⟨c13, H⟩ := peel H
    refine Opl.idx (M := (cInt .i64)) (xs := l1) (j := x10_1) (0 : Int) (by exact hv1) rfl (by omega) (by omega) K26 Z3 rfl rfl ?_
    rintro p4 q4 h17
    obtain rfl : p4 = [.lit (.int .i64 (rd l1 x10_1))] := h17
    refine Opl.lda (.lit (.int .i64 (rd l1 x10_1))) rfl T3 rfl rfl rfl rfl (Opl.p1 (n := Opl.p1 (v := .ptr i1 3) (n := Opl.ldb (v := .lit (.int .i64 ((rd_ITime l0 x10_1).f3))) h5 rfl T3 rfl rfl rfl rfl (Opl.idx (M := (cInt .i64)) (xs := l1) (j := ((rd_ITime l0 x10_1).f3)) (0 : Int) (by exact hv1) rfl (by omega) (by omega) K26 Z3 rfl rfl ?_))))
    rintro p5 q5 h18
    obtain rfl : p5 = [.lit (.int .i64 (rd l1 ((rd_ITime l0 x10_1).f3)))] := h18
    refine Opl.lda (.lit (.int .i64 (rd l1 ((rd_ITime l0 x10_1).f3)))) rfl T3 rfl rfl rfl rfl (Opl.subi (k := .i64) (a := 1) (b := (rd l1 ((rd_ITime l0 x10_1).f3))) K3 rfl rfl rfl rfl (Opl.one (v := .lit (.int .i64 (Go.bits .or .i64 (rd l1 x10_1) (wrap64 (1 - (rd l1 ((rd_ITime l0 x10_1).f3))))))) rfl rfl (by simp only [go_sem]; simp only [Go.bits, w64]; rfl) (Opl.lits (M := (cInt .i64)) (ys := [(Go.bits .or .i64 (rd l1 x10_1) (wrap64 (1 - (rd l1 ((rd_ITime l0 x10_1).f3)))))]) [.tmp 46] K26 T3 rfl rfl rfl (by exact ⟨rfl, trivial⟩) rfl (by decide) rfl rfl rfl ?_)))
    rintro pv6 S h19 u5 w5
    have ap6 := w5.vec h6
    have h20 := u5.vec h6 ap6
    have ap7 := w5.box h5
    have h21 := u5.box h5 ap7
    refine Opl.app (M := (cInt .i64)) (xs := x5_1) (ys := [(Go.bits .or .i64 (rd l1 x10_1) (wrap64 (1 - (rd l1 ((rd_ITime l0 x10_1).f3)))))]) (v := pv1) h20 (.vec h19) (oInt .i64) rfl rfl K26 T3 rfl rfl (by (try simp only [List.length_cons, List.length_nil]); omega) (by show (_ + _) * 8 ≤ 140737488355328; (try simp only [List.length_cons, List.length_nil]); omega) rfl rfl rfl rfl rfl ?_
    rintro pv7 S h22 u6 w6
    have ap8 := w6.box h21
    have h23 := u6.box h21 ap1.symm
    have ap9 := w6.vec h19
    have h24 := u6.vec h19 ap6.symm
    refine Opl.one (v := pv7) rfl rfl rfl (Opl.nil ?_)
    exact hk2 _ _ ⟨_, _, _, H, by omega, ⟨rfl, rfl, rfl, rfl, rfl, trivial⟩, h22⟩
theorem impl_valueBits.ev {k : Nat} {a0 : Int} {a1 : Int} {r : (List Int)} (H : impl_valueBits.f k a0 a1 = some r) : Ret Try.prog 67 [.lit (.int .i64 a0), .lit (.int .i64 a1)] fun v S => Vec (cInt .i64) r v S := by
 unfold impl_valueBits.f at H
 refine Ret.intro Try.func67 rfl (Nat.le_of_ble_eq_true rfl) rfl ?_
 rw [tm2]
 refine Evr.sr rfl (Opl.p1 (n := Opl.nil (Evr.sr rfl (Opl.p1 (n := ?_)))))
 obtain ⟨c1, H⟩ := peel H
 obtain ⟨c2, H⟩ := peel H
 obtain ⟨y799, hy_, H⟩ := Option.bind_eq_some_iff.1 H
 obtain rfl := Option.some.inj hy_
 refine Opl.make (M := (cInt .i64)) (m := a1) (0 : Int) (by exact rfl) rfl rfl K26 T3 rfl (by omega) (by show (a1).toNat * 8 ≤ 281474976710656; omega) (by omega) rfl rfl rfl ?_
 rintro pv1 S h1 u1 w1
 refine Opl.p1 (n := Opl.nil (Evr.seq (Evr.sr rfl (Opl.p1 (n := Opl.lenv (xs := (List.replicate a1.toNat (0 : Int))) (by exact h1) K26 rfl rfl rfl rfl (Opl.p1 (n := Opl.nil (Evr.block ?_))))))))
 refine Evr.loop (Evr.rounds (n := k) (Inv := fun n tm S => n ≤ k ∧ ∃ (x5_1 : List Int) (x11_1 : Int) (pv2 : PV), impl_valueBits.l0 n a0 a1 x5_1 ((List.replicate (a1 : Int).toNat 0 : List Int).length : Int) x11_1 = some r ∧ Has tm [(0, .lit (.int .i64 a0)), (1, .lit (.int .i64 a1)), (5, pv2), (10, .lit (.int .i64 ((List.replicate a1.toNat (0 : Int)).length : Int))), (11, .lit (.int .i64 x11_1))] ∧ Vec (cInt .i64) x5_1 pv2 S) ?_ ?_ ?_)
 · exact ⟨Nat.le_refl _, _, _, _, H, ⟨rfl, rfl, rfl, rfl, rfl, trivial⟩, h1⟩
 ·
  rintro tm S ⟨_, _, _, _, H, -⟩
  simp [impl_valueBits.l0] at H
 ·
  rintro n1 ih1 tm S ⟨hle, x5_1, x11_1, pv2, H, hh, h2⟩
  simp only [impl_valueBits.l0] at H
  rw [hh.eq]
  refine Evr.sr rfl (Opl.p1 (n := Opl.nil (Evr.seq ?_)))
  by_cases c3 : x11_1 < ((List.replicate (a1 : Int).toNat 0 : List Int).length : Int)
  case neg =>
   rw [if_neg c3] at H
   have e2 : (decide (x11_1 < ((List.replicate a1.toNat (0 : Int)).length : Int))) = false := by simpa using c3
   try rw [e2]
   refine Evr.condF rfl (Evr.exit rfl (Evr.sr rfl (Opl.p1 (n := Opl.p1 (n := Opl.nil ?_)))))
   obtain rfl := Option.some.inj H
   refine Evr.ret1 Try.func67 rfl ?_
   show Vec _ _ pv2 _
   exact h2
  rw [if_pos c3] at H
  have e1 : (decide (x11_1 < ((List.replicate a1.toNat (0 : Int)).length : Int))) = true := by simpa using c3
  try rw [e1]
  refine Evr.condT rfl (Evr.skip (Evr.seq (Evr.block (Evr.sr rfl (Opl.p1 (n := Opl.p1 (n := Opl.nil (Evr.regionN rfl (Opl.p1 (n := Opl.p1 (n := Opl.p1 (n := Opl.p1 (n := Opl.subi (k := .i64) (a := a1) (b := 1) K3 rfl rfl rfl rfl (Opl.one (v := .lit (.int .i64 x11_1)) rfl rfl rfl (Opl.subi (k := .i64) (a := (wrap64 (a1 - 1))) (b := x11_1) K3 rfl rfl rfl rfl ?_)))))))))))))))
  obtain ⟨c4, H⟩ := peel H
  obtain ⟨c5, H⟩ := peel H
  obtain ⟨c6, H⟩ := peel H
  refine Opl.one (v := .lit (.int .i64 (shr .i64 a0 (wrap64 ((wrap64 (a1 - 1)) - x11_1))))) rfl rfl (by simp only [go_sem]; rw [if_neg (by omega), fdiv_pow]; simp only [shr, w64, IntKind.bits]; rfl) (Opl.one (v := .lit (.int .i64 (Go.bits .and .i64 (shr .i64 a0 (wrap64 ((wrap64 (a1 - 1)) - x11_1))) 1))) rfl rfl (by simp only [go_sem]; simp only [Go.bits, w64]; rfl) (Opl.idv (M := (cInt .i64)) (xs := x5_1) (j := x11_1) (v := pv2) h2 rfl rfl (by omega) (by omega) K26 Z3 rfl rfl ?_))
  rintro d1 z1 q1 h3 h4
  refine Opl.stv (M := (cInt .i64)) (xs := x5_1) (j := x11_1) (y := (Go.bits .and .i64 (shr .i64 a0 (wrap64 ((wrap64 (a1 - 1)) - x11_1))) 1)) (vs := [.lit (.int .i64 (Go.bits .and .i64 (shr .i64 a0 (wrap64 ((wrap64 (a1 - 1)) - x11_1))) 1))]) h3 h4 (by omega) (by omega) rfl rfl (by exact rfl) Z3 rfl rfl rfl rfl ?_
  rw [← q1]
  rintro S h5 u2
  refine Opl.nil (Evr.inBlock (Evr.regionN rfl (Opl.add (k := .i64) (a := x11_1) (b := 1) K3 rfl rfl rfl rfl (Opl.one (v := .lit (.int .i64 (wrap64 (x11_1 + 1)))) rfl rfl rfl (Opl.nil ?_)))))
  exact ih1 _ (by omega) _ _ ⟨by omega, _, _, _, H, ⟨rfl, rfl, rfl, rfl, rfl, trivial⟩, h5⟩
theorem impl_truths.ev {k : Nat} {l0 : List ITime} {v0 : PV} (hv0 : Sl cITime l0 v0) {a1 : Int} {a2 : Int} {r : (List Int)} (H : impl_truths.f k l0 a1 a2 = some r) : Ret Try.prog 66 [v0, .lit (.int .i64 a1), .lit (.int .i64 a2)] fun v S => Vec (cInt .i64) r v S := by
 unfold impl_truths.f at H
 refine Ret.intro Try.func66 rfl (Nat.le_of_ble_eq_true rfl) rfl ?_
 rw [tm3]
 refine Evr.sr rfl (Opl.p1 (n := Opl.nil (Evr.sr rfl (Opl.p1 (n := Opl.p1 (n := ?_))))))
 obtain ⟨bt803, h_bt803, H⟩ := Option.bind_eq_some_iff.1 H
 refine Opl.call (impl_guessed.ev hv0 h_bt803) rfl rfl rfl rfl ⟨hv0.plain, (.lit _), trivial⟩ (by decide) ?_
 rintro _ ⟨pv2, _, rfl, h2, rfl⟩
 refine Opl.p1 (n := Opl.p1 (v := pv2) (n := Opl.p1 (v := .lit (.bool bt803.2)) (n := Opl.p1 (n := Opl.p1 (n := Opl.nil (Evr.sr rfl (Opl.p1 (n := Opl.p1 (n := Opl.p1 (n := Opl.len (xs := bt803.1) (by exact h2) K26 rfl rfl rfl rfl (Opl.add (k := .i64) (a := a1) (b := (bt803.1.length : Int)) K3 rfl rfl rfl rfl ?_)))))))))))
 obtain ⟨t807, h_t807, H⟩ := Option.bind_eq_some_iff.1 H
 refine Opl.call ((impl_valueBits.ev h_t807).mono fun _ _ h => Out.vec h) rfl rfl rfl rfl ⟨(.lit _), (.lit _), trivial⟩ (by decide) ?_
 rintro pv3 h3
 refine Opl.one (v := pv3) rfl rfl rfl (Opl.nil (Evr.sr rfl (Opl.one (v := v0) rfl rfl rfl (Opl.len (xs := l0) (by exact hv0) K28 rfl rfl rfl rfl ?_))))
 obtain ⟨c1, H⟩ := peel H
 obtain ⟨c2, H⟩ := peel H
 refine Opl.make (M := (cInt .i64)) (m := (l0.length : Int)) (0 : Int) (by exact rfl) rfl rfl K26 T3 rfl (by omega) (by show ((l0.length : Int)).toNat * 8 ≤ 281474976710656; omega) (by omega) rfl rfl rfl ?_
 rintro pv4 S h4 u1 w1
 refine Opl.one (v := pv4) rfl rfl rfl (Opl.nil (Evr.sr rfl (Opl.one (v := .lit (.int .i64 a1)) rfl rfl rfl (Opl.one (v := .lit (.int .i64 a1)) rfl rfl rfl (Opl.nil (Evr.seq (Evr.sr rfl (Opl.one (v := v0) rfl rfl rfl (Opl.len (xs := l0) (by exact hv0) K28 rfl rfl rfl rfl (Opl.one (v := .lit (.int .i64 0)) rfl rfl rfl (Opl.nil (Evr.block ?_))))))))))))
 refine Evr.loop (Evr.rounds (n := k) (Inv := fun n tm S => n ≤ k ∧ ∃ (x10_1 : List Int) (x11_1 : Int) (x32_1 : Int) (pv5 : PV), impl_truths.l0 n t807 x10_1 x11_1 l0 (l0.length : Int) x32_1 = some r ∧ Has tm [(9, pv3), (10, pv5), (11, .lit (.int .i64 x11_1)), (30, v0), (31, .lit (.int .i64 (l0.length : Int))), (32, .lit (.int .i64 x32_1))] ∧ Vec (cInt .i64) x10_1 pv5 S) ?_ ?_ ?_)
 · exact ⟨Nat.le_refl _, _, _, _, _, H, ⟨rfl, rfl, rfl, rfl, rfl, rfl, trivial⟩, h4⟩
 ·
  rintro tm S ⟨_, _, _, _, _, H, -⟩
  simp [impl_truths.l0] at H
 ·
  rintro n1 ih1 tm S ⟨hle, x10_1, x11_1, x32_1, pv5, H, hh, h5⟩
  simp only [impl_truths.l0] at H
  rw [hh.eq]
  refine Evr.sr rfl (Opl.p1 (n := Opl.nil (Evr.seq ?_)))
  by_cases c3 : x32_1 < (l0.length : Int)
  case neg =>
   rw [if_neg c3] at H
   have e12 : (decide (x32_1 < (l0.length : Int))) = false := by simpa using c3
   try rw [e12]
   refine Evr.condF rfl (Evr.exit rfl (Evr.sr rfl (Opl.p1 (n := Opl.p1 (n := Opl.nil ?_)))))
   obtain rfl := Option.some.inj H
   refine Evr.ret1 Try.func66 rfl ?_
   show Vec _ _ pv5 _
   exact h5
  rw [if_pos c3] at H
  have e1 : (decide (x32_1 < (l0.length : Int))) = true := by simpa using c3
  try rw [e1]
  refine Evr.condT rfl (Evr.skip (Evr.seq (Evr.block (Evr.sr rfl (Opl.p1 (n := ?_))))))
  obtain ⟨c4, H⟩ := peel H
  obtain ⟨c5, H⟩ := peel H
  refine Opl.idx (M := cITime) (xs := l0) (j := x32_1) zITime (by exact hv0) rfl (by omega) (by omega) K28 Z64 rfl rfl ?_
  rintro p1 q1 h6
  obtain rfl := cITime_R (x := (rd_ITime l0 x32_1)) h6
  refine Opl.lda (.agg [.lit (.int .i64 ((rd_ITime l0 x32_1).f0)), .lit (.int .i64 ((rd_ITime l0 x32_1).f1)), .lit (.int .i64 ((rd_ITime l0 x32_1).f2)), .lit (.int .i64 ((rd_ITime l0 x32_1).f3))]) rfl T64 rfl rfl rfl rfl (Opl.alloc T64 rfl rfl rfl ?_)
  rintro i1 S h7 u2 w2
  have ap1 := w2.vec h5
  have h8 := u2.vec h5 ap1
  refine Opl.p1 (n := Opl.stb (vs := [.lit (.int .i64 ((rd_ITime l0 x32_1).f0)), .lit (.int .i64 ((rd_ITime l0 x32_1).f1)), .lit (.int .i64 ((rd_ITime l0 x32_1).f2)), .lit (.int .i64 ((rd_ITime l0 x32_1).f3))]) h7 rfl rfl Z64 rfl (Nat.le_of_ble_eq_true rfl) rfl rfl rfl rfl ?_)
  rintro S (h9 : Box (.ptr i1 0) [.lit (.int .i64 ((rd_ITime l0 x32_1).f0)), .lit (.int .i64 ((rd_ITime l0 x32_1).f1)), .lit (.int .i64 ((rd_ITime l0 x32_1).f2)), .lit (.int .i64 ((rd_ITime l0 x32_1).f3))] _) u3
  have h10 := u3.vec h8 ap1
  refine Opl.nil (Evr.sr rfl (Opl.p1 (v := .ptr i1 0) (n := Opl.ldb (v := .lit (.int .i64 ((rd_ITime l0 x32_1).f0))) h9 rfl T3 rfl rfl rfl rfl (Opl.nil (Evr.block (Evr.sr rfl (Opl.p1 (n := Opl.p1 (n := Opl.nil ?_)))))))))
  refine Evr.join (fun tm S => ∃ (kq1 : Nat) (x10_2 : List Int) (x11_2 : Int) (pv6 : PV), impl_truths.l0 kq1 t807 x10_2 x11_2 l0 (l0.length : Int) (wrap64 (x32_1 + 1)) = some r ∧ kq1 ≤ n1 ∧ Has tm [(9, pv3), (10, pv6), (11, .lit (.int .i64 x11_2)), (30, v0), (31, .lit (.int .i64 (l0.length : Int))), (32, .lit (.int .i64 x32_1))] ∧ Vec (cInt .i64) x10_2 pv6 S) ?_ fun hk1 => ?_
  ·
   rintro tm S ⟨kq1, x10_2, x11_2, pv6, H, hle, hh, h11⟩
   rw [hh.eq]
   refine Evr.inBlock (Evr.inBlock (Evr.regionN rfl (Opl.add (k := .i64) (a := x32_1) (b := 1) K3 rfl rfl rfl rfl (Opl.one (v := .lit (.int .i64 (wrap64 (x32_1 + 1)))) rfl rfl rfl (Opl.nil ?_)))))
   exact ih1 _ (by omega) _ _ ⟨by omega, _, _, _, _, H, ⟨rfl, rfl, rfl, rfl, rfl, rfl, trivial⟩, h11⟩
  ·
   by_cases c6 : ((rd_ITime l0 x32_1).f0) = 0
   case pos =>
    rw [if_pos c6] at H
    have e2 : (((rd_ITime l0 x32_1).f0) == 0) = true := by simpa using c6
    try rw [e2]
    refine Evr.condT rfl (Evr.regionN rfl (Opl.p1 (n := Opl.p1 (n := ?_))))
    obtain ⟨c7, H⟩ := peel H
    refine Opl.idv (M := (cInt .i64)) (xs := x10_1) (j := x32_1) (v := pv5) h10 rfl rfl (by omega) (by omega) K26 Z3 rfl rfl ?_
    rintro d1 z1 q2 h12 h13
    refine Opl.stv (M := (cInt .i64)) (xs := x10_1) (j := x32_1) (y := 1) (vs := [.lit (.int .i64 1)]) h12 h13 (by omega) (by omega) rfl rfl (by exact rfl) Z3 rfl rfl rfl rfl ?_
    rw [← q2]
    rintro S h14 u4
    have h15 := u4.box h9 ap1.symm
    refine Opl.nil ?_
    exact hk1 _ _ ⟨_, _, _, _, H, by omega, ⟨rfl, rfl, rfl, rfl, rfl, rfl, trivial⟩, h14⟩
   rw [if_neg c6] at H
   have e3 : (((rd_ITime l0 x32_1).f0) == 0) = false := by simpa using c6
   try rw [e3]
   refine Evr.condF rfl (Evr.sr rfl (Opl.p1 (n := Opl.p1 (n := Opl.nil ?_))))
   refine Evr.join (fun tm S => ∃ (kq2 : Nat) (x10_3 : List Int) (x11_3 : Int) (pv7 : PV), impl_truths.l0 kq2 t807 x10_3 x11_3 l0 (l0.length : Int) (wrap64 (x32_1 + 1)) = some r ∧ kq2 ≤ n1 ∧ Has tm [(9, pv3), (10, pv7), (11, .lit (.int .i64 x11_3)), (30, v0), (31, .lit (.int .i64 (l0.length : Int))), (32, .lit (.int .i64 x32_1))] ∧ Vec (cInt .i64) x10_3 pv7 S) ?_ fun hk2 => ?_
   ·
    rintro tm S ⟨kq2, x10_3, x11_3, pv7, H, hle, hh, h16⟩
    rw [hh.eq]
    exact hk1 _ _ ⟨_, _, _, _, H, by omega, ⟨rfl, rfl, rfl, rfl, rfl, rfl, trivial⟩, h16⟩
   ·
    by_cases c8 : ((rd_ITime l0 x32_1).f0) = 1
    case pos =>
     rw [if_pos c8] at H
     have e4 : (((rd_ITime l0 x32_1).f0) == 1) = true := by simpa using c8
     try rw [e4]
     refine Evr.condT rfl (Evr.regionN rfl (Opl.p1 (n := Opl.p1 (n := Opl.p1 (n := Opl.p1 (v := .ptr i1 1) (n := Opl.ldb (v := .lit (.int .i64 ((rd_ITime l0 x32_1).f1))) h9 rfl T3 rfl rfl rfl rfl ?_))))))
     obtain ⟨c9, H⟩ := peel H
     obtain ⟨c10, H⟩ := peel H
     obtain ⟨c11, H⟩ := peel H
     refine Opl.idx (M := (cInt .i64)) (xs := t807) (j := ((rd_ITime l0 x32_1).f1)) (0 : Int) (by exact h3) rfl (by omega) (by omega) K26 Z3 rfl rfl ?_
     rintro p2 q3 h17
     obtain rfl : p2 = [.lit (.int .i64 (rd t807 ((rd_ITime l0 x32_1).f1)))] := h17
     refine Opl.lda (.lit (.int .i64 (rd t807 ((rd_ITime l0 x32_1).f1)))) rfl T3 rfl rfl rfl rfl (Opl.idv (M := (cInt .i64)) (xs := x10_1) (j := x32_1) (v := pv5) h10 rfl rfl (by omega) (by omega) K26 Z3 rfl rfl ?_)
     rintro d2 z2 q4 h18 h19
     refine Opl.stv (M := (cInt .i64)) (xs := x10_1) (j := x32_1) (y := (rd t807 ((rd_ITime l0 x32_1).f1))) (vs := [.lit (.int .i64 (rd t807 ((rd_ITime l0 x32_1).f1)))]) h18 h19 (by omega) (by omega) rfl rfl (by exact rfl) Z3 rfl rfl rfl rfl ?_
     rw [← q4]
     rintro S h20 u5
     have h21 := u5.box h9 ap1.symm
     refine Opl.nil ?_
     exact hk2 _ _ ⟨_, _, _, _, H, by omega, ⟨rfl, rfl, rfl, rfl, rfl, rfl, trivial⟩, h20⟩
    rw [if_neg c8] at H
    have e5 : (((rd_ITime l0 x32_1).f0) == 1) = false := by simpa using c8
    try rw [e5]
    refine Evr.condF rfl (Evr.sr rfl (Opl.p1 (n := Opl.p1 (n := Opl.nil ?_))))
    refine Evr.join (fun tm S => ∃ (kq3 : Nat) (x10_4 : List Int) (x11_4 : Int) (pv8 : PV), impl_truths.l0 kq3 t807 x10_4 x11_4 l0 (l0.length : Int) (wrap64 (x32_1 + 1)) = some r ∧ kq3 ≤ n1 ∧ Has tm [(9, pv3), (10, pv8), (11, .lit (.int .i64 x11_4)), (30, v0), (31, .lit (.int .i64 (l0.length : Int))), (32, .lit (.int .i64 x32_1))] ∧ Vec (cInt .i64) x10_4 pv8 S) ?_ fun hk3 => ?_
    ·
     rintro tm S ⟨kq3, x10_4, x11_4, pv8, H, hle, hh, h22⟩
     rw [hh.eq]
     exact hk2 _ _ ⟨_, _, _, _, H, by omega, ⟨rfl, rfl, rfl, rfl, rfl, rfl, trivial⟩, h22⟩
    ·
     by_cases c12 : ((rd_ITime l0 x32_1).f0) = 2
     case pos =>
      rw [if_pos c12] at H
      have e6 : (((rd_ITime l0 x32_1).f0) == 2) = true := by simpa using c12
      try rw [e6]
      refine Evr.condT rfl (Evr.regionN rfl (Opl.p1 (n := Opl.p1 (n := Opl.p1 (n := Opl.p1 (v := .ptr i1 2) (n := Opl.ldb (v := .lit (.int .i64 ((rd_ITime l0 x32_1).f2))) h9 rfl T3 rfl rfl rfl rfl ?_))))))
      obtain ⟨c13, H⟩ := peel H
      obtain ⟨c14, H⟩ := peel H
      obtain ⟨c15, H⟩ := peel H
      refine Opl.idv (M := (cInt .i64)) (xs := x10_1) (j := ((rd_ITime l0 x32_1).f2)) (v := pv5) h10 rfl rfl (by omega) (by omega) K26 Z3 rfl rfl ?_
      rintro d3 z3 q5 h23 h24
      refine Opl.ldv (M := (cInt .i64)) (xs := x10_1) (j := ((rd_ITime l0 x32_1).f2)) (0 : Int) h23 h24 (by omega) (by omega) rfl T3 rfl rfl rfl ?_
      rintro p3 q6 h25
      obtain rfl : p3 = [.lit (.int .i64 (rd x10_1 ((rd_ITime l0 x32_1).f2)))] := h25
      refine ⟨.lit (.int .i64 (rd x10_1 ((rd_ITime l0 x32_1).f2))), rfl, ?_⟩
      refine Opl.subi (k := .i64) (a := 1) (b := (rd x10_1 ((rd_ITime l0 x32_1).f2))) K3 rfl rfl rfl rfl (Opl.idv (M := (cInt .i64)) (xs := x10_1) (j := x32_1) (v := pv5) h10 rfl rfl (by omega) (by omega) K26 Z3 rfl rfl ?_)
      rintro d4 z4 q7 h26 h27
      refine Opl.stv (M := (cInt .i64)) (xs := x10_1) (j := x32_1) (y := (wrap64 (1 - (rd x10_1 ((rd_ITime l0 x32_1).f2))))) (vs := [.lit (.int .i64 (wrap64 (1 - (rd x10_1 ((rd_ITime l0 x32_1).f2)))))]) h26 h27 (by omega) (by omega) rfl rfl (by exact rfl) Z3 rfl rfl rfl rfl ?_
      rw [← q7]
      rintro S h28 u6
      have h29 := u6.box h9 ap1.symm
      refine Opl.nil ?_
      exact hk3 _ _ ⟨_, _, _, _, H, by omega, ⟨rfl, rfl, rfl, rfl, rfl, rfl, trivial⟩, h28⟩
     rw [if_neg c12] at H
     have e7 : (((rd_ITime l0 x32_1).f0) == 2) = false := by simpa using c12
     try rw [e7]
     refine Evr.condF rfl (Evr.sr rfl (Opl.p1 (n := Opl.p1 (n := Opl.nil ?_))))
     refine Evr.join (fun tm S => ∃ (kq4 : Nat) (x10_5 : List Int) (x11_5 : Int) (pv9 : PV), impl_truths.l0 kq4 t807 x10_5 x11_5 l0 (l0.length : Int) (wrap64 (x32_1 + 1)) = some r ∧ kq4 ≤ n1 ∧ Has tm [(9, pv3), (10, pv9), (11, .lit (.int .i64 x11_5)), (30, v0), (31, .lit (.int .i64 (l0.length : Int))), (32, .lit (.int .i64 x32_1))] ∧ Vec (cInt .i64) x10_5 pv9 S) ?_ fun hk4 => ?_
     ·
      rintro tm S ⟨kq4, x10_5, x11_5, pv9, H, hle, hh, h30⟩
      rw [hh.eq]
      exact hk3 _ _ ⟨_, _, _, _, H, by omega, ⟨rfl, rfl, rfl, rfl, rfl, rfl, trivial⟩, h30⟩
     ·
      by_cases c16 : ((rd_ITime l0 x32_1).f0) = 3
      case pos =>
       rw [if_pos c16] at H
       have e8 : (((rd_ITime l0 x32_1).f0) == 3) = true := by simpa using c16
       try rw [e8]
       refine Evr.condT rfl (Evr.regionD rfl (by kernel_rfl) (Opl.p1 (n := Opl.p1 (n := Opl.p1 (n := Opl.p1 (v := .ptr i1 2) (n := Opl.ldb (v := .lit (.int .i64 ((rd_ITime l0 x32_1).f2))) h9 rfl T3 rfl rfl rfl rfl ?_))))))
       obtain ⟨c17, H⟩ := peel H
       obtain ⟨c18, H⟩ := peel H
       obtain ⟨c19, H⟩ := peel H
       obtain ⟨c20, H⟩ := peel H
       obtain ⟨c21, H⟩ := peel H
       refine Opl.idv (M := (cInt .i64)) (xs := x10_1) (j := ((rd_ITime l0 x32_1).f2)) (v := pv5) h10 rfl rfl (by omega) (by omega) K26 Z3 rfl rfl ?_
       rintro d5 z5 q8 h31 h32
       refine Opl.ldv (M := (cInt .i64)) (xs := x10_1) (j := ((rd_ITime l0 x32_1).f2)) (0 : Int) h31 h32 (by omega) (by omega) rfl T3 rfl rfl rfl ?_
       rintro p4 q9 h33
       obtain rfl : p4 = [.lit (.int .i64 (rd x10_1 ((rd_ITime l0 x32_1).f2)))] := h33
       refine ⟨.lit (.int .i64 (rd x10_1 ((rd_ITime l0 x32_1).f2))), rfl, ?_⟩
       refine Opl.p1 (n := Opl.p1 (v := .ptr i1 3) (n := Opl.ldb (v := .lit (.int .i64 ((rd_ITime l0 x32_1).f3))) h9 rfl T3 rfl rfl rfl rfl (Opl.idv (M := (cInt .i64)) (xs := x10_1) (j := ((rd_ITime l0 x32_1).f3)) (v := pv5) h10 rfl rfl (by omega) (by omega) K26 Z3 rfl rfl ?_)))
       rintro d6 z6 q10 h34 h35
       refine Opl.ldv (M := (cInt .i64)) (xs := x10_1) (j := ((rd_ITime l0 x32_1).f3)) (0 : Int) h34 h35 (by omega) (by omega) rfl T3 rfl rfl rfl ?_
       rintro p5 q11 h36
       obtain rfl : p5 = [.lit (.int .i64 (rd x10_1 ((rd_ITime l0 x32_1).f3)))] := h36
       refine ⟨.lit (.int .i64 (rd x10_1 ((rd_ITime l0 x32_1).f3))), rfl, ?_⟩
       refine Opl.one (v := .lit (.int .i64 (Go.bits .and .i64 (rd x10_1 ((rd_ITime l0 x32_1).f2)) (rd x10_1 ((rd_ITime l0 x32_1).f3))))) rfl rfl (by simp only [go_sem]; simp only [Go.bits, w64]; rfl) (Opl.idv (M := (cInt .i64)) (xs := x10_1) (j := x32_1) (v := pv5) h10 rfl rfl (by omega) (by omega) K26 Z3 rfl rfl ?_)
       rintro d7 z7 q12 h37 h38
       refine Opl.stv (M := (cInt .i64)) (xs := x10_1) (j := x32_1) (y := (Go.bits .and .i64 (rd x10_1 ((rd_ITime l0 x32_1).f2)) (rd x10_1 ((rd_ITime l0 x32_1).f3)))) (vs := [.lit (.int .i64 (Go.bits .and .i64 (rd x10_1 ((rd_ITime l0 x32_1).f2)) (rd x10_1 ((rd_ITime l0 x32_1).f3))))]) h37 h38 (by omega) (by omega) rfl rfl (by exact rfl) Z3 rfl rfl rfl rfl ?_
       rw [← q12]
       rintro S h39 u7
       have h40 := u7.box h9 ap1.symm
       refine Opl.nil ?_
       exact hk4 _ _ ⟨_, _, _, _, H, by omega, ⟨rfl, rfl, rfl, rfl, rfl, rfl, trivial⟩, h39⟩
      rw [if_neg c16] at H
      have e9 : (((rd_ITime l0 x32_1).f0) == 3) = false := by simpa using c16
      try rw [e9]
      refine Evr.condF rfl (Evr.sr rfl (Opl.p1 (n := Opl.p1 (n := Opl.nil ?_))))
      refine Evr.join (fun tm S => ∃ (kq5 : Nat) (x10_6 : List Int) (x11_6 : Int) (pv10 : PV), impl_truths.l0 kq5 t807 x10_6 x11_6 l0 (l0.length : Int) (wrap64 (x32_1 + 1)) = some r ∧ kq5 ≤ n1 ∧ Has tm [(9, pv3), (10, pv10), (11, .lit (.int .i64 x11_6)), (30, v0), (31, .lit (.int .i64 (l0.length : Int))), (32, .lit (.int .i64 x32_1))] ∧ Vec (cInt .i64) x10_6 pv10 S) ?_ fun hk5 => ?_
      ·
       rintro tm S ⟨kq5, x10_6, x11_6, pv10, H, hle, hh, h41⟩
       rw [hh.eq]
       exact hk4 _ _ ⟨_, _, _, _, H, by omega, ⟨rfl, rfl, rfl, rfl, rfl, rfl, trivial⟩, h41⟩
      ·
       by_cases c22 : ((rd_ITime l0 x32_1).f0) = 4
       case neg =>
        rw [if_neg c22] at H
        have e11 : (((rd_ITime l0 x32_1).f0) == 4) = false := by simpa using c22
        try rw [e11]
        refine Evr.condF rfl (Evr.sr rfl (Opl.p1 (n := Opl.p1 (n := Opl.p1 (n := Opl.p1 (n := ?_))))))
        obtain ⟨c28, H⟩ := peel H
        obtain ⟨c29, H⟩ := peel H
        obtain ⟨c30, H⟩ := peel H
        refine Opl.idx (M := (cInt .i64)) (xs := t807) (j := x11_1) (0 : Int) (by exact h3) rfl (by omega) (by omega) K26 Z3 rfl rfl ?_
        rintro p8 q18 h52
        obtain rfl : p8 = [.lit (.int .i64 (rd t807 x11_1))] := h52
        refine Opl.lda (.lit (.int .i64 (rd t807 x11_1))) rfl T3 rfl rfl rfl rfl (Opl.idv (M := (cInt .i64)) (xs := x10_1) (j := x32_1) (v := pv5) h10 rfl rfl (by omega) (by omega) K26 Z3 rfl rfl ?_)
        rintro d11 z11 q19 h53 h54
        refine Opl.stv (M := (cInt .i64)) (xs := x10_1) (j := x32_1) (y := (rd t807 x11_1)) (vs := [.lit (.int .i64 (rd t807 x11_1))]) h53 h54 (by omega) (by omega) rfl rfl (by exact rfl) Z3 rfl rfl rfl rfl ?_
        rw [← q19]
        rintro S h55 u9
        have h56 := u9.box h9 ap1.symm
        refine Opl.nil (Evr.regionN rfl (Opl.p1 (n := Opl.add (k := .i64) (a := x11_1) (b := 1) K3 rfl rfl rfl rfl (Opl.one (v := .lit (.int .i64 (wrap64 (x11_1 + 1)))) rfl rfl rfl (Opl.nil ?_)))))
        exact hk5 _ _ ⟨_, _, _, _, H, by omega, ⟨rfl, rfl, rfl, rfl, rfl, rfl, trivial⟩, h55⟩
       rw [if_pos c22] at H
       have e10 : (((rd_ITime l0 x32_1).f0) == 4) = true := by simpa using c22
       try rw [e10]
       refine Evr.condT rfl (Evr.regionD rfl (by kernel_rfl) (Opl.p1 (n := Opl.p1 (n := Opl.p1 (n := Opl.p1 (v := .ptr i1 2) (n := Opl.ldb (v := .lit (.int .i64 ((rd_ITime l0 x32_1).f2))) h9 rfl T3 rfl rfl rfl rfl ?_))))))
       obtain ⟨c23, H⟩ := peel H
       obtain ⟨c24, H⟩ := peel H
       obtain ⟨c25, H⟩ := peel H
       obtain ⟨c26, H⟩ := peel H
       obtain ⟨c27, H⟩ := peel H
       refine Opl.idv (M := (cInt .i64)) (xs := x10_1) (j := ((rd_ITime l0 x32_1).f2)) (v := pv5) h10 rfl rfl (by omega) (by omega) K26 Z3 rfl rfl ?_
       rintro d8 z8 q13 h42 h43
       refine Opl.ldv (M := (cInt .i64)) (xs := x10_1) (j := ((rd_ITime l0 x32_1).f2)) (0 : Int) h42 h43 (by omega) (by omega) rfl T3 rfl rfl rfl ?_
       rintro p6 q14 h44
       obtain rfl : p6 = [.lit (.int .i64 (rd x10_1 ((rd_ITime l0 x32_1).f2)))] := h44
       refine ⟨.lit (.int .i64 (rd x10_1 ((rd_ITime l0 x32_1).f2))), rfl, ?_⟩
       refine Opl.p1 (n := Opl.p1 (v := .ptr i1 3) (n := Opl.ldb (v := .lit (.int .i64 ((rd_ITime l0 x32_1).f3))) h9 rfl T3 rfl rfl rfl rfl (Opl.idv (M := (cInt .i64)) (xs := x10_1) (j := ((rd_ITime l0 x32_1).f3)) (v := pv5) h10 rfl rfl (by omega) (by omega) K26 Z3 rfl rfl ?_)))
       rintro d9 z9 q15 h45 h46
       refine Opl.ldv (M := (cInt .i64)) (xs := x10_1) (j := ((rd_ITime l0 x32_1).f3)) (0 : Int) h45 h46 (by omega) (by omega) rfl T3 rfl rfl rfl ?_
       rintro p7 q16 h47
       obtain rfl : p7 = [.lit (.int .i64 (rd x10_1 ((rd_ITime l0 x32_1).f3)))] := h47
       refine ⟨.lit (.int .i64 (rd x10_1 ((rd_ITime l0 x32_1).f3))), rfl, ?_⟩
       refine Opl.one (v := .lit (.int .i64 (Go.bits .or .i64 (rd x10_1 ((rd_ITime l0 x32_1).f2)) (rd x10_1 ((rd_ITime l0 x32_1).f3))))) rfl rfl (by simp only [go_sem]; simp only [Go.bits, w64]; rfl) (Opl.idv (M := (cInt .i64)) (xs := x10_1) (j := x32_1) (v := pv5) h10 rfl rfl (by omega) (by omega) K26 Z3 rfl rfl ?_)
       rintro d10 z10 q17 h48 h49
       refine Opl.stv (M := (cInt .i64)) (xs := x10_1) (j := x32_1) (y := (Go.bits .or .i64 (rd x10_1 ((rd_ITime l0 x32_1).f2)) (rd x10_1 ((rd_ITime l0 x32_1).f3)))) (vs := [.lit (.int .i64 (Go.bits .or .i64 (rd x10_1 ((rd_ITime l0 x32_1).f2)) (rd x10_1 ((rd_ITime l0 x32_1).f3))))]) h48 h49 (by omega) (by omega) rfl rfl (by exact rfl) Z3 rfl rfl rfl rfl ?_
       rw [← q17]
       rintro S h50 u8
       have h51 := u8.box h9 ap1.symm
       refine Opl.nil ?_
       exact hk5 _ _ ⟨_, _, _, _, H, by omega, ⟨rfl, rfl, rfl, rfl, rfl, rfl, trivial⟩, h50⟩
theorem impl_GuessKept.ev {k : Nat} {l0 : List ITime} {v0 : PV} (hv0 : Sl cITime l0 v0) {a1 : Int} {a2 : Int} {r : (List Int)} (H : impl_GuessKept.f k l0 a1 a2 = some r) : Ret Try.prog 35 [v0, .lit (.int .i64 a1), .lit (.int .i64 a2)] fun v S => Vec (cInt .i64) r v S := by
 unfold impl_GuessKept.f at H
 refine Ret.intro Try.func35 rfl (Nat.le_of_ble_eq_true rfl) rfl ?_
 rw [tm3]
 refine Evr.sr rfl (Opl.p1 (n := Opl.nil (Evr.seq (Evr.sr rfl (Opl.p1 (n := Opl.p1 (n := Opl.p1 (n := ?_))))))))
 obtain ⟨t866, h_t866, H⟩ := Option.bind_eq_some_iff.1 H
 refine Opl.callc (impl_GuessCount.ev hv0 h_t866) rfl rfl rfl rfl ⟨hv0.plain, (.lit _), trivial⟩ (by decide) (Opl.subi (k := .i64) (a := t866) (b := 1) K3 rfl rfl rfl rfl ?_)
 obtain ⟨t867, h_t867, H⟩ := Option.bind_eq_some_iff.1 H
 refine Opl.callc (impl_in.ev h_t867) rfl rfl rfl rfl ⟨(.lit _), (.lit _), (.lit _), trivial⟩ (by decide) (Opl.p1 (n := Opl.nil ?_))
 by_cases c1 : t867 = true
 case neg =>
  rw [if_neg c1] at H
  have e2 : (!t867) = true := by simpa using c1
  try rw [e2]
  refine Evr.condT rfl (Evr.sr rfl (Opl.one (v := .lit (.slice none 0 0)) rfl rfl rfl (Opl.nil ?_)))
  obtain rfl := Option.some.inj H
  refine Evr.ret1 Try.func35 rfl ?_
  show Vec _ _ (.lit (.slice none 0 0)) _
  exact .nil
 rw [if_pos c1] at H
 have e1 : (!t867) = false := by simpa using c1
 try rw [e1]
 refine Evr.condF rfl (Evr.skip (Evr.sr rfl (Opl.one (v := v0) rfl rfl rfl (Opl.one (v := v0) rfl rfl rfl (Opl.one (v := .lit (.int .i64 a1)) rfl rfl rfl (Opl.one (v := .lit (.int .i64 a2)) rfl rfl rfl ?_))))))
 obtain ⟨t868, h_t868, H⟩ := Option.bind_eq_some_iff.1 H
 refine Opl.call ((impl_truths.ev hv0 h_t868).mono fun _ _ h => Out.vec h) rfl rfl rfl rfl ⟨hv0.plain, (.lit _), (.lit _), trivial⟩ (by decide) ?_
 rintro pv1 h1
 obtain ⟨t871, h_t871, H⟩ := Option.bind_eq_some_iff.1 H
 refine Opl.calla (impl_keeps.ev hv0 h1 h_t871) rfl rfl rfl rfl ⟨hv0.plain, h1.plain, trivial⟩ rfl ?_
 rintro pv2 S h2 u1 w1
 refine Opl.one (v := pv2) rfl rfl rfl (Opl.nil ?_)
 obtain rfl := Option.some.inj H
 refine Evr.ret1 Try.func35 rfl ?_
 show Vec _ _ pv2 _
 exact h2
theorem impl_bitsFor.ev {k : Nat} {a0 : Int} {r : Int} (H : impl_bitsFor.f k a0 = some r) : Ret Try.prog 68 [.lit (.int .i64 a0)] fun v S => v = .lit (.int .i64 r) := by
 unfold impl_bitsFor.f at H
 refine Ret.intro Try.func68 rfl (Nat.le_of_ble_eq_true rfl) rfl ?_
 rw [tm1]
 refine Evr.sr rfl (Opl.p1 (n := Opl.nil (Evr.sr rfl (Opl.p1 (n := Opl.nil (Evr.seq (Evr.block ?_)))))))
 refine Evr.loop (Evr.rounds (n := k) (Inv := fun n tm S => n ≤ k ∧ ∃ (x3_1 : Int), impl_bitsFor.l0 n a0 x3_1 = some r ∧ Has tm [(0, .lit (.int .i64 a0)), (3, .lit (.int .i64 x3_1))]) ?_ ?_ ?_)
 · exact ⟨Nat.le_refl _, _, H, ⟨rfl, rfl, trivial⟩⟩
 ·
  rintro tm S ⟨_, _, H, -⟩
  simp [impl_bitsFor.l0] at H
 ·
  rintro n1 ih1 tm S ⟨hle, x3_1, H, hh⟩
  simp only [impl_bitsFor.l0] at H
  rw [hh.eq]
  refine Evr.seq (Evr.sr rfl (Opl.p1 (n := ?_)))
  obtain ⟨c1, H⟩ := peel H
  refine Opl.one (v := .lit (.int .i64 (shl .i64 1 x3_1))) rfl rfl (by simp only [go_sem]; rw [if_neg (by omega)]; simp only [shl, w64, IntKind.bits]; rfl) (Opl.p1 (n := Opl.p1 (n := Opl.nil ?_)))
  by_cases c2 : (shl .i64 1 x3_1) < a0
  case neg =>
   rw [if_neg c2] at H
   have e2 : (decide ((shl .i64 1 x3_1) < a0)) = false := by simpa using c2
   try rw [e2]
   refine Evr.condF rfl (Evr.exit rfl (Evr.sr rfl (Opl.p1 (n := Opl.p1 (n := Opl.nil ?_)))))
   obtain rfl := Option.some.inj H
   refine Evr.ret1 Try.func68 rfl ?_
   show (.lit (.int .i64 x3_1) : PV) = _
   first | rfl | (simp only [go_sem]; rfl)
  rw [if_pos c2] at H
  have e1 : (decide ((shl .i64 1 x3_1) < a0)) = true := by simpa using c2
  try rw [e1]
  refine Evr.condT rfl (Evr.skip (Evr.block (Evr.regionN rfl (Opl.p1 (n := Opl.add (k := .i64) (a := x3_1) (b := 1) K3 rfl rfl rfl rfl (Opl.one (v := .lit (.int .i64 (wrap64 (x3_1 + 1)))) rfl rfl rfl (Opl.nil (Evr.inBlock ?_))))))))
  exact ih1 _ (by omega) _ _ ⟨by omega, _, H, ⟨rfl, rfl, trivial⟩⟩
theorem impl_GuessLetter.ev {k : Nat} {l0 : List ITime} {v0 : PV} (hv0 : Sl cITime l0 v0) {a1 : Int} {a2 : Int} {r : (List Int)} (H : impl_GuessLetter.f k l0 a1 a2 = some r) : Ret Try.prog 34 [v0, .lit (.int .i64 a1), .lit (.int .i64 a2)] fun v S => Vec (cInt .i64) r v S := by
 unfold impl_GuessLetter.f at H
 refine Ret.intro Try.func34 rfl (Nat.le_of_ble_eq_true rfl) rfl ?_
 rw [tm3]
 refine Evr.sr rfl (Opl.p1 (n := Opl.nil (Evr.sr rfl (Opl.p1 (n := Opl.p1 (n := ?_))))))
 obtain ⟨t838, h_t838, H⟩ := Option.bind_eq_some_iff.1 H
 refine Opl.callc (impl_GuessCount.ev hv0 h_t838) rfl rfl rfl rfl ⟨hv0.plain, (.lit _), trivial⟩ (by decide) (Opl.p1 (n := Opl.nil (Evr.seq (Evr.sr rfl (Opl.p1 (n := Opl.p1 (n := Opl.subi (k := .i64) (a := t838) (b := 1) K3 rfl rfl rfl rfl ?_)))))))
 obtain ⟨t839, h_t839, H⟩ := Option.bind_eq_some_iff.1 H
 refine Opl.callc (impl_in.ev h_t839) rfl rfl rfl rfl ⟨(.lit _), (.lit _), (.lit _), trivial⟩ (by decide) (Opl.p1 (n := Opl.nil ?_))
 by_cases c1 : t839 = true
 case neg =>
  rw [if_neg c1] at H
  have e2 : (!t839) = true := by simpa using c1
  try rw [e2]
  refine Evr.condT rfl (Evr.sr rfl (Opl.one (v := .lit (.slice none 0 0)) rfl rfl rfl (Opl.nil ?_)))
  obtain rfl := Option.some.inj H
  refine Evr.ret1 Try.func34 rfl ?_
  show Vec _ _ (.lit (.slice none 0 0)) _
  exact .nil
 rw [if_pos c1] at H
 have e1 : (!t839) = false := by simpa using c1
 try rw [e1]
 refine Evr.condF rfl (Evr.skip (Evr.sr rfl (Opl.one (v := .lit (.int .i64 a2)) rfl rfl rfl (Opl.one (v := .lit (.int .i64 t838)) rfl rfl rfl ?_))))
 obtain ⟨t840, h_t840, H⟩ := Option.bind_eq_some_iff.1 H
 refine Opl.callc (impl_bitsFor.ev h_t840) rfl rfl rfl rfl ⟨(.lit _), trivial⟩ (by decide) ?_
 obtain ⟨t841, h_t841, H⟩ := Option.bind_eq_some_iff.1 H
 refine Opl.call ((impl_valueBits.ev h_t841).mono fun _ _ h => Out.vec h) rfl rfl rfl rfl ⟨(.lit _), (.lit _), trivial⟩ (by decide) ?_
 rintro pv1 h1
 refine Opl.one (v := .lit (.int .i64 a1)) rfl rfl rfl ?_
 obtain ⟨c2, H⟩ := peel H
 obtain ⟨c3, H⟩ := peel H
 refine Opl.slcT (M := (cInt .i64)) (b := a1) (by exact h1) rfl  (by omega) (by omega) K26 Z3 rfl rfl rfl ?_
 rintro pv2 h2
 obtain ⟨t848, h_t848, H⟩ := Option.bind_eq_some_iff.1 H
 refine Opl.calla (impl_clone_int.ev h2 h_t848) rfl rfl rfl rfl ⟨h2.plain, trivial⟩ rfl ?_
 rintro pv3 S h3 u1 w1
 refine Opl.one (v := pv3) rfl rfl rfl (Opl.nil ?_)
 obtain rfl := Option.some.inj H
 refine Evr.ret1 Try.func34 rfl ?_
 show Vec _ _ pv3 _
 exact h3
theorem impl_behindOk.ev {k : Nat} {l0 : List ITime} {v0 : PV} (hv0 : Sl cITime l0 v0) {l1 : List Int} {v1 : PV} (hv1 : Sl (cInt .i64) l1 v1) {l2 : List Int} {v2 : PV} (hv2 : Sl (cInt .i64) l2 v2) {r : Bool} (H : impl_behindOk.f k l0 l1 l2 = some r) : Ret Try.prog 65 [v0, v1, v2] fun v S => v = .lit (.bool r) := by
 unfold impl_behindOk.f at H
 refine Ret.intro Try.func65 rfl (Nat.le_of_ble_eq_true rfl) rfl ?_
 rw [tm3]
 refine Evr.sr rfl (Opl.p1 (n := Opl.nil (Evr.seq (Evr.sr rfl (Opl.p1 (n := Opl.len (xs := l0) (by exact hv0) K28 rfl rfl rfl rfl (Opl.p1 (n := Opl.nil (Evr.block ?_)))))))))
 refine Evr.loop (Evr.rounds (n := k) (Inv := fun n tm S => n ≤ k ∧ ∃ (x14_1 : Int), impl_behindOk.l0 n l1 l2 l0 (l0.length : Int) x14_1 = some r ∧ Has tm [(1, v1), (2, v2), (12, v0), (13, .lit (.int .i64 (l0.length : Int))), (14, .lit (.int .i64 x14_1))]) ?_ ?_ ?_)
 · exact ⟨Nat.le_refl _, _, H, ⟨rfl, rfl, rfl, rfl, rfl, trivial⟩⟩
 ·
  rintro tm S ⟨_, _, H, -⟩
  simp [impl_behindOk.l0] at H
 ·
  rintro n1 ih1 tm S ⟨hle, x14_1, H, hh⟩
  simp only [impl_behindOk.l0] at H
  rw [hh.eq]
  refine Evr.sr rfl (Opl.lss (a := x14_1) (b := (l0.length : Int)) K3 rfl rfl rfl rfl (Opl.nil (Evr.seq ?_)))
  by_cases c1 : x14_1 < (l0.length : Int)
  case neg =>
   rw [if_neg c1] at H
   have e17 : (decide (x14_1 < (l0.length : Int))) = false := by simpa using c1
   try rw [e17]
   refine Evr.condF rfl (Evr.exit rfl (Evr.sr rfl (Opl.p1 (n := Opl.nil ?_))))
   obtain rfl := Option.some.inj H
   refine Evr.ret1 Try.func65 rfl ?_
   show (.lit (.bool true) : PV) = _
   first | rfl | (simp only [go_sem]; rfl)
  rw [if_pos c1] at H
  have e1 : (decide (x14_1 < (l0.length : Int))) = true := by simpa using c1
  try rw [e1]
  refine Evr.condT rfl (Evr.skip (Evr.seq (Evr.block (Evr.sr rfl (Opl.p1 (n := ?_))))))
  obtain ⟨c2, H⟩ := peel H
  obtain ⟨c3, H⟩ := peel H
  refine Opl.idx (M := cITime) (xs := l0) (j := x14_1) zITime (by exact hv0) rfl (by omega) (by omega) K28 Z64 rfl rfl ?_
  rintro p1 q1 h1
  obtain rfl := cITime_R (x := (rd_ITime l0 x14_1)) h1
  refine Opl.lda (.agg [.lit (.int .i64 ((rd_ITime l0 x14_1).f0)), .lit (.int .i64 ((rd_ITime l0 x14_1).f1)), .lit (.int .i64 ((rd_ITime l0 x14_1).f2)), .lit (.int .i64 ((rd_ITime l0 x14_1).f3))]) rfl T64 rfl rfl rfl rfl (Opl.alloc T64 rfl rfl rfl ?_)
  rintro i1 S h2 u1 w1
  refine Opl.p1 (n := Opl.stb (vs := [.lit (.int .i64 ((rd_ITime l0 x14_1).f0)), .lit (.int .i64 ((rd_ITime l0 x14_1).f1)), .lit (.int .i64 ((rd_ITime l0 x14_1).f2)), .lit (.int .i64 ((rd_ITime l0 x14_1).f3))]) h2 rfl rfl Z64 rfl (Nat.le_of_ble_eq_true rfl) rfl rfl rfl rfl ?_)
  rintro S (h3 : Box (.ptr i1 0) [.lit (.int .i64 ((rd_ITime l0 x14_1).f0)), .lit (.int .i64 ((rd_ITime l0 x14_1).f1)), .lit (.int .i64 ((rd_ITime l0 x14_1).f2)), .lit (.int .i64 ((rd_ITime l0 x14_1).f3))] _) u2
  refine Opl.nil (Evr.sr rfl (Opl.p1 (n := Opl.p1 (n := Opl.nil (Evr.seq (Evr.sr rfl (Opl.p1 (v := .ptr i1 0) (n := Opl.ldb (v := .lit (.int .i64 ((rd_ITime l0 x14_1).f0))) h3 rfl T3 rfl rfl rfl rfl (Opl.geq (a := ((rd_ITime l0 x14_1).f0)) (b := 5) K3 rfl rfl rfl rfl (Opl.nil ?_))))))))))
  refine Evr.join (fun tm S => ∃ (kq1 : Nat) (x9_1 : Int) (x10_1 : Int) (i2 : Abs.Id), impl_behindOk.j1 kq1 l1 l2 x14_1 x9_1 x10_1 l0 (l0.length : Int) x14_1 ((rd_ITime l0 x14_1).f0) ((rd_ITime l0 x14_1).f1) ((rd_ITime l0 x14_1).f2) ((rd_ITime l0 x14_1).f3) = some r ∧ kq1 ≤ n1 ∧ Has tm [(1, v1), (2, v2), (7, .lit (.int .i64 x14_1)), (8, .ptr i2 0), (9, .lit (.int .i64 x9_1)), (10, .lit (.int .i64 x10_1)), (12, v0), (13, .lit (.int .i64 (l0.length : Int))), (14, .lit (.int .i64 x14_1))] ∧ Box (.ptr i2 0) [.lit (.int .i64 ((rd_ITime l0 x14_1).f0)), .lit (.int .i64 ((rd_ITime l0 x14_1).f1)), .lit (.int .i64 ((rd_ITime l0 x14_1).f2)), .lit (.int .i64 ((rd_ITime l0 x14_1).f3))] S) ?_ fun hk1 => ?_
  ·
   rintro tm S ⟨kq1, x9_1, x10_1, i2, H, hle, hh, h4⟩
   rw [hh.eq]
   refine Evr.sr rfl (Opl.p1 (n := Opl.p1 (n := ?_)))
   obtain _ | k1 := kq1
   · simp [impl_behindOk.j1] at H
   simp only [impl_behindOk.j1] at H
   obtain ⟨c4, H⟩ := peel H
   obtain ⟨c5, H⟩ := peel H
   refine Opl.idx (M := (cInt .i64)) (xs := l1) (j := x14_1) (0 : Int) (by exact hv1) rfl (by omega) (by omega) K26 Z3 rfl rfl ?_
   rintro p2 q2 h5
   obtain rfl : p2 = [.lit (.int .i64 (rd l1 x14_1))] := h5
   refine Opl.lda (.lit (.int .i64 (rd l1 x14_1))) rfl T3 rfl rfl rfl rfl (Opl.p1 (n := Opl.nil (Evr.seq (Evr.sr rfl (Opl.p1 (v := .ptr i2 0) (n := Opl.ldb (v := .lit (.int .i64 ((rd_ITime l0 x14_1).f0))) h4 rfl T3 rfl rfl rfl rfl (Opl.nil (Evr.block (Evr.sr rfl (Opl.eql (a := ((rd_ITime l0 x14_1).f0)) (b := 5) K3 rfl rfl rfl rfl (Opl.p1 (n := Opl.nil ?_))))))))))))
   by_cases c6 : ((rd_ITime l0 x14_1).f0) = 5
   case pos =>
    rw [if_pos c6] at H
    have e2 : (((rd_ITime l0 x14_1).f0) == 5) = true := by simpa using c6
    try rw [e2]
    refine Evr.condT rfl (Evr.regionN rfl (Opl.p1 (n := Opl.p1 (n := ?_))))
    obtain ⟨c7, H⟩ := peel H
    obtain ⟨c8, H⟩ := peel H
    obtain _ | k2 := k1
    · simp [impl_behindOk.j2] at H
    simp only [impl_behindOk.j2] at H
    obtain ⟨c9, H⟩ := peel H
    obtain ⟨c10, H⟩ := peel H
    refine Opl.idx (M := (cInt .i64)) (xs := l2) (j := x9_1) (0 : Int) (by exact hv2) rfl (by omega) (by omega) K26 Z3 rfl rfl ?_
    rintro p3 q3 h6
    obtain rfl : p3 = [.lit (.int .i64 (rd l2 x9_1))] := h6
    refine Opl.lda (.lit (.int .i64 (rd l2 x9_1))) rfl T3 rfl rfl rfl rfl (Opl.p1 (n := Opl.nil (Evr.inBlock (Evr.sr rfl (Opl.p1 (n := Opl.p1 (n := Opl.idx (M := (cInt .i64)) (xs := l1) (j := x14_1) (0 : Int) (by exact hv1) rfl (by omega) (by omega) K26 Z3 rfl rfl ?_)))))))
    rintro p4 q4 h7
    obtain rfl : p4 = [.lit (.int .i64 (rd l1 x14_1))] := h7
    refine Opl.lda (.lit (.int .i64 (rd l1 x14_1))) rfl T3 rfl rfl rfl rfl (Opl.p1 (n := Opl.neq (a := (rd l1 x14_1)) (b := (rd l2 x9_1)) K3 rfl rfl rfl rfl (Opl.nil ?_)))
    by_cases c11 : (rd l1 x14_1) = (rd l2 x9_1)
    case neg =>
     rw [if_neg c11] at H
     have e4 : ((rd l1 x14_1) != (rd l2 x9_1)) = true := by simpa using c11
     try rw [e4]
     refine Evr.condT rfl (Evr.sr rfl (Opl.p1 (n := Opl.nil ?_)))
     obtain rfl := Option.some.inj H
     refine Evr.ret1 Try.func65 rfl ?_
     show (.lit (.bool false) : PV) = _
     first | rfl | (simp only [go_sem]; rfl)
    rw [if_pos c11] at H
    have e3 : ((rd l1 x14_1) != (rd l2 x9_1)) = false := by simpa using c11
    try rw [e3]
    refine Evr.condF rfl (Evr.skip (Evr.inBlock (Evr.regionN rfl (Opl.add (k := .i64) (a := x14_1) (b := 1) K3 rfl rfl rfl rfl (Opl.one (v := .lit (.int .i64 (wrap64 (x14_1 + 1)))) rfl rfl rfl (Opl.nil ?_))))))
    exact ih1 _ (by omega) _ _ ⟨by omega, _, H, ⟨rfl, rfl, rfl, rfl, rfl, trivial⟩⟩
   rw [if_neg c6] at H
   have e5 : (((rd_ITime l0 x14_1).f0) == 5) = false := by simpa using c6
   try rw [e5]
   refine Evr.condF rfl (Evr.sr rfl (Opl.eql (a := ((rd_ITime l0 x14_1).f0)) (b := 6) K3 rfl rfl rfl rfl (Opl.p1 (n := Opl.nil ?_))))
   by_cases c12 : ((rd_ITime l0 x14_1).f0) = 6
   case pos =>
    rw [if_pos c12] at H
    have e6 : (((rd_ITime l0 x14_1).f0) == 6) = true := by simpa using c12
    try rw [e6]
    refine Evr.condT rfl (Evr.regionD rfl (by kernel_rfl) (Opl.p1 (n := Opl.p1 (n := ?_))))
    obtain ⟨c13, H⟩ := peel H
    obtain ⟨c14, H⟩ := peel H
    obtain ⟨c15, H⟩ := peel H
    obtain ⟨c16, H⟩ := peel H
    obtain ⟨c17, H⟩ := peel H
    obtain _ | k3 := k1
    · simp [impl_behindOk.j2] at H
    simp only [impl_behindOk.j2] at H
    obtain ⟨c18, H⟩ := peel H
    obtain ⟨c19, H⟩ := peel H
    refine Opl.idx (M := (cInt .i64)) (xs := l1) (j := x10_1) (0 : Int) (by exact hv1) rfl (by omega) (by omega) K26 Z3 rfl rfl ?_
    rintro p5 q5 h8
    obtain rfl : p5 = [.lit (.int .i64 (rd l1 x10_1))] := h8
    refine Opl.lda (.lit (.int .i64 (rd l1 x10_1))) rfl T3 rfl rfl rfl rfl (Opl.p1 (n := Opl.p1 (n := Opl.idx (M := (cInt .i64)) (xs := l1) (j := x9_1) (0 : Int) (by exact hv1) rfl (by omega) (by omega) K26 Z3 rfl rfl ?_)))
    rintro p6 q6 h9
    obtain rfl : p6 = [.lit (.int .i64 (rd l1 x9_1))] := h9
    refine Opl.lda (.lit (.int .i64 (rd l1 x9_1))) rfl T3 rfl rfl rfl rfl (Opl.p1 (n := Opl.p1 (n := Opl.idx (M := (cInt .i64)) (xs := l2) (j := x14_1) (0 : Int) (by exact hv2) rfl (by omega) (by omega) K26 Z3 rfl rfl ?_)))
    rintro p7 q7 h10
    obtain rfl : p7 = [.lit (.int .i64 (rd l2 x14_1))] := h10
    refine Opl.lda (.lit (.int .i64 (rd l2 x14_1))) rfl T3 rfl rfl rfl rfl (Opl.one (v := .lit (.int .i64 (Go.bits .and .i64 (rd l1 x9_1) (rd l2 x14_1)))) rfl rfl (by simp only [go_sem]; simp only [Go.bits, w64]; rfl) (Opl.one (v := .lit (.int .i64 (Go.bits .or .i64 (rd l1 x10_1) (Go.bits .and .i64 (rd l1 x9_1) (rd l2 x14_1))))) rfl rfl (by simp only [go_sem]; simp only [Go.bits, w64]; rfl) (Opl.one (v := .lit (.int .i64 (Go.bits .or .i64 (rd l1 x10_1) (Go.bits .and .i64 (rd l1 x9_1) (rd l2 x14_1))))) rfl rfl rfl (Opl.nil (Evr.inBlock (Evr.sr rfl (Opl.one (v := v1) rfl rfl rfl (Opl.one (v := .lit (.int .i64 x14_1)) rfl rfl rfl (Opl.idx (M := (cInt .i64)) (xs := l1) (j := x14_1) (0 : Int) (by exact hv1) rfl (by omega) (by omega) K26 Z3 rfl rfl ?_)))))))))
    rintro p8 q8 h11
    obtain rfl : p8 = [.lit (.int .i64 (rd l1 x14_1))] := h11
    refine Opl.lda (.lit (.int .i64 (rd l1 x14_1))) rfl T3 rfl rfl rfl rfl (Opl.one (v := .lit (.int .i64 (Go.bits .or .i64 (rd l1 x10_1) (Go.bits .and .i64 (rd l1 x9_1) (rd l2 x14_1))))) rfl rfl rfl (Opl.neq (a := (rd l1 x14_1)) (b := (Go.bits .or .i64 (rd l1 x10_1) (Go.bits .and .i64 (rd l1 x9_1) (rd l2 x14_1)))) K3 rfl rfl rfl rfl (Opl.nil ?_)))
    by_cases c20 : (rd l1 x14_1) = (Go.bits .or .i64 (rd l1 x10_1) (Go.bits .and .i64 (rd l1 x9_1) (rd l2 x14_1)))
    case neg =>
     rw [if_neg c20] at H
     have e8 : ((rd l1 x14_1) != (Go.bits .or .i64 (rd l1 x10_1) (Go.bits .and .i64 (rd l1 x9_1) (rd l2 x14_1)))) = true := by simpa using c20
     try rw [e8]
     refine Evr.condT rfl (Evr.sr rfl (Opl.one (v := .lit (.bool false)) rfl rfl rfl (Opl.nil ?_)))
     obtain rfl := Option.some.inj H
     refine Evr.ret1 Try.func65 rfl ?_
     show (.lit (.bool false) : PV) = _
     first | rfl | (simp only [go_sem]; rfl)
    rw [if_pos c20] at H
    have e7 : ((rd l1 x14_1) != (Go.bits .or .i64 (rd l1 x10_1) (Go.bits .and .i64 (rd l1 x9_1) (rd l2 x14_1)))) = false := by simpa using c20
    try rw [e7]
    refine Evr.condF rfl (Evr.skip (Evr.inBlock (Evr.regionN rfl (Opl.add (k := .i64) (a := x14_1) (b := 1) K3 rfl rfl rfl rfl (Opl.one (v := .lit (.int .i64 (wrap64 (x14_1 + 1)))) rfl rfl rfl (Opl.nil ?_))))))
    exact ih1 _ (by omega) _ _ ⟨by omega, _, H, ⟨rfl, rfl, rfl, rfl, rfl, trivial⟩⟩
   rw [if_neg c12] at H
   have e9 : (((rd_ITime l0 x14_1).f0) == 6) = false := by simpa using c12
   try rw [e9]
   refine Evr.condF rfl (Evr.sr rfl (Opl.eql (a := ((rd_ITime l0 x14_1).f0)) (b := 7) K3 rfl rfl rfl rfl (Opl.p1 (n := Opl.nil ?_))))
   by_cases c21 : ((rd_ITime l0 x14_1).f0) = 7
   case neg =>
    rw [if_neg c21] at H
    have e13 : (((rd_ITime l0 x14_1).f0) == 7) = false := by simpa using c21
    try rw [e13]
    refine Evr.condF rfl (Evr.skip (Evr.inBlock (Evr.sr rfl (Opl.p1 (n := Opl.p1 (n := ?_))))))
    obtain _ | k5 := k1
    · simp [impl_behindOk.j2] at H
    simp only [impl_behindOk.j2] at H
    obtain ⟨c30, H⟩ := peel H
    obtain ⟨c31, H⟩ := peel H
    refine Opl.idx (M := (cInt .i64)) (xs := l1) (j := x14_1) (0 : Int) (by exact hv1) rfl (by omega) (by omega) K26 Z3 rfl rfl ?_
    rintro p13 q13 h16
    obtain rfl : p13 = [.lit (.int .i64 (rd l1 x14_1))] := h16
    refine Opl.lda (.lit (.int .i64 (rd l1 x14_1))) rfl T3 rfl rfl rfl rfl (Opl.p1 (n := Opl.neq (a := (rd l1 x14_1)) (b := (rd l1 x14_1)) K3 rfl rfl rfl rfl (Opl.nil ?_)))
    have c32 : (rd l1 x14_1) = (rd l1 x14_1) := rfl
    try rw [if_pos c32] at H
    have e14 : ((rd l1 x14_1) != (rd l1 x14_1)) = false := by simp
    try rw [e14]
    refine Evr.condF rfl (Evr.skip (Evr.inBlock (Evr.regionN rfl (Opl.add (k := .i64) (a := x14_1) (b := 1) K3 rfl rfl rfl rfl (Opl.one (v := .lit (.int .i64 (wrap64 (x14_1 + 1)))) rfl rfl rfl (Opl.nil ?_))))))
    exact ih1 _ (by omega) _ _ ⟨by omega, _, H, ⟨rfl, rfl, rfl, rfl, rfl, trivial⟩⟩
   rw [if_pos c21] at H
   have e10 : (((rd_ITime l0 x14_1).f0) == 7) = true := by simpa using c21
   try rw [e10]
   refine Evr.condT rfl (Evr.regionD rfl (by kernel_rfl) (Opl.p1 (n := Opl.p1 (n := ?_))))
   obtain ⟨c22, H⟩ := peel H
   obtain ⟨c23, H⟩ := peel H
   obtain ⟨c24, H⟩ := peel H
   obtain ⟨c25, H⟩ := peel H
   obtain ⟨c26, H⟩ := peel H
   obtain _ | k4 := k1
   · simp [impl_behindOk.j2] at H
   simp only [impl_behindOk.j2] at H
   obtain ⟨c27, H⟩ := peel H
   obtain ⟨c28, H⟩ := peel H
   refine Opl.idx (M := (cInt .i64)) (xs := l1) (j := x10_1) (0 : Int) (by exact hv1) rfl (by omega) (by omega) K26 Z3 rfl rfl ?_
   rintro p9 q9 h12
   obtain rfl : p9 = [.lit (.int .i64 (rd l1 x10_1))] := h12
   refine Opl.lda (.lit (.int .i64 (rd l1 x10_1))) rfl T3 rfl rfl rfl rfl (Opl.p1 (n := Opl.p1 (n := Opl.idx (M := (cInt .i64)) (xs := l1) (j := x9_1) (0 : Int) (by exact hv1) rfl (by omega) (by omega) K26 Z3 rfl rfl ?_)))
   rintro p10 q10 h13
   obtain rfl : p10 = [.lit (.int .i64 (rd l1 x9_1))] := h13
   refine Opl.lda (.lit (.int .i64 (rd l1 x9_1))) rfl T3 rfl rfl rfl rfl (Opl.p1 (n := Opl.p1 (n := Opl.idx (M := (cInt .i64)) (xs := l2) (j := x14_1) (0 : Int) (by exact hv2) rfl (by omega) (by omega) K26 Z3 rfl rfl ?_)))
   rintro p11 q11 h14
   obtain rfl : p11 = [.lit (.int .i64 (rd l2 x14_1))] := h14
   refine Opl.lda (.lit (.int .i64 (rd l2 x14_1))) rfl T3 rfl rfl rfl rfl (Opl.one (v := .lit (.int .i64 (Go.bits .or .i64 (rd l1 x9_1) (rd l2 x14_1)))) rfl rfl (by simp only [go_sem]; simp only [Go.bits, w64]; rfl) (Opl.one (v := .lit (.int .i64 (Go.bits .and .i64 (rd l1 x10_1) (Go.bits .or .i64 (rd l1 x9_1) (rd l2 x14_1))))) rfl rfl (by simp only [go_sem]; simp only [Go.bits, w64]; rfl) (Opl.one (v := .lit (.int .i64 (Go.bits .and .i64 (rd l1 x10_1) (Go.bits .or .i64 (rd l1 x9_1) (rd l2 x14_1))))) rfl rfl rfl (Opl.nil (Evr.inBlock (Evr.sr rfl (Opl.one (v := v1) rfl rfl rfl (Opl.one (v := .lit (.int .i64 x14_1)) rfl rfl rfl (Opl.idx (M := (cInt .i64)) (xs := l1) (j := x14_1) (0 : Int) (by exact hv1) rfl (by omega) (by omega) K26 Z3 rfl rfl ?_)))))))))
   rintro p12 q12 h15
   obtain rfl : p12 = [.lit (.int .i64 (rd l1 x14_1))] := h15
   refine Opl.lda (.lit (.int .i64 (rd l1 x14_1))) rfl T3 rfl rfl rfl rfl (Opl.one (v := .lit (.int .i64 (Go.bits .and .i64 (rd l1 x10_1) (Go.bits .or .i64 (rd l1 x9_1) (rd l2 x14_1))))) rfl rfl rfl (Opl.neq (a := (rd l1 x14_1)) (b := (Go.bits .and .i64 (rd l1 x10_1) (Go.bits .or .i64 (rd l1 x9_1) (rd l2 x14_1)))) K3 rfl rfl rfl rfl (Opl.nil ?_)))
   by_cases c29 : (rd l1 x14_1) = (Go.bits .and .i64 (rd l1 x10_1) (Go.bits .or .i64 (rd l1 x9_1) (rd l2 x14_1)))
   case neg =>
    rw [if_neg c29] at H
    have e12 : ((rd l1 x14_1) != (Go.bits .and .i64 (rd l1 x10_1) (Go.bits .or .i64 (rd l1 x9_1) (rd l2 x14_1)))) = true := by simpa using c29
    try rw [e12]
    refine Evr.condT rfl (Evr.sr rfl (Opl.one (v := .lit (.bool false)) rfl rfl rfl (Opl.nil ?_)))
    obtain rfl := Option.some.inj H
    refine Evr.ret1 Try.func65 rfl ?_
    show (.lit (.bool false) : PV) = _
    first | rfl | (simp only [go_sem]; rfl)
   rw [if_pos c29] at H
   have e11 : ((rd l1 x14_1) != (Go.bits .and .i64 (rd l1 x10_1) (Go.bits .or .i64 (rd l1 x9_1) (rd l2 x14_1)))) = false := by simpa using c29
   try rw [e11]
   refine Evr.condF rfl (Evr.skip (Evr.inBlock (Evr.regionN rfl (Opl.add (k := .i64) (a := x14_1) (b := 1) K3 rfl rfl rfl rfl (Opl.one (v := .lit (.int .i64 (wrap64 (x14_1 + 1)))) rfl rfl rfl (Opl.nil ?_))))))
   exact ih1 _ (by omega) _ _ ⟨by omega, _, H, ⟨rfl, rfl, rfl, rfl, rfl, trivial⟩⟩
  ·
   by_cases c33 : ((rd_ITime l0 x14_1).f0) ≥ 5
   case neg =>
    rw [if_neg c33] at H
    have e16 : (decide (((rd_ITime l0 x14_1).f0) ≥ 5)) = false := by simpa using c33
    try rw [e16]
    refine Evr.condF rfl (Evr.skip ?_)
    exact hk1 _ _ ⟨_, _, _, _, H, by omega, ⟨rfl, rfl, rfl, rfl, rfl, rfl, rfl, rfl, rfl, trivial⟩, h3⟩
   rw [if_pos c33] at H
   have e15 : (decide (((rd_ITime l0 x14_1).f0) ≥ 5)) = true := by simpa using c33
   try rw [e15]
   refine Evr.condT rfl (Evr.regionD rfl (by kernel_rfl) (Opl.p1 (v := .ptr i1 2) (n := Opl.ldb (v := .lit (.int .i64 ((rd_ITime l0 x14_1).f2))) h3 rfl T3 rfl rfl rfl rfl (Opl.p1 (v := .ptr i1 3) (n := Opl.ldb (v := .lit (.int .i64 ((rd_ITime l0 x14_1).f3))) h3 rfl T3 rfl rfl rfl rfl (Opl.p1 (n := Opl.p1 (n := Opl.nil ?_))))))))
   exact hk1 _ _ ⟨_, _, _, _, H, by omega, ⟨rfl, rfl, rfl, rfl, rfl, rfl, rfl, rfl, rfl, trivial⟩, h3⟩
theorem impl_GuessNext.ev {k : Nat} {l0 : List ITime} {v0 : PV} (hv0 : Sl cITime l0 v0) {a1 : Int} {a2 : Int} {a3 : Int} {r : Bool} (H : impl_GuessNext.f k l0 a1 a2 a3 = some r) : Ret Try.prog 33 [v0, .lit (.int .i64 a1), .lit (.int .i64 a2), .lit (.int .i64 a3)] fun v S => v = .lit (.bool r) := by
 unfold impl_GuessNext.f at H
 refine Ret.intro Try.func33 rfl (Nat.le_of_ble_eq_true rfl) rfl ?_
 rw [tm4]
 refine Evr.sr rfl (Opl.p1 (n := Opl.nil (Evr.sr rfl (Opl.p1 (n := Opl.p1 (n := ?_))))))
 obtain ⟨t828, h_t828, H⟩ := Option.bind_eq_some_iff.1 H
 refine Opl.callc (impl_GuessCount.ev hv0 h_t828) rfl rfl rfl rfl ⟨hv0.plain, (.lit _), trivial⟩ (by decide) (Opl.p1 (n := Opl.nil (Evr.sr rfl (Opl.p1 (n := Opl.p1 (n := Opl.subi (k := .i64) (a := t828) (b := 1) K3 rfl rfl rfl rfl ?_))))))
 obtain ⟨t829, h_t829, H⟩ := Option.bind_eq_some_iff.1 H
 refine Opl.callc (impl_in.ev h_t829) rfl rfl rfl rfl ⟨(.lit _), (.lit _), (.lit _), trivial⟩ (by decide) (Opl.one (v := .lit (.bool t829)) rfl rfl rfl ?_)
 by_cases c1 : t829 = true
 case neg =>
  rw [if_neg c1] at H
  obtain rfl : t829 = false := by simpa using c1
  refine Opl.skp rfl (Opl.skp rfl (Opl.skp rfl (Opl.skp rfl (Opl.one (v := .lit (.bool false)) rfl rfl rfl (Opl.one (v := .lit (.bool false)) rfl rfl rfl (Opl.skp rfl (Opl.skp rfl (Opl.skp rfl (Opl.skp rfl (Opl.skp rfl (Opl.skp rfl (Opl.skp rfl (Opl.skp rfl (Opl.skp rfl (Opl.skp rfl (Opl.one (v := .lit (.bool false)) rfl rfl rfl (Opl.one (v := .lit (.bool false)) rfl rfl rfl (Opl.nil ?_))))))))))))))))))
  obtain rfl := Option.some.inj H
  refine Evr.ret1 Try.func33 rfl ?_
  show (.lit (.bool false) : PV) = _
  first | rfl | (simp only [go_sem]; rfl)
 rw [if_pos c1] at H
 obtain rfl : t829 = true := by simpa using c1
 refine Opl.one (v := .lit (.int .i64 a3)) rfl rfl rfl (Opl.one (v := .lit (.int .i64 t828)) rfl rfl rfl (Opl.subi (k := .i64) (a := t828) (b := 1) K3 rfl rfl rfl rfl ?_))
 obtain ⟨t830, h_t830, H⟩ := Option.bind_eq_some_iff.1 H
 refine Opl.callc (impl_in.ev h_t830) rfl rfl rfl rfl ⟨(.lit _), (.lit _), (.lit _), trivial⟩ (by decide) (Opl.one (v := .lit (.bool t830)) rfl rfl rfl (Opl.one (v := .lit (.bool t830)) rfl rfl rfl ?_))
 by_cases c2 : t830 = true
 case neg =>
  rw [if_neg c2] at H
  obtain rfl : t830 = false := by simpa using c2
  refine Opl.skp rfl (Opl.skp rfl (Opl.skp rfl (Opl.skp rfl (Opl.skp rfl (Opl.skp rfl (Opl.skp rfl (Opl.skp rfl (Opl.skp rfl (Opl.skp rfl (Opl.one (v := .lit (.bool false)) rfl rfl rfl (Opl.one (v := .lit (.bool false)) rfl rfl rfl (Opl.nil ?_))))))))))))
  obtain rfl := Option.some.inj H
  refine Evr.ret1 Try.func33 rfl ?_
  show (.lit (.bool false) : PV) = _
  first | rfl | (simp only [go_sem]; rfl)
 rw [if_pos c2] at H
 obtain rfl : t830 = true := by simpa using c2
 refine Opl.one (v := v0) rfl rfl rfl (Opl.one (v := v0) rfl rfl rfl (Opl.one (v := .lit (.int .i64 a1)) rfl rfl rfl (Opl.one (v := .lit (.int .i64 a2)) rfl rfl rfl ?_)))
 obtain ⟨t831, h_t831, H⟩ := Option.bind_eq_some_iff.1 H
 refine Opl.call ((impl_truths.ev hv0 h_t831).mono fun _ _ h => Out.vec h) rfl rfl rfl rfl ⟨hv0.plain, (.lit _), (.lit _), trivial⟩ (by decide) ?_
 rintro pv1 h1
 refine Opl.one (v := v0) rfl rfl rfl (Opl.one (v := .lit (.int .i64 a1)) rfl rfl rfl (Opl.one (v := .lit (.int .i64 a3)) rfl rfl rfl ?_))
 obtain ⟨t834, h_t834, H⟩ := Option.bind_eq_some_iff.1 H
 refine Opl.call ((impl_truths.ev hv0 h_t834).mono fun _ _ h => Out.vec h) rfl rfl rfl rfl ⟨hv0.plain, (.lit _), (.lit _), trivial⟩ (by decide) ?_
 rintro pv2 h2
 obtain ⟨t837, h_t837, H⟩ := Option.bind_eq_some_iff.1 H
 refine Opl.callc (impl_behindOk.ev hv0 h1 h2 h_t837) rfl rfl rfl rfl ⟨hv0.plain, h1.plain, h2.plain, trivial⟩ (by decide) (Opl.one (v := .lit (.bool t837)) rfl rfl rfl (Opl.one (v := .lit (.bool t837)) rfl rfl rfl (Opl.nil ?_)))
 obtain rfl := Option.some.inj H
 refine Evr.ret1 Try.func33 rfl ?_
 show (.lit (.bool t837) : PV) = _
 first | rfl | (simp only [go_sem]; rfl)
theorem impl_bitsValid_1.ev {a0 : Int} {r : Bool} (H : impl_bitsValid_1.f a0 = some r) : Ret Try.prog 125 [.lit (.int .i64 a0)] fun v S => v = .lit (.bool r) := by
 unfold impl_bitsValid_1.f at H
 refine Ret.intro Try.func125 rfl (Nat.le_of_ble_eq_true rfl) rfl ?_
 rw [tm1]
 refine Evr.sr rfl (Opl.p1 (n := Opl.nil (Evr.sr rfl (Opl.p1 (n := ?_)))))
 obtain ⟨t294, h_t294, H⟩ := Option.bind_eq_some_iff.1 H
 refine Opl.callc (impl_in.ev h_t294) rfl rfl rfl rfl ⟨(.lit _), (.lit _), (.lit _), trivial⟩ (by decide) (Opl.p1 (n := Opl.p1 (n := Opl.nil ?_)))
 obtain rfl := Option.some.inj H
 refine Evr.ret1 Try.func125 rfl ?_
 show (.lit (.bool (!t294)) : PV) = _
 first | rfl | (simp only [go_sem]; rfl)
theorem slices_IndexFunc_at_impl_bitsValid_1.ev {k : Nat} {l0 : List Int} {v0 : PV} (hv0 : Sl (cInt .i64) l0 v0) {r : Int} (H : slices_IndexFunc_at_impl_bitsValid_1.f k l0 = some r) : Ret Try.prog 126 [v0, .lit (.func (.func 125) #[] #[])] fun v S => v = .lit (.int .i64 r) := by
 unfold slices_IndexFunc_at_impl_bitsValid_1.f at H
 refine Ret.intro Try.func126 rfl (Nat.le_of_ble_eq_true rfl) rfl ?_
 rw [tm2]
 refine Evr.sr rfl (Opl.p1 (n := Opl.nil (Evr.seq (Evr.sr rfl (Opl.p1 (n := Opl.len (xs := l0) (by exact hv0) K26 rfl rfl rfl rfl (Opl.p1 (n := Opl.nil (Evr.block ?_)))))))))
 refine Evr.loop (Evr.rounds (n := k) (Inv := fun n tm S => n ≤ k ∧ ∃ (x8_1 : Int), slices_IndexFunc_at_impl_bitsValid_1.l0 n l0 (l0.length : Int) x8_1 = some r ∧ Has tm [(0, v0), (1, .lit (.func (.func 125) #[] #[])), (7, .lit (.int .i64 (l0.length : Int))), (8, .lit (.int .i64 x8_1))]) ?_ ?_ ?_)
 · exact ⟨Nat.le_refl _, _, H, ⟨rfl, rfl, rfl, rfl, trivial⟩⟩
 ·
  rintro tm S ⟨_, _, H, -⟩
  simp [slices_IndexFunc_at_impl_bitsValid_1.l0] at H
 ·
  rintro n1 ih1 tm S ⟨hle, x8_1, H, hh⟩
  simp only [slices_IndexFunc_at_impl_bitsValid_1.l0] at H
  rw [hh.eq]
  refine Evr.sr rfl (Opl.p1 (n := Opl.nil (Evr.seq ?_)))
  by_cases c1 : x8_1 < (l0.length : Int)
  case neg =>
   rw [if_neg c1] at H
   have e2 : (decide (x8_1 < (l0.length : Int))) = false := by simpa using c1
   try rw [e2]
   refine Evr.condF rfl (Evr.exit rfl (Evr.sr rfl (Opl.p1 (n := Opl.nil ?_))))
   obtain rfl := Option.some.inj H
   refine Evr.ret1 Try.func126 rfl ?_
   show (.lit (.int .i64 (-1)) : PV) = _
   first | rfl | (simp only [go_sem]; rfl)
  rw [if_pos c1] at H
  have e1 : (decide (x8_1 < (l0.length : Int))) = true := by simpa using c1
  try rw [e1]
  refine Evr.condT rfl (Evr.skip (Evr.seq (Evr.block (Evr.sr rfl (Opl.p1 (n := Opl.p1 (n := Opl.nil (Evr.sr rfl (Opl.p1 (n := Opl.p1 (n := Opl.p1 (n := ?_))))))))))))
  obtain ⟨c2, H⟩ := peel H
  obtain ⟨c3, H⟩ := peel H
  refine Opl.idx (M := (cInt .i64)) (xs := l0) (j := x8_1) (0 : Int) (by exact hv0) rfl (by omega) (by omega) K26 Z3 rfl rfl ?_
  rintro p1 q1 h1
  obtain rfl : p1 = [.lit (.int .i64 (rd l0 x8_1))] := h1
  refine Opl.lda (.lit (.int .i64 (rd l0 x8_1))) rfl T3 rfl rfl rfl rfl ?_
  obtain ⟨t296, h_t296, H⟩ := Option.bind_eq_some_iff.1 H
  refine Opl.callc (impl_bitsValid_1.ev h_t296) rfl rfl rfl rfl ⟨(.lit _), trivial⟩ (by decide) (Opl.nil ?_)
  by_cases c4 : t296 = true
  case pos =>
   rw [if_pos c4] at H
   obtain rfl : t296 = true := by simpa using c4
   refine Evr.condT rfl (Evr.sr rfl (Opl.p1 (n := Opl.p1 (n := Opl.nil ?_))))
   obtain rfl := Option.some.inj H
   refine Evr.ret1 Try.func126 rfl ?_
   show (.lit (.int .i64 x8_1) : PV) = _
   first | rfl | (simp only [go_sem]; rfl)
  rw [if_neg c4] at H
  obtain rfl : t296 = false := by simpa using c4
  refine Evr.condF rfl (Evr.skip (Evr.inBlock (Evr.regionN rfl (Opl.add (k := .i64) (a := x8_1) (b := 1) K3 rfl rfl rfl rfl (Opl.one (v := .lit (.int .i64 (wrap64 (x8_1 + 1)))) rfl rfl rfl (Opl.nil ?_))))))
  exact ih1 _ (by omega) _ _ ⟨by omega, _, H, ⟨rfl, rfl, rfl, rfl, trivial⟩⟩
theorem slices_ContainsFunc_at_impl_bitsValid_1.ev {k : Nat} {l0 : List Int} {v0 : PV} (hv0 : Sl (cInt .i64) l0 v0) {r : Bool} (H : slices_ContainsFunc_at_impl_bitsValid_1.f k l0 = some r) : Ret Try.prog 120 [v0, .lit (.func (.func 125) #[] #[])] fun v S => v = .lit (.bool r) := by
 unfold slices_ContainsFunc_at_impl_bitsValid_1.f at H
 refine Ret.intro Try.func120 rfl (Nat.le_of_ble_eq_true rfl) rfl ?_
 rw [tm2]
 refine Evr.sr rfl (Opl.p1 (n := Opl.nil (Evr.sr rfl (Opl.p1 (n := Opl.p1 (n := ?_))))))
 obtain ⟨t297, h_t297, H⟩ := Option.bind_eq_some_iff.1 H
 refine Opl.callc (slices_IndexFunc_at_impl_bitsValid_1.ev hv0 h_t297) rfl rfl rfl rfl ⟨hv0.plain, (.lit _), trivial⟩ (by decide) (Opl.p1 (n := Opl.p1 (n := Opl.nil ?_)))
 obtain rfl := Option.some.inj H
 refine Evr.ret1 Try.func120 rfl ?_
 show (.lit (.bool (decide (t297 ≥ 0))) : PV) = _
 first | rfl | (simp only [go_sem]; rfl)
theorem impl_bitsValid.ev {k : Nat} {l0 : List Int} {v0 : PV} (hv0 : Sl (cInt .i64) l0 v0) {r : Bool} (H : impl_bitsValid.f k l0 = some r) : Ret Try.prog 115 [v0] fun v S => v = .lit (.bool r) := by
 unfold impl_bitsValid.f at H
 refine Ret.intro Try.func115 rfl (Nat.le_of_ble_eq_true rfl) rfl ?_
 rw [tm1]
 refine Evr.sr rfl (Opl.p1 (n := Opl.nil (Evr.sr rfl (Opl.p1 (n := ?_)))))
 obtain ⟨t298, h_t298, H⟩ := Option.bind_eq_some_iff.1 H
 refine Opl.callc (slices_ContainsFunc_at_impl_bitsValid_1.ev hv0 h_t298) rfl rfl rfl rfl ⟨hv0.plain, (.lit _), trivial⟩ (by decide) (Opl.p1 (n := Opl.p1 (n := Opl.nil ?_)))
 obtain rfl := Option.some.inj H
 refine Evr.ret1 Try.func115 rfl ?_
 show (.lit (.bool (!t298)) : PV) = _
 first | rfl | (simp only [go_sem]; rfl)
theorem impl_letterOk.ev {k : Nat} {l0 : List Int} {v0 : PV} (hv0 : Sl (cInt .i64) l0 v0) {a1 : Int} {r : Bool} (H : impl_letterOk.f k l0 a1 = some r) : Ret Try.prog 77 [v0, .lit (.int .i64 a1)] fun v S => v = .lit (.bool r) := by
 unfold impl_letterOk.f at H
 refine Ret.intro Try.func77 rfl (Nat.le_of_ble_eq_true rfl) rfl ?_
 rw [tm2]
 refine Evr.sr rfl (Opl.p1 (n := Opl.nil (Evr.sr rfl (Opl.p1 (n := Opl.len (xs := l0) (by exact hv0) K26 rfl rfl rfl rfl (Opl.p1 (n := Opl.p1 (n := Opl.p1 (n := ?_)))))))))
 by_cases c1 : (l0.length : Int) = a1
 case neg =>
  rw [if_neg c1] at H
  have e2 : ((l0.length : Int) == a1) = false := by simpa using c1
  try rw [e2]
  refine Opl.skp rfl (Opl.skp rfl (Opl.p1 (n := Opl.p1 (n := Opl.nil ?_))))
  obtain rfl := Option.some.inj H
  refine Evr.ret1 Try.func77 rfl ?_
  show (.lit (.bool false) : PV) = _
  first | rfl | (simp only [go_sem]; rfl)
 rw [if_pos c1] at H
 have e1 : ((l0.length : Int) == a1) = true := by simpa using c1
 try rw [e1]
 refine Opl.p1 (n := ?_)
 obtain ⟨t299, h_t299, H⟩ := Option.bind_eq_some_iff.1 H
 refine Opl.callc (impl_bitsValid.ev hv0 h_t299) rfl rfl rfl rfl ⟨hv0.plain, trivial⟩ (by decide) (Opl.p1 (n := Opl.p1 (n := Opl.nil ?_)))
 obtain rfl := Option.some.inj H
 refine Evr.ret1 Try.func77 rfl ?_
 show (.lit (.bool t299) : PV) = _
 first | rfl | (simp only [go_sem]; rfl)
theorem impl_WordValid_1.ev {k : Nat} {l0 : List Int} {v0 : PV} (hv0 : Sl (cInt .i64) l0 v0) {a1 : Int} {r : Bool} (H : impl_WordValid_1.f k l0 a1 = some r) : Ret Try.prog 76 [v0, .fel ((.lit (.int .i64 a1)) :: [])] fun v S => v = .lit (.bool r) := by
 unfold impl_WordValid_1.f at H
 refine Ret.intro Try.func76 rfl (Nat.le_of_ble_eq_true rfl) rfl ?_
 rw [tm2]
 refine Evr.sr rfl (Opl.p1 (n := Opl.nil (Evr.sr rfl (Opl.p1 (n := Opl.lda (.lit (.int .i64 a1)) rfl T3 rfl rfl rfl rfl ?_)))))
 obtain ⟨r1, h_r1, H⟩ := Option.bind_eq_some_iff.1 H
 refine Opl.callc (impl_letterOk.ev hv0 h_r1) rfl rfl rfl rfl ⟨hv0.plain, (.lit _), trivial⟩ (by decide) (Opl.p1 (n := Opl.p1 (n := Opl.nil ?_)))
 obtain rfl := Option.some.inj H
 refine Evr.ret1 Try.func76 rfl ?_
 show (.lit (.bool (!r1)) : PV) = _
 first | rfl | (simp only [go_sem]; rfl)
theorem slices_IndexFunc_int_int_at_impl_WordValid_1.ev {k : Nat} {l0 : List (List Int)} {v0 : PV} (hv0 : Sl (cSl (cInt .i64)) l0 v0) {a2 : Int} {r : Int} (H : slices_IndexFunc_int_int_at_impl_WordValid_1.f k l0 a2 = some r) : Ret Try.prog 116 [v0, .fn 76 [.fel ((.lit (.int .i64 a2)) :: [])]] fun v S => v = .lit (.int .i64 r) := by
 unfold slices_IndexFunc_int_int_at_impl_WordValid_1.f at H
 refine Ret.intro Try.func116 rfl (Nat.le_of_ble_eq_true rfl) rfl ?_
 rw [tm2]
 refine Evr.sr rfl (Opl.p1 (n := Opl.nil (Evr.seq (Evr.sr rfl (Opl.p1 (n := Opl.len (xs := l0) (by exact hv0) K23 rfl rfl rfl rfl (Opl.p1 (n := Opl.nil (Evr.block ?_)))))))))
 refine Evr.loop (Evr.rounds (n := k) (Inv := fun n tm S => n ≤ k ∧ ∃ (x8_1 : Int), slices_IndexFunc_int_int_at_impl_WordValid_1.l1 n x8_1 l0 a2 = some r ∧ Has tm [(0, v0), (1, .fn 76 [.fel ((.lit (.int .i64 a2)) :: [])]), (7, .lit (.int .i64 (l0.length : Int))), (8, .lit (.int .i64 x8_1))]) ?_ ?_ ?_)
 · exact ⟨Nat.le_refl _, _, H, ⟨rfl, rfl, rfl, rfl, trivial⟩⟩
 ·
  rintro tm S ⟨_, _, H, -⟩
  simp [slices_IndexFunc_int_int_at_impl_WordValid_1.l1] at H
 ·
  rintro n1 ih1 tm S ⟨hle, x8_1, H, hh⟩
  simp only [slices_IndexFunc_int_int_at_impl_WordValid_1.l1] at H
  rw [hh.eq]
  refine Evr.sr rfl (Opl.p1 (n := Opl.nil (Evr.seq ?_)))
  by_cases c1 : x8_1 < (l0.length : Int)
  case neg =>
   rw [if_neg c1] at H
   have e2 : (decide (x8_1 < (l0.length : Int))) = false := by simpa using c1
   try rw [e2]
   refine Evr.condF rfl (Evr.exit rfl (Evr.sr rfl (Opl.p1 (n := Opl.nil ?_))))
   obtain rfl := Option.some.inj H
   refine Evr.ret1 Try.func116 rfl ?_
   show (.lit (.int .i64 (-1)) : PV) = _
   first | rfl | (simp only [go_sem]; rfl)
  rw [if_pos c1] at H
  have e1 : (decide (x8_1 < (l0.length : Int))) = true := by simpa using c1
  try rw [e1]
  refine Evr.condT rfl (Evr.skip (Evr.seq (Evr.block (Evr.sr rfl (Opl.p1 (n := Opl.p1 (n := Opl.nil (Evr.sr rfl (Opl.p1 (n := Opl.p1 (n := Opl.p1 (n := ?_))))))))))))
  obtain ⟨c2, H⟩ := peel H
  obtain ⟨c3, H⟩ := peel H
  refine Opl.idx (M := (cSl (cInt .i64))) (xs := l0) (j := x8_1) ([] : List Int) (by exact hv0) rfl (by omega) (by omega) K23 Z26 rfl rfl ?_
  rintro p1 q1 h1
  obtain ⟨pv1, rfl, h2⟩ := h1
  refine Opl.lda (pv1) rfl T26 rfl rfl rfl rfl ?_
  obtain ⟨r1, h_r1, H⟩ := Option.bind_eq_some_iff.1 H
  refine Opl.callc (impl_WordValid_1.ev h2 h_r1) rfl rfl rfl rfl ⟨h2.plain, (.felL ⟨(.lit _), trivial⟩), trivial⟩ (by decide) (Opl.nil ?_)
  by_cases c4 : r1 = true
  case pos =>
   rw [if_pos c4] at H
   obtain rfl : r1 = true := by simpa using c4
   refine Evr.condT rfl (Evr.sr rfl (Opl.p1 (n := Opl.p1 (n := Opl.nil ?_))))
   obtain rfl := Option.some.inj H
   refine Evr.ret1 Try.func116 rfl ?_
   show (.lit (.int .i64 x8_1) : PV) = _
   first | rfl | (simp only [go_sem]; rfl)
  rw [if_neg c4] at H
  obtain rfl : r1 = false := by simpa using c4
  refine Evr.condF rfl (Evr.skip (Evr.inBlock (Evr.regionN rfl (Opl.add (k := .i64) (a := x8_1) (b := 1) K3 rfl rfl rfl rfl (Opl.one (v := .lit (.int .i64 (wrap64 (x8_1 + 1)))) rfl rfl rfl (Opl.nil ?_))))))
  exact ih1 _ (by omega) _ _ ⟨by omega, _, H, ⟨rfl, rfl, rfl, rfl, trivial⟩⟩
theorem slices_ContainsFunc_int_int_at_impl_WordValid_1.ev {k : Nat} {l0 : List (List Int)} {v0 : PV} (hv0 : Sl (cSl (cInt .i64)) l0 v0) {a2 : Int} {r : Bool} (H : slices_ContainsFunc_int_int_at_impl_WordValid_1.f k l0 a2 = some r) : Ret Try.prog 78 [v0, .fn 76 [.fel ((.lit (.int .i64 a2)) :: [])]] fun v S => v = .lit (.bool r) := by
 unfold slices_ContainsFunc_int_int_at_impl_WordValid_1.f at H
 refine Ret.intro Try.func78 rfl (Nat.le_of_ble_eq_true rfl) rfl ?_
 rw [tm2]
 refine Evr.sr rfl (Opl.p1 (n := Opl.nil (Evr.sr rfl (Opl.p1 (n := Opl.p1 (n := ?_))))))
 obtain ⟨r1, h_r1, H⟩ := Option.bind_eq_some_iff.1 H
 refine Opl.callc (slices_IndexFunc_int_int_at_impl_WordValid_1.ev hv0 h_r1) rfl rfl rfl rfl ⟨hv0.plain, (.fnL ⟨(.felL ⟨(.lit _), trivial⟩), trivial⟩), trivial⟩ (by decide) (Opl.p1 (n := Opl.p1 (n := Opl.nil ?_)))
 obtain rfl := Option.some.inj H
 refine Evr.ret1 Try.func78 rfl ?_
 show (.lit (.bool (decide (r1 ≥ 0))) : PV) = _
 first | rfl | (simp only [go_sem]; rfl)
theorem impl_WordValid.ev {k : Nat} {l0 : List (List Int)} {v0 : PV} (hv0 : Sl (cSl (cInt .i64)) l0 v0) {l1 : List (List Int)} {v1 : PV} (hv1 : Sl (cSl (cInt .i64)) l1 v1) {a2 : Int} {r : Bool} (H : impl_WordValid.f k l0 l1 a2 = some r) : Ret Try.prog 45 [v0, v1, .lit (.int .i64 a2)] fun v S => v = .lit (.bool r) := by
 unfold impl_WordValid.f at H
 refine Ret.intro Try.func45 rfl (Nat.le_of_ble_eq_true rfl) rfl ?_
 rw [tm3]
 refine Evr.sr rfl (Opl.box (cs := [.lit (.int .i64 a2)]) rfl rfl rfl rfl ?_)
 rintro i1 S h1 u1 w1
 refine Opl.p1 (n := Opl.nil (Evr.sr rfl (Opl.p1 (n := Opl.p1 (n := Opl.nil (Evr.sr rfl (Opl.ldb (v := .lit (.int .i64 a2)) h1 rfl T3 rfl rfl rfl rfl ?_)))))))
 obtain ⟨r1, h_r1, H⟩ := Option.bind_eq_some_iff.1 H
 refine Opl.callc (impl_in.ev h_r1) rfl rfl rfl rfl ⟨(.lit _), (.lit _), (.lit _), trivial⟩ (by decide) (Opl.p1 (n := ?_))
 by_cases c1 : r1 = true
 case neg =>
  rw [if_neg c1] at H
  obtain rfl : r1 = false := by simpa using c1
  refine Opl.skp rfl (Opl.skp rfl (Opl.skp rfl (Opl.p1 (n := Opl.p1 (n := Opl.skp rfl (Opl.skp rfl (Opl.skp rfl (Opl.skp rfl (Opl.skp rfl (Opl.skp rfl (Opl.p1 (n := Opl.p1 (n := Opl.skp rfl (Opl.skp rfl (Opl.skp rfl (Opl.skp rfl (Opl.p1 (n := Opl.p1 (n := Opl.skp rfl (Opl.skp rfl (Opl.skp rfl (Opl.skp rfl (Opl.p1 (n := Opl.p1 (n := Opl.nil ?_)))))))))))))))))))))))))
  obtain rfl := Option.some.inj H
  refine Evr.ret1 Try.func45 rfl ?_
  show (.lit (.bool false) : PV) = _
  first | rfl | (simp only [go_sem]; rfl)
 rw [if_pos c1] at H
 obtain rfl : r1 = true := by simpa using c1
 refine Opl.p1 (n := Opl.len (xs := l1) (by exact hv1) K23 rfl rfl rfl rfl (Opl.p1 (n := Opl.p1 (n := Opl.p1 (n := ?_)))))
 by_cases c2 : (l1.length : Int) > 0
 case neg =>
  rw [if_neg c2] at H
  have e6 : (decide ((l1.length : Int) > 0)) = false := by simpa using c2
  try rw [e6]
  refine Opl.skp rfl (Opl.skp rfl (Opl.skp rfl (Opl.skp rfl (Opl.skp rfl (Opl.skp rfl (Opl.p1 (n := Opl.p1 (n := Opl.skp rfl (Opl.skp rfl (Opl.skp rfl (Opl.skp rfl (Opl.p1 (n := Opl.p1 (n := Opl.skp rfl (Opl.skp rfl (Opl.skp rfl (Opl.skp rfl (Opl.p1 (n := Opl.p1 (n := Opl.nil ?_))))))))))))))))))))
  obtain rfl := Option.some.inj H
  refine Evr.ret1 Try.func45 rfl ?_
  show (.lit (.bool false) : PV) = _
  first | rfl | (simp only [go_sem]; rfl)
 rw [if_pos c2] at H
 have e1 : (decide ((l1.length : Int) > 0)) = true := by simpa using c2
 try rw [e1]
 refine Opl.p1 (n := Opl.len (xs := l0) (by exact hv0) K23 rfl rfl rfl rfl (Opl.p1 (n := Opl.len (xs := l1) (by exact hv1) K23 rfl rfl rfl rfl (Opl.add (k := .i64) (a := (l0.length : Int)) (b := (l1.length : Int)) K3 rfl rfl rfl rfl (Opl.leq (a := (wrap64 ((l0.length : Int) + (l1.length : Int)))) (b := 60) K3 rfl rfl rfl rfl (Opl.one (v := .lit (.bool (decide ((wrap64 ((l0.length : Int) + (l1.length : Int))) ≤ 60)))) rfl rfl rfl (Opl.one (v := .lit (.bool (decide ((wrap64 ((l0.length : Int) + (l1.length : Int))) ≤ 60)))) rfl rfl rfl ?_)))))))
 by_cases c3 : (wrap64 ((l0.length : Int) + (l1.length : Int))) ≤ 60
 case neg =>
  rw [if_neg c3] at H
  have e5 : (decide ((wrap64 ((l0.length : Int) + (l1.length : Int))) ≤ 60)) = false := by simpa using c3
  try rw [e5]
  refine Opl.skp rfl (Opl.skp rfl (Opl.skp rfl (Opl.skp rfl (Opl.one (v := .lit (.bool false)) rfl rfl rfl (Opl.one (v := .lit (.bool false)) rfl rfl rfl (Opl.skp rfl (Opl.skp rfl (Opl.skp rfl (Opl.skp rfl (Opl.one (v := .lit (.bool false)) rfl rfl rfl (Opl.one (v := .lit (.bool false)) rfl rfl rfl (Opl.nil ?_))))))))))))
  obtain rfl := Option.some.inj H
  refine Evr.ret1 Try.func45 rfl ?_
  show (.lit (.bool false) : PV) = _
  first | rfl | (simp only [go_sem]; rfl)
 rw [if_pos c3] at H
 have e2 : (decide ((wrap64 ((l0.length : Int) + (l1.length : Int))) ≤ 60)) = true := by simpa using c3
 try rw [e2]
 refine Opl.one (v := v0) rfl rfl rfl (Opl.one (v := .fn 76 [.ptr i1 0]) rfl rfl rfl ?_)
 obtain ⟨r2, h_r2, H⟩ := Option.bind_eq_some_iff.1 H
 refine Opl.callw (slices_ContainsFunc_int_int_at_impl_WordValid_1.ev hv0 h_r2) rfl rfl rfl (.cons (.refl _) (.cons (View.fnV (.cons (View.boxV h1 (.cons (.refl _) .nil)) .nil)) .nil)) ⟨hv0.plain, (.fnL ⟨(.felL ⟨(.lit _), trivial⟩), trivial⟩), trivial⟩ (by decide) (Opl.one (v := .lit (.bool (!r2))) rfl rfl rfl (Opl.one (v := .lit (.bool (!r2))) rfl rfl rfl (Opl.one (v := .lit (.bool (!r2))) rfl rfl rfl ?_)))
 by_cases c4 : r2 = true
 case pos =>
  rw [if_pos c4] at H
  have e3 : (!r2) = false := by simpa using c4
  try rw [e3]
  refine Opl.skp rfl (Opl.skp rfl (Opl.skp rfl (Opl.skp rfl (Opl.one (v := .lit (.bool false)) rfl rfl rfl (Opl.one (v := .lit (.bool false)) rfl rfl rfl (Opl.nil ?_))))))
  obtain rfl := Option.some.inj H
  refine Evr.ret1 Try.func45 rfl ?_
  show (.lit (.bool false) : PV) = _
  first | rfl | (simp only [go_sem]; rfl)
 rw [if_neg c4] at H
 have e4 : (!r2) = true := by simpa using c4
 try rw [e4]
 refine Opl.one (v := v1) rfl rfl rfl (Opl.one (v := .fn 76 [.ptr i1 0]) rfl rfl rfl ?_)
 obtain ⟨r3, h_r3, H⟩ := Option.bind_eq_some_iff.1 H
 refine Opl.callw (slices_ContainsFunc_int_int_at_impl_WordValid_1.ev hv1 h_r3) rfl rfl rfl (.cons (.refl _) (.cons (View.fnV (.cons (View.boxV h1 (.cons (.refl _) .nil)) .nil)) .nil)) ⟨hv1.plain, (.fnL ⟨(.felL ⟨(.lit _), trivial⟩), trivial⟩), trivial⟩ (by decide) (Opl.one (v := .lit (.bool (!r3))) rfl rfl rfl (Opl.one (v := .lit (.bool (!r3))) rfl rfl rfl (Opl.one (v := .lit (.bool (!r3))) rfl rfl rfl (Opl.nil ?_))))
 obtain rfl := Option.some.inj H
 refine Evr.ret1 Try.func45 rfl ?_
 show (.lit (.bool (!r3)) : PV) = _
 first | rfl | (simp only [go_sem]; rfl)
theorem impl_bitsValue.ev {k : Nat} {l0 : List Int} {v0 : PV} (hv0 : Sl (cInt .i64) l0 v0) {r : Int} (H : impl_bitsValue.f k l0 = some r) : Ret Try.prog 49 [v0] fun v S => v = .lit (.int .i64 r) := by
 unfold impl_bitsValue.f at H
 refine Ret.intro Try.func49 rfl (Nat.le_of_ble_eq_true rfl) rfl ?_
 rw [tm1]
 refine Evr.sr rfl (Opl.p1 (n := Opl.nil (Evr.sr rfl (Opl.p1 (n := Opl.nil (Evr.seq (Evr.sr rfl (Opl.p1 (n := Opl.len (xs := l0) (by exact hv0) K26 rfl rfl rfl rfl (Opl.p1 (n := Opl.nil (Evr.block ?_))))))))))))
 refine Evr.loop (Evr.rounds (n := k) (Inv := fun n tm S => n ≤ k ∧ ∃ (x3_1 : Int) (x8_1 : Int), impl_bitsValue.l0 n x3_1 l0 (l0.length : Int) x8_1 = some r ∧ Has tm [(3, .lit (.int .i64 x3_1)), (6, v0), (7, .lit (.int .i64 (l0.length : Int))), (8, .lit (.int .i64 x8_1))]) ?_ ?_ ?_)
 · exact ⟨Nat.le_refl _, _, _, H, ⟨rfl, rfl, rfl, rfl, trivial⟩⟩
 ·
  rintro tm S ⟨_, _, _, H, -⟩
  simp [impl_bitsValue.l0] at H
 ·
  rintro n1 ih1 tm S ⟨hle, x3_1, x8_1, H, hh⟩
  simp only [impl_bitsValue.l0] at H
  rw [hh.eq]
  refine Evr.sr rfl (Opl.p1 (n := Opl.nil (Evr.seq ?_)))
  by_cases c1 : x8_1 < (l0.length : Int)
  case neg =>
   rw [if_neg c1] at H
   have e2 : (decide (x8_1 < (l0.length : Int))) = false := by simpa using c1
   try rw [e2]
   refine Evr.condF rfl (Evr.exit rfl (Evr.sr rfl (Opl.p1 (n := Opl.p1 (n := Opl.nil ?_)))))
   obtain rfl := Option.some.inj H
   refine Evr.ret1 Try.func49 rfl ?_
   show (.lit (.int .i64 x3_1) : PV) = _
   first | rfl | (simp only [go_sem]; rfl)
  rw [if_pos c1] at H
  have e1 : (decide (x8_1 < (l0.length : Int))) = true := by simpa using c1
  try rw [e1]
  refine Evr.condT rfl (Evr.skip (Evr.seq (Evr.block (Evr.sr rfl ?_))))
  obtain ⟨c2, H⟩ := peel H
  obtain ⟨c3, H⟩ := peel H
  refine Opl.idx (M := (cInt .i64)) (xs := l0) (j := x8_1) (0 : Int) (by exact hv0) rfl (by omega) (by omega) K26 Z3 rfl rfl ?_
  rintro p1 q1 h1
  obtain rfl : p1 = [.lit (.int .i64 (rd l0 x8_1))] := h1
  refine Opl.lda (.lit (.int .i64 (rd l0 x8_1))) rfl T3 rfl rfl rfl rfl (Opl.p1 (n := Opl.nil (Evr.regionN rfl (Opl.p1 (n := Opl.mul (k := .i64) (a := 2) (b := x3_1) K3 rfl rfl rfl rfl (Opl.one (v := .lit (.int .i64 (rd l0 x8_1))) rfl rfl rfl (Opl.add (k := .i64) (a := (wrap64 (2 * x3_1))) (b := (rd l0 x8_1)) K3 rfl rfl rfl rfl (Opl.one (v := .lit (.int .i64 (wrap64 ((wrap64 (2 * x3_1)) + (rd l0 x8_1))))) rfl rfl rfl (Opl.nil (Evr.inBlock (Evr.regionN rfl (Opl.add (k := .i64) (a := x8_1) (b := 1) K3 rfl rfl rfl rfl (Opl.one (v := .lit (.int .i64 (wrap64 (x8_1 + 1)))) rfl rfl rfl (Opl.nil ?_))))))))))))))
  exact ih1 _ (by omega) _ _ ⟨by omega, _, _, H, ⟨rfl, rfl, rfl, rfl, trivial⟩⟩
theorem impl_timesOn_1.ev {k : Nat} {a0 : Int} {a1 : Int} {l2 : List (List Int)} {v2 : PV} (hv2 : Sl (cSl (cInt .i64)) l2 v2) {r : Int} (H : impl_timesOn_1.f k a0 a1 l2 = some r) : Ret Try.prog 79 [.lit (.int .i64 a0), .fel ((.lit (.int .i64 a1)) :: []), .fel (v2 :: [])] fun v S => v = .lit (.int .i64 r) := by
 unfold impl_timesOn_1.f at H
 refine Ret.intro Try.func79 rfl (Nat.le_of_ble_eq_true rfl) rfl ?_
 rw [tm3]
 refine Evr.sr rfl (Opl.p1 (n := Opl.nil (Evr.seq (Evr.sr rfl (Opl.p1 (n := Opl.add (k := .i64) (a := a0) (b := 1) K3 rfl rfl rfl rfl (Opl.lda (.lit (.int .i64 a1)) rfl T3 rfl rfl rfl rfl (Opl.eql (a := (wrap64 (a0 + 1))) (b := a1) K3 rfl rfl rfl rfl (Opl.nil ?_)))))))))
 by_cases c1 : (wrap64 (a0 + 1)) = a1
 case pos =>
  rw [if_pos c1] at H
  have e1 : ((wrap64 (a0 + 1)) == a1) = true := by simpa using c1
  try rw [e1]
  refine Evr.condT rfl (Evr.sr rfl (Opl.lda (v2) rfl T23 rfl rfl rfl rfl (Opl.len (xs := l2) (by exact hv2) K23 rfl rfl rfl rfl (Opl.one (v := .lit (.int .i64 (l2.length : Int))) rfl rfl rfl (Opl.nil ?_)))))
  obtain rfl := Option.some.inj H
  refine Evr.ret1 Try.func79 rfl ?_
  show (.lit (.int .i64 (l2.length : Int)) : PV) = _
  first | rfl | (simp only [go_sem]; rfl)
 rw [if_neg c1] at H
 have e2 : ((wrap64 (a0 + 1)) == a1) = false := by simpa using c1
 try rw [e2]
 refine Evr.condF rfl (Evr.skip (Evr.sr rfl (Opl.one (v := .lit (.int .i64 a0)) rfl rfl rfl (Opl.add (k := .i64) (a := a0) (b := 1) K3 rfl rfl rfl rfl (Opl.one (v := .lit (.int .i64 (wrap64 (a0 + 1)))) rfl rfl rfl (Opl.nil ?_))))))
 obtain rfl := Option.some.inj H
 refine Evr.ret1 Try.func79 rfl ?_
 show (.lit (.int .i64 (wrap64 (a0 + 1))) : PV) = _
 first | rfl | (simp only [go_sem]; rfl)
theorem impl_timesOn_2.ev {k : Nat} {a0 : Int} {a1_0 : Int} {a1_1 : Int} {a1_2 : Int} {a1_3 : Int} {l2 : List (List Int)} {v2 : PV} (hv2 : Sl (cSl (cInt .i64)) l2 v2) {l3 : List (List Int)} {v3 : PV} (hv3 : Sl (cSl (cInt .i64)) l3 v3) {a4_0 : Int} {l4_1 : List (List Int)} {v4_1 : PV} (hv4_1 : Sl (cSl (cInt .i64)) l4_1 v4_1) {l5 : List Int} {v5 : PV} (hv5 : Sl (cInt .i64) l5 v5) {r : Int} (H : impl_timesOn_2.f k a0 a1_0 a1_1 a1_2 a1_3 l2 l3 a4_0 l4_1 l5 = some r) : Ret Try.prog 80 [.lit (.int .i64 a0), .fel ((.lit (.int .i64 a1_0)) :: (.lit (.int .i64 a1_1)) :: (.lit (.int .i64 a1_2)) :: (.lit (.int .i64 a1_3)) :: []), .fel (v2 :: []), .fel (v3 :: []), .fel ((.fn 79 [.fel ((.lit (.int .i64 a4_0)) :: []), .fel (v4_1 :: [])]) :: []), .fel (v5 :: [])] fun v S => v = .lit (.int .i64 r) := by
 unfold impl_timesOn_2.f at H
 refine Ret.intro Try.func80 rfl (Nat.le_of_ble_eq_true rfl) rfl ?_
 rw [tm6]
 refine Evr.sr rfl (Opl.p1 (n := Opl.nil (Evr.sr rfl (Opl.p1 (n := Opl.p1 (n := Opl.nil (Evr.seq (Evr.sr rfl (Opl.p1 (v := .fel ((.lit (.int .i64 a1_0)) :: (.lit (.int .i64 a1_1)) :: (.lit (.int .i64 a1_2)) :: (.lit (.int .i64 a1_3)) :: [])) (n := Opl.lda (.lit (.int .i64 a1_0)) rfl T3 rfl rfl rfl rfl (Opl.p1 (n := Opl.nil ?_))))))))))))
 by_cases c1 : a1_0 > 1
 case neg =>
  rw [if_neg c1] at H
  have e16 : (decide (a1_0 > 1)) = false := by simpa using c1
  try rw [e16]
  refine Evr.condF rfl (Evr.skip (Evr.seq (Evr.sr rfl (Opl.p1 (v := .fel ((.lit (.int .i64 a1_0)) :: (.lit (.int .i64 a1_1)) :: (.lit (.int .i64 a1_2)) :: (.lit (.int .i64 a1_3)) :: [])) (n := Opl.lda (.lit (.int .i64 a1_0)) rfl T3 rfl rfl rfl rfl (Opl.nil (Evr.block (Evr.sr rfl (Opl.p1 (n := Opl.p1 (n := Opl.nil ?_)))))))))))
  obtain _ | k2 := k
  · simp [impl_timesOn_2.j1] at H
  simp only [impl_timesOn_2.j1] at H
  by_cases c29 : a1_0 = 0
  case pos =>
   rw [if_pos c29] at H
   have e17 : (a1_0 == 0) = true := by simpa using c29
   try rw [e17]
   refine Evr.condT rfl (Evr.sr rfl (Opl.p1 (n := Opl.nil ?_)))
   obtain rfl := Option.some.inj H
   refine Evr.ret1 Try.func80 rfl ?_
   show (.lit (.int .i64 1) : PV) = _
   first | rfl | (simp only [go_sem]; rfl)
  rw [if_neg c29] at H
  have e18 : (a1_0 == 0) = false := by simpa using c29
  try rw [e18]
  refine Evr.condF rfl (Evr.sr rfl (Opl.p1 (n := Opl.p1 (n := Opl.nil ?_))))
  by_cases c30 : a1_0 = 1
  case pos =>
   rw [if_pos c30] at H
   have e19 : (a1_0 == 1) = true := by simpa using c30
   try rw [e19]
   refine Evr.condT rfl (Evr.seq (Evr.regionD rfl (by kernel_rfl) (Opl.lda (v3) rfl T23 rfl rfl rfl rfl (Opl.p1 (n := ?_)))))
   obtain ⟨c31, H⟩ := peel H
   obtain ⟨c32, H⟩ := peel H
   obtain ⟨c33, H⟩ := peel H
   obtain ⟨c34, H⟩ := peel H
   refine Opl.idx (M := (cSl (cInt .i64))) (xs := l3) (j := a0) ([] : List Int) (by exact hv3) rfl (by omega) (by omega) K23 Z26 rfl rfl ?_
   rintro p11 q11 h15
   obtain ⟨pv5, rfl, h16⟩ := h15
   refine Opl.lda (pv5) rfl T26 rfl rfl rfl rfl (Opl.p1 (v := .fel ((.lit (.int .i64 a1_1)) :: (.lit (.int .i64 a1_2)) :: (.lit (.int .i64 a1_3)) :: [])) (n := Opl.lda (.lit (.int .i64 a1_1)) rfl T3 rfl rfl rfl rfl (Opl.idx (M := (cInt .i64)) (xs := (rd_Lint l3 a0)) (j := a1_1) (0 : Int) (by exact h16) rfl (by omega) (by omega) K26 Z3 rfl rfl ?_)))
   rintro p12 q12 h17
   obtain rfl : p12 = [.lit (.int .i64 (rd (rd_Lint l3 a0) a1_1))] := h17
   refine Opl.lda (.lit (.int .i64 (rd (rd_Lint l3 a0) a1_1))) rfl T3 rfl rfl rfl rfl (Opl.p1 (n := Opl.nil ?_))
   obtain rfl := Option.some.inj H
   refine Evr.ret1 Try.func80 rfl ?_
   show (.lit (.int .i64 (rd (rd_Lint l3 a0) a1_1)) : PV) = _
   first | rfl | (simp only [go_sem]; rfl)
  rw [if_neg c30] at H
  have e20 : (a1_0 == 1) = false := by simpa using c30
  try rw [e20]
  refine Evr.condF rfl (Evr.sr rfl (Opl.p1 (n := Opl.p1 (n := Opl.nil ?_))))
  by_cases c35 : a1_0 = 2
  case pos =>
   rw [if_pos c35] at H
   have e21 : (a1_0 == 2) = true := by simpa using c35
   try rw [e21]
   refine Evr.condT rfl (Evr.sr rfl (Opl.p1 (n := Opl.subi (k := .i64) (a := 1) (b := 0) K3 rfl rfl rfl rfl (Opl.one (v := .lit (.int .i64 (wrap64 (1 - 0)))) rfl rfl rfl (Opl.nil ?_)))))
   obtain rfl := Option.some.inj H
   refine Evr.ret1 Try.func80 rfl ?_
   show (.lit (.int .i64 (wrap64 (1 - 0))) : PV) = _
   first | rfl | (simp only [go_sem]; rfl)
  rw [if_neg c35] at H
  have e22 : (a1_0 == 2) = false := by simpa using c35
  try rw [e22]
  refine Evr.condF rfl (Evr.sr rfl (Opl.p1 (n := Opl.p1 (n := Opl.nil ?_))))
  by_cases c36 : a1_0 = 3
  case pos =>
   rw [if_pos c36] at H
   have e23 : (a1_0 == 3) = true := by simpa using c36
   try rw [e23]
   refine Evr.condT rfl (Evr.sr rfl (Opl.p1 (n := Opl.p1 (n := Opl.one (v := .lit (.int .i64 (Go.bits .and .i64 0 0))) rfl rfl (by simp only [go_sem]; simp only [Go.bits, w64]; rfl) (Opl.p1 (n := Opl.nil ?_))))))
   obtain rfl := Option.some.inj H
   refine Evr.ret1 Try.func80 rfl ?_
   show (.lit (.int .i64 (Go.bits .and .i64 0 0)) : PV) = _
   first | rfl | (simp only [go_sem]; rfl)
  rw [if_neg c36] at H
  have e24 : (a1_0 == 3) = false := by simpa using c36
  try rw [e24]
  refine Evr.condF rfl (Evr.sr rfl (Opl.p1 (n := Opl.p1 (n := Opl.nil ?_))))
  by_cases c37 : a1_0 = 4
  case pos =>
   rw [if_pos c37] at H
   have e25 : (a1_0 == 4) = true := by simpa using c37
   try rw [e25]
   refine Evr.condT rfl (Evr.sr rfl (Opl.p1 (n := Opl.p1 (n := Opl.one (v := .lit (.int .i64 (Go.bits .or .i64 0 0))) rfl rfl (by simp only [go_sem]; simp only [Go.bits, w64]; rfl) (Opl.p1 (n := Opl.nil ?_))))))
   obtain rfl := Option.some.inj H
   refine Evr.ret1 Try.func80 rfl ?_
   show (.lit (.int .i64 (Go.bits .or .i64 0 0)) : PV) = _
   first | rfl | (simp only [go_sem]; rfl)
  rw [if_neg c37] at H
  have e26 : (a1_0 == 4) = false := by simpa using c37
  try rw [e26]
  refine Evr.condF rfl (Evr.sr rfl (Opl.p1 (n := Opl.p1 (n := Opl.nil ?_))))
  by_cases c38 : a1_0 = 5
  case pos =>
   rw [if_pos c38] at H
   have e27 : (a1_0 == 5) = true := by simpa using c38
   try rw [e27]
   refine Evr.condT rfl (Evr.seq (Evr.regionD rfl (by kernel_rfl) (Opl.lda (v2) rfl T23 rfl rfl rfl rfl (Opl.p1 (v := .fel ((.lit (.int .i64 a1_2)) :: (.lit (.int .i64 a1_3)) :: [])) (n := Opl.lda (.lit (.int .i64 a1_2)) rfl T3 rfl rfl rfl rfl ?_)))))
   obtain ⟨c39, H⟩ := peel H
   obtain ⟨c40, H⟩ := peel H
   refine Opl.idx (M := (cSl (cInt .i64))) (xs := l2) (j := a1_2) ([] : List Int) (by exact hv2) rfl (by omega) (by omega) K23 Z26 rfl rfl ?_
   rintro p13 q13 h18
   obtain ⟨pv6, rfl, h19⟩ := h18
   refine Opl.lda (pv6) rfl T26 rfl rfl rfl rfl (Opl.lda (.fn 79 [.fel ((.lit (.int .i64 a4_0)) :: []), .fel (v4_1 :: [])]) rfl T90 rfl rfl rfl rfl (Opl.p1 (n := ?_)))
   obtain ⟨r1, h_r1, H⟩ := Option.bind_eq_some_iff.1 H
   refine Opl.callc (impl_timesOn_1.ev hv4_1 h_r1) rfl rfl rfl rfl ⟨(.lit _), (.felL ⟨(.lit _), trivial⟩), (.felL ⟨hv4_1.plain, trivial⟩), trivial⟩ (by decide) ?_
   obtain ⟨c41, H⟩ := peel H
   obtain ⟨c42, H⟩ := peel H
   refine Opl.idx (M := (cInt .i64)) (xs := (rd_Lint l2 a1_2)) (j := r1) (0 : Int) (by exact h19) rfl (by omega) (by omega) K26 Z3 rfl rfl ?_
   rintro p14 q14 h20
   obtain rfl : p14 = [.lit (.int .i64 (rd (rd_Lint l2 a1_2) r1))] := h20
   refine Opl.lda (.lit (.int .i64 (rd (rd_Lint l2 a1_2) r1))) rfl T3 rfl rfl rfl rfl (Opl.p1 (n := Opl.nil ?_))
   obtain rfl := Option.some.inj H
   refine Evr.ret1 Try.func80 rfl ?_
   show (.lit (.int .i64 (rd (rd_Lint l2 a1_2) r1)) : PV) = _
   first | rfl | (simp only [go_sem]; rfl)
  rw [if_neg c38] at H
  have e28 : (a1_0 == 5) = false := by simpa using c38
  try rw [e28]
  refine Evr.condF rfl (Evr.sr rfl (Opl.p1 (n := Opl.p1 (n := Opl.nil ?_))))
  by_cases c43 : a1_0 = 6
  case pos =>
   rw [if_pos c43] at H
   have e29 : (a1_0 == 6) = true := by simpa using c43
   try rw [e29]
   refine Evr.condT rfl (Evr.seq (Evr.regionD rfl (by kernel_rfl) (Opl.p1 (n := Opl.p1 (n := Opl.lda (v5) rfl T26 rfl rfl rfl rfl (Opl.lda (.fn 79 [.fel ((.lit (.int .i64 a4_0)) :: []), .fel (v4_1 :: [])]) rfl T90 rfl rfl rfl rfl (Opl.p1 (n := ?_))))))))
   obtain ⟨r2, h_r2, H⟩ := Option.bind_eq_some_iff.1 H
   refine Opl.callc (impl_timesOn_1.ev hv4_1 h_r2) rfl rfl rfl rfl ⟨(.lit _), (.felL ⟨(.lit _), trivial⟩), (.felL ⟨hv4_1.plain, trivial⟩), trivial⟩ (by decide) ?_
   obtain ⟨c44, H⟩ := peel H
   obtain ⟨c45, H⟩ := peel H
   refine Opl.idx (M := (cInt .i64)) (xs := l5) (j := r2) (0 : Int) (by exact hv5) rfl (by omega) (by omega) K26 Z3 rfl rfl ?_
   rintro p15 q15 h21
   obtain rfl : p15 = [.lit (.int .i64 (rd l5 r2))] := h21
   refine Opl.lda (.lit (.int .i64 (rd l5 r2))) rfl T3 rfl rfl rfl rfl (Opl.one (v := .lit (.int .i64 (Go.bits .and .i64 0 (rd l5 r2)))) rfl rfl (by simp only [go_sem]; simp only [Go.bits, w64]; rfl) (Opl.one (v := .lit (.int .i64 (Go.bits .or .i64 0 (Go.bits .and .i64 0 (rd l5 r2))))) rfl rfl (by simp only [go_sem]; simp only [Go.bits, w64]; rfl) (Opl.p1 (n := Opl.nil ?_))))
   obtain rfl := Option.some.inj H
   refine Evr.ret1 Try.func80 rfl ?_
   show (.lit (.int .i64 (Go.bits .or .i64 0 (Go.bits .and .i64 0 (rd l5 r2)))) : PV) = _
   first | rfl | (simp only [go_sem]; rfl)
  rw [if_neg c43] at H
  have e30 : (a1_0 == 6) = false := by simpa using c43
  try rw [e30]
  refine Evr.condF rfl (Evr.skip (Evr.inBlock (Evr.seq (Evr.regionD rfl (by kernel_rfl) (Opl.p1 (n := Opl.p1 (n := Opl.lda (v5) rfl T26 rfl rfl rfl rfl (Opl.lda (.fn 79 [.fel ((.lit (.int .i64 a4_0)) :: []), .fel (v4_1 :: [])]) rfl T90 rfl rfl rfl rfl (Opl.p1 (n := ?_))))))))))
  obtain ⟨r3, h_r3, H⟩ := Option.bind_eq_some_iff.1 H
  refine Opl.callc (impl_timesOn_1.ev hv4_1 h_r3) rfl rfl rfl rfl ⟨(.lit _), (.felL ⟨(.lit _), trivial⟩), (.felL ⟨hv4_1.plain, trivial⟩), trivial⟩ (by decide) ?_
  obtain ⟨c46, H⟩ := peel H
  obtain ⟨c47, H⟩ := peel H
  refine Opl.idx (M := (cInt .i64)) (xs := l5) (j := r3) (0 : Int) (by exact hv5) rfl (by omega) (by omega) K26 Z3 rfl rfl ?_
  rintro p16 q16 h22
  obtain rfl : p16 = [.lit (.int .i64 (rd l5 r3))] := h22
  refine Opl.lda (.lit (.int .i64 (rd l5 r3))) rfl T3 rfl rfl rfl rfl (Opl.one (v := .lit (.int .i64 (Go.bits .or .i64 0 (rd l5 r3)))) rfl rfl (by simp only [go_sem]; simp only [Go.bits, w64]; rfl) (Opl.one (v := .lit (.int .i64 (Go.bits .and .i64 0 (Go.bits .or .i64 0 (rd l5 r3))))) rfl rfl (by simp only [go_sem]; simp only [Go.bits, w64]; rfl) (Opl.p1 (n := Opl.nil ?_))))
  obtain rfl := Option.some.inj H
  refine Evr.ret1 Try.func80 rfl ?_
  show (.lit (.int .i64 (Go.bits .and .i64 0 (Go.bits .or .i64 0 (rd l5 r3)))) : PV) = _
  first | rfl | (simp only [go_sem]; rfl)
 rw [if_pos c1] at H
 have e1 : (decide (a1_0 > 1)) = true := by simpa using c1
 try rw [e1]
 refine Evr.condT rfl (Evr.regionD rfl (by kernel_rfl) (Opl.lda (v2) rfl T23 rfl rfl rfl rfl (Opl.p1 (v := .fel ((.lit (.int .i64 a1_2)) :: (.lit (.int .i64 a1_3)) :: [])) (n := Opl.lda (.lit (.int .i64 a1_2)) rfl T3 rfl rfl rfl rfl ?_))))
 obtain ⟨c2, H⟩ := peel H
 obtain ⟨c3, H⟩ := peel H
 obtain ⟨c4, H⟩ := peel H
 obtain ⟨c5, H⟩ := peel H
 obtain ⟨c6, H⟩ := peel H
 obtain ⟨c7, H⟩ := peel H
 obtain ⟨c8, H⟩ := peel H
 obtain ⟨c9, H⟩ := peel H
 obtain _ | k1 := k
 · simp [impl_timesOn_2.j1] at H
 simp only [impl_timesOn_2.j1] at H
 refine Opl.idx (M := (cSl (cInt .i64))) (xs := l2) (j := a1_2) ([] : List Int) (by exact hv2) rfl (by omega) (by omega) K23 Z26 rfl rfl ?_
 rintro p1 q1 h1
 obtain ⟨pv1, rfl, h2⟩ := h1
 refine Opl.lda (pv1) rfl T26 rfl rfl rfl rfl (Opl.p1 (n := Opl.idx (M := (cInt .i64)) (xs := (rd_Lint l2 a1_2)) (j := a0) (0 : Int) (by exact h2) rfl (by omega) (by omega) K26 Z3 rfl rfl ?_))
 rintro p2 q2 h3
 obtain rfl : p2 = [.lit (.int .i64 (rd (rd_Lint l2 a1_2) a0))] := h3
 refine Opl.lda (.lit (.int .i64 (rd (rd_Lint l2 a1_2) a0))) rfl T3 rfl rfl rfl rfl (Opl.lda (v2) rfl T23 rfl rfl rfl rfl (Opl.p1 (v := .fel ((.lit (.int .i64 a1_3)) :: [])) (n := Opl.lda (.lit (.int .i64 a1_3)) rfl T3 rfl rfl rfl rfl (Opl.idx (M := (cSl (cInt .i64))) (xs := l2) (j := a1_3) ([] : List Int) (by exact hv2) rfl (by omega) (by omega) K23 Z26 rfl rfl ?_))))
 rintro p3 q3 h4
 obtain ⟨pv2, rfl, h5⟩ := h4
 refine Opl.lda (pv2) rfl T26 rfl rfl rfl rfl (Opl.p1 (n := Opl.idx (M := (cInt .i64)) (xs := (rd_Lint l2 a1_3)) (j := a0) (0 : Int) (by exact h5) rfl (by omega) (by omega) K26 Z3 rfl rfl ?_))
 rintro p4 q4 h6
 obtain rfl : p4 = [.lit (.int .i64 (rd (rd_Lint l2 a1_3) a0))] := h6
 refine Opl.lda (.lit (.int .i64 (rd (rd_Lint l2 a1_3) a0))) rfl T3 rfl rfl rfl rfl (Opl.p1 (n := Opl.p1 (n := Opl.nil (Evr.seq (Evr.sr rfl (Opl.p1 (v := .fel ((.lit (.int .i64 a1_0)) :: (.lit (.int .i64 a1_1)) :: (.lit (.int .i64 a1_2)) :: (.lit (.int .i64 a1_3)) :: [])) (n := Opl.lda (.lit (.int .i64 a1_0)) rfl T3 rfl rfl rfl rfl (Opl.nil (Evr.block (Evr.sr rfl (Opl.p1 (n := Opl.p1 (n := Opl.nil ?_)))))))))))))
 by_cases c10 : a1_0 = 0
 case pos =>
  rw [if_pos c10] at H
  have e2 : (a1_0 == 0) = true := by simpa using c10
  try rw [e2]
  refine Evr.condT rfl (Evr.sr rfl (Opl.p1 (n := Opl.nil ?_)))
  obtain rfl := Option.some.inj H
  refine Evr.ret1 Try.func80 rfl ?_
  show (.lit (.int .i64 1) : PV) = _
  first | rfl | (simp only [go_sem]; rfl)
 rw [if_neg c10] at H
 have e3 : (a1_0 == 0) = false := by simpa using c10
 try rw [e3]
 refine Evr.condF rfl (Evr.sr rfl (Opl.p1 (n := Opl.p1 (n := Opl.nil ?_))))
 by_cases c11 : a1_0 = 1
 case pos =>
  rw [if_pos c11] at H
  have e4 : (a1_0 == 1) = true := by simpa using c11
  try rw [e4]
  refine Evr.condT rfl (Evr.seq (Evr.regionD rfl (by kernel_rfl) (Opl.lda (v3) rfl T23 rfl rfl rfl rfl (Opl.p1 (n := ?_)))))
  obtain ⟨c12, H⟩ := peel H
  obtain ⟨c13, H⟩ := peel H
  obtain ⟨c14, H⟩ := peel H
  obtain ⟨c15, H⟩ := peel H
  refine Opl.idx (M := (cSl (cInt .i64))) (xs := l3) (j := a0) ([] : List Int) (by exact hv3) rfl (by omega) (by omega) K23 Z26 rfl rfl ?_
  rintro p5 q5 h7
  obtain ⟨pv3, rfl, h8⟩ := h7
  refine Opl.lda (pv3) rfl T26 rfl rfl rfl rfl (Opl.p1 (v := .fel ((.lit (.int .i64 a1_1)) :: (.lit (.int .i64 a1_2)) :: (.lit (.int .i64 a1_3)) :: [])) (n := Opl.lda (.lit (.int .i64 a1_1)) rfl T3 rfl rfl rfl rfl (Opl.idx (M := (cInt .i64)) (xs := (rd_Lint l3 a0)) (j := a1_1) (0 : Int) (by exact h8) rfl (by omega) (by omega) K26 Z3 rfl rfl ?_)))
  rintro p6 q6 h9
  obtain rfl : p6 = [.lit (.int .i64 (rd (rd_Lint l3 a0) a1_1))] := h9
  refine Opl.lda (.lit (.int .i64 (rd (rd_Lint l3 a0) a1_1))) rfl T3 rfl rfl rfl rfl (Opl.p1 (n := Opl.nil ?_))
  obtain rfl := Option.some.inj H
  refine Evr.ret1 Try.func80 rfl ?_
  show (.lit (.int .i64 (rd (rd_Lint l3 a0) a1_1)) : PV) = _
  first | rfl | (simp only [go_sem]; rfl)
 rw [if_neg c11] at H
 have e5 : (a1_0 == 1) = false := by simpa using c11
 try rw [e5]
 refine Evr.condF rfl (Evr.sr rfl (Opl.p1 (n := Opl.p1 (n := Opl.nil ?_))))
 by_cases c16 : a1_0 = 2
 case pos =>
  rw [if_pos c16] at H
  have e6 : (a1_0 == 2) = true := by simpa using c16
  try rw [e6]
  refine Evr.condT rfl (Evr.sr rfl (Opl.p1 (n := Opl.subi (k := .i64) (a := 1) (b := (rd (rd_Lint l2 a1_2) a0)) K3 rfl rfl rfl rfl (Opl.one (v := .lit (.int .i64 (wrap64 (1 - (rd (rd_Lint l2 a1_2) a0))))) rfl rfl rfl (Opl.nil ?_)))))
  obtain rfl := Option.some.inj H
  refine Evr.ret1 Try.func80 rfl ?_
  show (.lit (.int .i64 (wrap64 (1 - (rd (rd_Lint l2 a1_2) a0)))) : PV) = _
  first | rfl | (simp only [go_sem]; rfl)
 rw [if_neg c16] at H
 have e7 : (a1_0 == 2) = false := by simpa using c16
 try rw [e7]
 refine Evr.condF rfl (Evr.sr rfl (Opl.p1 (n := Opl.p1 (n := Opl.nil ?_))))
 by_cases c17 : a1_0 = 3
 case pos =>
  rw [if_pos c17] at H
  have e8 : (a1_0 == 3) = true := by simpa using c17
  try rw [e8]
  refine Evr.condT rfl (Evr.sr rfl (Opl.p1 (n := Opl.p1 (n := Opl.one (v := .lit (.int .i64 (Go.bits .and .i64 (rd (rd_Lint l2 a1_2) a0) (rd (rd_Lint l2 a1_3) a0)))) rfl rfl (by simp only [go_sem]; simp only [Go.bits, w64]; rfl) (Opl.p1 (n := Opl.nil ?_))))))
  obtain rfl := Option.some.inj H
  refine Evr.ret1 Try.func80 rfl ?_
  show (.lit (.int .i64 (Go.bits .and .i64 (rd (rd_Lint l2 a1_2) a0) (rd (rd_Lint l2 a1_3) a0))) : PV) = _
  first | rfl | (simp only [go_sem]; rfl)
 rw [if_neg c17] at H
 have e9 : (a1_0 == 3) = false := by simpa using c17
 try rw [e9]
 refine Evr.condF rfl (Evr.sr rfl (Opl.p1 (n := Opl.p1 (n := Opl.nil ?_))))
 by_cases c18 : a1_0 = 4
 case pos =>
  rw [if_pos c18] at H
  have e10 : (a1_0 == 4) = true := by simpa using c18
  try rw [e10]
  refine Evr.condT rfl (Evr.sr rfl (Opl.p1 (n := Opl.p1 (n := Opl.one (v := .lit (.int .i64 (Go.bits .or .i64 (rd (rd_Lint l2 a1_2) a0) (rd (rd_Lint l2 a1_3) a0)))) rfl rfl (by simp only [go_sem]; simp only [Go.bits, w64]; rfl) (Opl.p1 (n := Opl.nil ?_))))))
  obtain rfl := Option.some.inj H
  refine Evr.ret1 Try.func80 rfl ?_
  show (.lit (.int .i64 (Go.bits .or .i64 (rd (rd_Lint l2 a1_2) a0) (rd (rd_Lint l2 a1_3) a0))) : PV) = _
  first | rfl | (simp only [go_sem]; rfl)
 rw [if_neg c18] at H
 have e11 : (a1_0 == 4) = false := by simpa using c18
 try rw [e11]
 refine Evr.condF rfl (Evr.sr rfl (Opl.p1 (n := Opl.p1 (n := Opl.nil ?_))))
 by_cases c19 : a1_0 = 5
 case pos =>
  rw [if_pos c19] at H
  have e12 : (a1_0 == 5) = true := by simpa using c19
  try rw [e12]
  refine Evr.condT rfl (Evr.seq (Evr.regionD rfl (by kernel_rfl) (Opl.lda (v2) rfl T23 rfl rfl rfl rfl (Opl.p1 (v := .fel ((.lit (.int .i64 a1_2)) :: (.lit (.int .i64 a1_3)) :: [])) (n := Opl.lda (.lit (.int .i64 a1_2)) rfl T3 rfl rfl rfl rfl ?_)))))
  obtain ⟨c20, H⟩ := peel H
  obtain ⟨c21, H⟩ := peel H
  refine Opl.idx (M := (cSl (cInt .i64))) (xs := l2) (j := a1_2) ([] : List Int) (by exact hv2) rfl (by omega) (by omega) K23 Z26 rfl rfl ?_
  rintro p7 q7 h10
  obtain ⟨pv4, rfl, h11⟩ := h10
  refine Opl.lda (pv4) rfl T26 rfl rfl rfl rfl (Opl.lda (.fn 79 [.fel ((.lit (.int .i64 a4_0)) :: []), .fel (v4_1 :: [])]) rfl T90 rfl rfl rfl rfl (Opl.p1 (n := ?_)))
  obtain ⟨r1, h_r1, H⟩ := Option.bind_eq_some_iff.1 H
  refine Opl.callc (impl_timesOn_1.ev hv4_1 h_r1) rfl rfl rfl rfl ⟨(.lit _), (.felL ⟨(.lit _), trivial⟩), (.felL ⟨hv4_1.plain, trivial⟩), trivial⟩ (by decide) ?_
  obtain ⟨c22, H⟩ := peel H
  obtain ⟨c23, H⟩ := peel H
  refine Opl.idx (M := (cInt .i64)) (xs := (rd_Lint l2 a1_2)) (j := r1) (0 : Int) (by exact h11) rfl (by omega) (by omega) K26 Z3 rfl rfl ?_
  rintro p8 q8 h12
  obtain rfl : p8 = [.lit (.int .i64 (rd (rd_Lint l2 a1_2) r1))] := h12
  refine Opl.lda (.lit (.int .i64 (rd (rd_Lint l2 a1_2) r1))) rfl T3 rfl rfl rfl rfl (Opl.p1 (n := Opl.nil ?_))
  obtain rfl := Option.some.inj H
  refine Evr.ret1 Try.func80 rfl ?_
  show (.lit (.int .i64 (rd (rd_Lint l2 a1_2) r1)) : PV) = _
  first | rfl | (simp only [go_sem]; rfl)
 rw [if_neg c19] at H
 have e13 : (a1_0 == 5) = false := by simpa using c19
 try rw [e13]
 refine Evr.condF rfl (Evr.sr rfl (Opl.p1 (n := Opl.p1 (n := Opl.nil ?_))))
 by_cases c24 : a1_0 = 6
 case pos =>
  rw [if_pos c24] at H
  have e14 : (a1_0 == 6) = true := by simpa using c24
  try rw [e14]
  refine Evr.condT rfl (Evr.seq (Evr.regionD rfl (by kernel_rfl) (Opl.p1 (n := Opl.p1 (n := Opl.lda (v5) rfl T26 rfl rfl rfl rfl (Opl.lda (.fn 79 [.fel ((.lit (.int .i64 a4_0)) :: []), .fel (v4_1 :: [])]) rfl T90 rfl rfl rfl rfl (Opl.p1 (n := ?_))))))))
  obtain ⟨r2, h_r2, H⟩ := Option.bind_eq_some_iff.1 H
  refine Opl.callc (impl_timesOn_1.ev hv4_1 h_r2) rfl rfl rfl rfl ⟨(.lit _), (.felL ⟨(.lit _), trivial⟩), (.felL ⟨hv4_1.plain, trivial⟩), trivial⟩ (by decide) ?_
  obtain ⟨c25, H⟩ := peel H
  obtain ⟨c26, H⟩ := peel H
  refine Opl.idx (M := (cInt .i64)) (xs := l5) (j := r2) (0 : Int) (by exact hv5) rfl (by omega) (by omega) K26 Z3 rfl rfl ?_
  rintro p9 q9 h13
  obtain rfl : p9 = [.lit (.int .i64 (rd l5 r2))] := h13
  refine Opl.lda (.lit (.int .i64 (rd l5 r2))) rfl T3 rfl rfl rfl rfl (Opl.one (v := .lit (.int .i64 (Go.bits .and .i64 (rd (rd_Lint l2 a1_2) a0) (rd l5 r2)))) rfl rfl (by simp only [go_sem]; simp only [Go.bits, w64]; rfl) (Opl.one (v := .lit (.int .i64 (Go.bits .or .i64 (rd (rd_Lint l2 a1_3) a0) (Go.bits .and .i64 (rd (rd_Lint l2 a1_2) a0) (rd l5 r2))))) rfl rfl (by simp only [go_sem]; simp only [Go.bits, w64]; rfl) (Opl.p1 (n := Opl.nil ?_))))
  obtain rfl := Option.some.inj H
  refine Evr.ret1 Try.func80 rfl ?_
  show (.lit (.int .i64 (Go.bits .or .i64 (rd (rd_Lint l2 a1_3) a0) (Go.bits .and .i64 (rd (rd_Lint l2 a1_2) a0) (rd l5 r2)))) : PV) = _
  first | rfl | (simp only [go_sem]; rfl)
 rw [if_neg c24] at H
 have e15 : (a1_0 == 6) = false := by simpa using c24
 try rw [e15]
 refine Evr.condF rfl (Evr.skip (Evr.inBlock (Evr.seq (Evr.regionD rfl (by kernel_rfl) (Opl.p1 (n := Opl.p1 (n := Opl.lda (v5) rfl T26 rfl rfl rfl rfl (Opl.lda (.fn 79 [.fel ((.lit (.int .i64 a4_0)) :: []), .fel (v4_1 :: [])]) rfl T90 rfl rfl rfl rfl (Opl.p1 (n := ?_))))))))))
 obtain ⟨r3, h_r3, H⟩ := Option.bind_eq_some_iff.1 H
 refine Opl.callc (impl_timesOn_1.ev hv4_1 h_r3) rfl rfl rfl rfl ⟨(.lit _), (.felL ⟨(.lit _), trivial⟩), (.felL ⟨hv4_1.plain, trivial⟩), trivial⟩ (by decide) ?_
 obtain ⟨c27, H⟩ := peel H
 obtain ⟨c28, H⟩ := peel H
 refine Opl.idx (M := (cInt .i64)) (xs := l5) (j := r3) (0 : Int) (by exact hv5) rfl (by omega) (by omega) K26 Z3 rfl rfl ?_
 rintro p10 q10 h14
 obtain rfl : p10 = [.lit (.int .i64 (rd l5 r3))] := h14
 refine Opl.lda (.lit (.int .i64 (rd l5 r3))) rfl T3 rfl rfl rfl rfl (Opl.one (v := .lit (.int .i64 (Go.bits .or .i64 (rd (rd_Lint l2 a1_2) a0) (rd l5 r3)))) rfl rfl (by simp only [go_sem]; simp only [Go.bits, w64]; rfl) (Opl.one (v := .lit (.int .i64 (Go.bits .and .i64 (rd (rd_Lint l2 a1_3) a0) (Go.bits .or .i64 (rd (rd_Lint l2 a1_2) a0) (rd l5 r3))))) rfl rfl (by simp only [go_sem]; simp only [Go.bits, w64]; rfl) (Opl.p1 (n := Opl.nil ?_))))
 obtain rfl := Option.some.inj H
 refine Evr.ret1 Try.func80 rfl ?_
 show (.lit (.int .i64 (Go.bits .and .i64 (rd (rd_Lint l2 a1_3) a0) (Go.bits .or .i64 (rd (rd_Lint l2 a1_2) a0) (rd l5 r3)))) : PV) = _
 first | rfl | (simp only [go_sem]; rfl)
theorem slices_Grow_int_int.slcnil {P : Program} {os : Array Oper} {κ : Nat → Cls} {i : Nat} {o : Oper} {l : List Oper} {tm : Tm} {S : Sto} {K : Tm → Sto → Prop} {t e : TypeId} {x hi : Operand} {k : IntKind} {m : Nat} (hx : tm.opnd x = .lit (.slice none 0 0)) (hb : tm.opnd hi = .lit (.int k 0)) (hk : tkAt P t = some (.slice e)) (hz : szAt P e = some m)
    (hw : wantFn os tm o = some true) (ho : o.op = .slice t x none (some hi) none) (hκ : Cls.le .r (κ i) = true) (n : Opl P os κ (i + 1) l (tm.put o.dst (.lit (.slice none 0 0))) S K) : Opl P os κ i (o :: l) tm S K := by
  refine Opl.one hw (by rw [ho]; exact hκ) ?_ n
  rw [ho]
  simp [opFn, hk, hz, hx, PV.len?, boundFn, PV.int?, hb, Sto.part, justV]
theorem slices_Grow_int_int.ev (hv0 : Sl (cSl (cInt .i64)) ([] : List (List Int)) (.lit (.slice none 0 0))) {a1 : Int} {r : List (List Int)} (H : slices_Grow_int_int.f [] a1 = some r) : Ret Try.prog 81 [.lit (.slice none 0 0), .lit (.int .i64 a1)] fun v S => Vec (cSl (cInt .i64)) r v S := by
 unfold slices_Grow_int_int.f at H
 obtain ⟨c1, H⟩ := peel H
 obtain ⟨c2, H⟩ := peel H
 obtain rfl := Option.some.inj H
 have w1 : wrap64 (a1 - wrap64 (0 - 0)) = a1 := by simp only [wrap64]; omega
 refine Ret.intro Try.func81 rfl (Nat.le_of_ble_eq_true rfl) rfl ?_
 rw [tm2]
 refine Evr.seq (Evr.regionN rfl (Opl.p1 (n := Opl.nil (Evr.seq (Evr.seq (Evr.regionN rfl (Opl.p1 (n := Opl.lss (a := a1) (b := 0) K3 rfl rfl rfl rfl (Opl.nil ?_)))))))))
 have e1 : (decide (a1 < 0)) = false := by simpa using c1
 rw [e1]
 refine Evr.condF rfl (Evr.skip (Evr.seq (Evr.seq (Evr.regionN rfl (Opl.p1 (n := Opl.p1 (n := Opl.capnil rfl K23 rfl rfl rfl rfl rfl (Opl.p1 (n := Opl.len (xs := ([] : List (List Int))) (by exact hv0) K23 rfl rfl rfl rfl (Opl.subi (k := .i64) (a := 0) (b := 0) K3 rfl rfl rfl rfl (Opl.subi (k := .i64) (a := a1) (b := wrap64 (0 - 0)) K3 rfl rfl rfl rfl ?_)))))))))))
 rw [w1]
 refine Opl.p1 (n := Opl.nil (Evr.seq (Evr.regionN rfl (Opl.p1 (n := Opl.gtr (a := a1) (b := 0) K3 rfl rfl rfl rfl (Opl.nil ?_))))))
 by_cases c3 : a1 > 0
 · have e2 : (decide (a1 > 0)) = true := by simpa using c3
   rw [e2]
   refine Evr.condT rfl (Evr.regionN rfl (Opl.p1 (n := Opl.p1 (n := Opl.capnil rfl K23 rfl rfl rfl rfl rfl ?_))))
   refine slices_Grow_int_int.slcnil rfl rfl K23 Z26 rfl rfl rfl ?_
   · refine Opl.p1 (n := ?_)
     refine Opl.appz (M := (cSl (cInt .i64))) (m := a1) ([] : List Int) (by exact ⟨_, rfl, .nil⟩) rfl rfl K23 K3 (by decide) T26 rfl (by omega) (by omega) (by show _ * 24 ≤ 140737488355328; omega) rfl rfl rfl rfl rfl ?_
     rintro v2 S h2 u2 w2
     refine Opl.p1 (n := Opl.len (xs := ([] : List (List Int))) (by exact hv0) K23 rfl rfl rfl rfl ?_)
     refine Opl.slc0 (M := (cSl (cInt .i64))) h2 rfl K23 Z26 rfl rfl rfl ?_
     rintro v3 h3
     refine Opl.p1 (n := Opl.nil ?_)
     refine Evr.trim (M := (cSl (cInt .i64))) h3 fun S h4 => ?_
     refine Evr.seq (Evr.regionN rfl (Opl.p1 (n := Opl.p1 (n := Opl.nil ?_))))
     refine Evr.ret1 Try.func81 rfl ?_
     exact h4
 · have e2 : (decide (a1 > 0)) = false := by simpa using c3
   rw [e2]
   refine Evr.condF rfl (Evr.skip (Evr.seq (Evr.regionN rfl (Opl.p1 (n := Opl.p1 (n := Opl.nil ?_))))))
   refine Evr.ret1 Try.func81 rfl ?_
   exact .nil
theorem slices_Concat_int_int.ev {k : Nat} {l0 : List (List (List Int))} {v0 : PV} (hv0 : Sl (cSl (cSl (cInt .i64))) l0 v0) {r : (List (List Int))} (H : slices_Concat_int_int.f k l0 = some r) : Ret Try.prog 47 [v0] fun v S => Vec (cSl (cInt .i64)) r v S := by
 unfold slices_Concat_int_int.f at H
 refine Ret.intro Try.func47 rfl (Nat.le_of_ble_eq_true rfl) rfl ?_
 rw [tm1]
 refine Evr.sr rfl (Opl.p1 (n := Opl.nil (Evr.sr rfl (Opl.p1 (n := Opl.nil (Evr.seq (Evr.sr rfl (Opl.p1 (n := Opl.len (xs := l0) (by exact hv0) K95 rfl rfl rfl rfl (Opl.p1 (n := Opl.nil (Evr.block ?_))))))))))))
 refine Evr.loop (Evr.rounds (n := k) (Inv := fun n tm S => n ≤ k ∧ ∃ (x3_1 : Int) (x11_1 : Int), slices_Concat_int_int.l1 n x3_1 x11_1 l0 = some r ∧ Has tm [(0, v0), (3, .lit (.int .i64 x3_1)), (9, v0), (10, .lit (.int .i64 (l0.length : Int))), (11, .lit (.int .i64 x11_1))]) ?_ ?_ ?_)
 · exact ⟨Nat.le_refl _, _, _, H, ⟨rfl, rfl, rfl, rfl, rfl, trivial⟩⟩
 ·
  rintro tm S ⟨_, _, _, H, -⟩
  simp [slices_Concat_int_int.l1] at H
 ·
  rintro n1 ih1 tm S ⟨hle, x3_1, x11_1, H, hh⟩
  simp only [slices_Concat_int_int.l1] at H
  rw [hh.eq]
  refine Evr.sr rfl (Opl.p1 (n := Opl.nil (Evr.seq ?_)))
  by_cases c1 : x11_1 < (l0.length : Int)
  case pos =>
   rw [if_pos c1] at H
   have e1 : (decide (x11_1 < (l0.length : Int))) = true := by simpa using c1
   try rw [e1]
   refine Evr.condT rfl (Evr.skip (Evr.seq (Evr.block (Evr.sr rfl ?_))))
   obtain ⟨c2, H⟩ := peel H
   obtain ⟨c3, H⟩ := peel H
   refine Opl.idx (M := (cSl (cSl (cInt .i64)))) (xs := l0) (j := x11_1) ([] : List (List Int)) (by exact hv0) rfl (by omega) (by omega) K95 Z23 rfl rfl ?_
   rintro p1 q1 h1
   obtain ⟨pv1, rfl, h2⟩ := h1
   refine Opl.lda (pv1) rfl T23 rfl rfl rfl rfl (Opl.p1 (n := Opl.nil (Evr.sr rfl (Opl.p1 (n := Opl.p1 (n := Opl.len (xs := (rd_LLint l0 x11_1)) (by exact h2) K23 rfl rfl rfl rfl (Opl.add (k := .i64) (a := x3_1) (b := ((rd_LLint l0 x11_1).length : Int)) K3 rfl rfl rfl rfl (Opl.one (v := .lit (.int .i64 (wrap64 (x3_1 + ((rd_LLint l0 x11_1).length : Int))))) rfl rfl rfl (Opl.nil (Evr.sr rfl (Opl.one (v := .lit (.int .i64 (wrap64 (x3_1 + ((rd_LLint l0 x11_1).length : Int))))) rfl rfl rfl (Opl.lss (a := (wrap64 (x3_1 + ((rd_LLint l0 x11_1).length : Int)))) (b := 0) K3 rfl rfl rfl rfl (Opl.nil ?_)))))))))))))
   by_cases c4 : (wrap64 (x3_1 + ((rd_LLint l0 x11_1).length : Int))) < 0
   case pos =>
    rw [if_pos c4] at H
    cases H
   rw [if_neg c4] at H
   have e2 : (decide ((wrap64 (x3_1 + ((rd_LLint l0 x11_1).length : Int))) < 0)) = false := by simpa using c4
   try rw [e2]
   refine Evr.condF rfl (Evr.skip (Evr.inBlock (Evr.regionN rfl (Opl.add (k := .i64) (a := x11_1) (b := 1) K3 rfl rfl rfl rfl (Opl.one (v := .lit (.int .i64 (wrap64 (x11_1 + 1)))) rfl rfl rfl (Opl.nil ?_))))))
   exact ih1 _ (by omega) _ _ ⟨by omega, _, _, H, ⟨rfl, rfl, rfl, rfl, rfl, trivial⟩⟩
  rw [if_neg c1] at H
  have e3 : (decide (x11_1 < (l0.length : Int))) = false := by simpa using c1
  try rw [e3]
  refine Evr.condF rfl (Evr.exit rfl (Evr.sr rfl (Opl.p1 (n := ?_))))
  obtain ⟨r1, h_r1, H⟩ := Option.bind_eq_some_iff.1 H
  refine Opl.calla (slices_Grow_int_int.ev .nil h_r1) rfl rfl rfl rfl ⟨(.lit _), (.lit _), trivial⟩ rfl ?_
  rintro pv2 S h3 u1 w1
  refine Opl.p1 (n := Opl.nil (Evr.seq (Evr.sr rfl (Opl.p1 (n := Opl.len (xs := l0) (by exact hv0) K95 rfl rfl rfl rfl (Opl.p1 (n := Opl.nil (Evr.block ?_))))))))
  refine Evr.loop (Evr.rounds (n := n1) (Inv := fun n tm S => n ≤ n1 ∧ ∃ (x6q4_1 : List (List Int)) (x27q4_1 : Int) (pv3 : PV), slices_Concat_int_int.l2 n x6q4_1 x27q4_1 l0 = some r ∧ Has tm [(6, pv3), (25, v0), (26, .lit (.int .i64 (l0.length : Int))), (27, .lit (.int .i64 x27q4_1))] ∧ Vec (cSl (cInt .i64)) x6q4_1 pv3 S) ?_ ?_ ?_)
  · exact ⟨Nat.le_refl _, _, _, _, H, ⟨rfl, rfl, rfl, rfl, trivial⟩, h3⟩
  ·
   rintro tm S ⟨_, _, _, _, H, -⟩
   simp [slices_Concat_int_int.l2] at H
  ·
   rintro n2 ih2 tm S ⟨hle, x6q4_1, x27q4_1, pv3, H, hh, h4⟩
   simp only [slices_Concat_int_int.l2] at H
   rw [hh.eq]
   refine Evr.sr rfl (Opl.p1 (n := Opl.nil (Evr.seq ?_)))
   by_cases c5 : x27q4_1 < (l0.length : Int)
   case neg =>
    rw [if_neg c5] at H
    have e5 : (decide (x27q4_1 < (l0.length : Int))) = false := by simpa using c5
    try rw [e5]
    refine Evr.condF rfl (Evr.exit rfl (Evr.sr rfl (Opl.p1 (n := Opl.p1 (n := Opl.nil ?_)))))
    obtain rfl := Option.some.inj H
    refine Evr.ret1 Try.func47 rfl ?_
    show Vec _ _ pv3 _
    exact h4
   rw [if_pos c5] at H
   have e4 : (decide (x27q4_1 < (l0.length : Int))) = true := by simpa using c5
   try rw [e4]
   refine Evr.condT rfl (Evr.skip (Evr.seq (Evr.block (Evr.sr rfl ?_))))
   obtain ⟨c6, H⟩ := peel H
   obtain ⟨c7, H⟩ := peel H
   obtain ⟨c8, H⟩ := peel H
   refine Opl.idx (M := (cSl (cSl (cInt .i64)))) (xs := l0) (j := x27q4_1) ([] : List (List Int)) (by exact hv0) rfl (by omega) (by omega) K95 Z23 rfl rfl ?_
   rintro p2 q2 h5
   obtain ⟨pv4, rfl, h6⟩ := h5
   refine Opl.lda (pv4) rfl T23 rfl rfl rfl rfl (Opl.p1 (n := Opl.nil (Evr.regionN rfl (Opl.p1 (n := Opl.p1 (n := Opl.app (M := (cSl (cInt .i64))) (xs := x6q4_1) (ys := (rd_LLint l0 x27q4_1)) (v := pv3) h4 (.sl h6) (oSl (cInt .i64)) rfl rfl K23 T26 rfl rfl (by (try simp only [List.length_cons, List.length_nil]); omega) (by show (_ + _) * 24 ≤ 140737488355328; (try simp only [List.length_cons, List.length_nil]); omega) rfl rfl rfl rfl rfl ?_))))))
   rintro pv5 S h7 u2 w2
   refine Opl.p1 (n := Opl.nil (Evr.inBlock (Evr.regionN rfl (Opl.add (k := .i64) (a := x27q4_1) (b := 1) K3 rfl rfl rfl rfl (Opl.one (v := .lit (.int .i64 (wrap64 (x27q4_1 + 1)))) rfl rfl rfl (Opl.nil ?_))))))
   exact ih2 _ (by omega) _ _ ⟨by omega, _, _, _, H, ⟨rfl, rfl, rfl, rfl, trivial⟩, h7⟩
theorem impl_timesOn.ev {k : Nat} {l0 : List ITime} {v0 : PV} (hv0 : Sl cITime l0 v0) {l1 : List (List Int)} {v1 : PV} (hv1 : Sl (cSl (cInt .i64)) l1 v1) {l2 : List (List Int)} {v2 : PV} (hv2 : Sl (cSl (cInt .i64)) l2 v2) {r : (List (List Int))} (H : impl_timesOn.f k l0 l1 l2 = some r) : Ret Try.prog 46 [v0, v1, v2] fun v S => Out (fun q => Sl (cSl (cInt .i64)) r q) v S := by
 unfold impl_timesOn.f at H
 refine Ret.intro Try.func46 rfl (Nat.le_of_ble_eq_true rfl) rfl ?_
 rw [tm3]
 refine Evr.sr rfl (Opl.box (cs := [v1]) (by exact hv1.cells) rfl rfl rfl ?_)
 rintro i1 S h1 u1 w1
 refine Opl.p1 (n := Opl.nil (Evr.sr rfl (Opl.ldb (v := v1) h1 rfl T23 rfl rfl rfl rfl (Opl.p1 (n := Opl.liti (M := (cSl (cSl (cInt .i64)))) (ys := [l1, l2]) [.tmp 18, .tmp 19] K95 T23 rfl rfl rfl (by exact ⟨⟨_, by first | rfl | exact hv1.cells, hv1⟩, ⟨_, by first | rfl | exact hv2.cells, hv2⟩, trivial⟩) rfl (by decide) rfl rfl ?_)))))
 rintro pv2 h2
 obtain ⟨r1, h_r1, H⟩ := Option.bind_eq_some_iff.1 H
 refine Opl.call ((slices_Concat_int_int.ev h2 h_r1).mono fun _ _ h => Out.vec h) rfl rfl rfl rfl ⟨h2.plain, trivial⟩ (by decide) ?_
 rintro pv3 h3
 refine Opl.alloc T23 rfl rfl rfl ?_
 rintro i2 S h4 u2 w2
 have ap1 := w2.box h1
 have h5 := u2.box h1 ap1
 obtain ⟨c1, H⟩ := peel H
 obtain ⟨c2, H⟩ := peel H
 refine Opl.stb (vs := [pv3]) h4 rfl (by exact h3.cells) Z23 rfl (Nat.le_of_ble_eq_true rfl) (by simp only [List.all_cons, List.all_nil, h3.one, Bool.and_true, Bool.true_and] <;> rfl) rfl rfl rfl ?_
 rintro S (h6 : Box (.ptr i2 0) [pv3] _) u3
 have h7 := u3.box h5 ap1
 refine Opl.nil (Evr.sr rfl (Opl.ldb (v := pv3) h6 rfl T23 rfl rfl rfl rfl (Opl.len (xs := r1) (by exact h3) K23 rfl rfl rfl rfl (Opl.alloc T3 rfl rfl rfl ?_))))
 rintro i3 S h8 u4 w4
 have ap2 := w4.box h7
 have h9 := u4.box h7 ap2
 have ap3 := w4.box h6
 have h10 := u4.box h6 ap3
 refine Opl.stb (vs := [.lit (.int .i64 (r1.length : Int))]) h8 rfl rfl Z3 rfl (Nat.le_of_ble_eq_true rfl) rfl rfl rfl rfl ?_
 rintro S (h11 : Box (.ptr i3 0) [.lit (.int .i64 (r1.length : Int))] _) u5
 have h12 := u5.box h9 ap2
 have h13 := u5.box h10 ap3
 refine Opl.nil (Evr.sr rfl (Opl.p1 (n := Opl.alloc T90 rfl rfl rfl ?_)))
 rintro i4 S h14 u6 w6
 have ap4 := w6.box h12
 have h15 := u6.box h12 ap4
 have ap5 := w6.box h13
 have h16 := u6.box h13 ap5
 have ap6 := w6.box h11
 have h17 := u6.box h11 ap6
 refine Opl.stb (vs := [.fn 79 [.ptr i3 0, .ptr i1 0]]) h14 rfl rfl Z90 rfl (Nat.le_of_ble_eq_true rfl) rfl rfl rfl rfl ?_
 rintro S (h18 : Box (.ptr i4 0) [.fn 79 [.ptr i3 0, .ptr i1 0]] _) u7
 have h19 := u7.box h15 ap4
 have h20 := u7.box h16 ap5
 have h21 := u7.box h17 ap6
 refine Opl.nil (Evr.sr rfl (Opl.p1 (n := Opl.len (xs := l0) (by exact hv0) K28 rfl rfl rfl rfl (Opl.make (M := (cSl (cInt .i64))) (m := (l0.length : Int)) ([] : List Int) (by exact ⟨_, rfl, .nil⟩) rfl rfl K23 T26 rfl (by omega) (by show ((l0.length : Int)).toNat * 24 ≤ 281474976710656; omega) (by omega) rfl rfl rfl ?_))))
 rintro pv4 S h22 u8 w8
 have ap7 := w8.box h19
 have h23 := u8.box h19 ap7
 have ap8 := w8.box h20
 have h24 := u8.box h20 ap8
 have ap9 := w8.box h21
 have h25 := u8.box h21 ap9
 have ap10 := w8.box h18
 have h26 := u8.box h18 ap10
 refine Opl.alloc T23 rfl rfl rfl ?_
 rintro i5 S h27 u9 w9
 have ap11 := w9.box h23
 have h28 := u9.box h23 ap11
 have ap12 := w9.box h24
 have h29 := u9.box h24 ap12
 have ap13 := w9.box h25
 have h30 := u9.box h25 ap13
 have ap14 := w9.box h26
 have h31 := u9.box h26 ap14
 have ap15 := w9.vec h22
 have h32 := u9.vec h22 ap15
 refine Opl.stb (vs := [pv4]) h27 rfl (by exact Vec.cells h32) Z23 rfl (Nat.le_of_ble_eq_true rfl) (by simp only [List.all_cons, List.all_nil, Vec.one h32, Bool.and_true, Bool.true_and] <;> rfl) rfl rfl rfl ?_
 rintro S (h33 : Box (.ptr i5 0) [pv4] _) u10
 have h34 := u10.box h28 ap11
 have h35 := u10.box h29 ap12
 have h36 := u10.box h30 ap13
 have h37 := u10.box h31 ap14
 have h38 := u10.vec h32 ap15
 refine Opl.nil (Evr.seq (Evr.sr rfl (Opl.p1 (n := Opl.len (xs := l0) (by exact hv0) K28 rfl rfl rfl rfl (Opl.p1 (n := Opl.nil (Evr.block ?_)))))))
 refine Evr.loop (Evr.rounds (n := k) (Inv := fun n tm S => n ≤ k ∧ ∃ (x10b0_1 : List (List Int)) (x30_1 : Int) (i6 : Abs.Id) (i7 : Abs.Id) (i9 : Abs.Id) (i8 : Abs.Id) (pv5 : PV) (i10 : Abs.Id), impl_timesOn.l1 n x10b0_1 x30_1 l0 l1 r1 = some r ∧ Has tm [(7, .ptr i6 0), (8, .ptr i7 0), (9, .ptr i8 0), (10, .ptr i10 0), (28, v0), (29, .lit (.int .i64 (l0.length : Int))), (30, .lit (.int .i64 x30_1))] ∧ Box (.ptr i6 0) [pv3] S ∧ Box (.ptr i7 0) [.lit (.int .i64 (r1.length : Int))] S ∧ Box (.ptr i9 0) [v1] S ∧ Box (.ptr i8 0) [.fn 79 [.ptr i7 0, .ptr i9 0]] S ∧ Vec (cSl (cInt .i64)) x10b0_1 pv5 S ∧ Box (.ptr i10 0) [pv5] S ∧ Ap (.ptr i6 0) (.ptr i7 0) ∧ Ap (.ptr i6 0) (.ptr i9 0) ∧ Ap (.ptr i6 0) (.ptr i8 0) ∧ Ap (.ptr i6 0) pv5 ∧ Ap (.ptr i6 0) (.ptr i10 0) ∧ Ap (.ptr i7 0) (.ptr i9 0) ∧ Ap (.ptr i7 0) (.ptr i8 0) ∧ Ap (.ptr i7 0) pv5 ∧ Ap (.ptr i7 0) (.ptr i10 0) ∧ Ap (.ptr i9 0) (.ptr i8 0) ∧ Ap (.ptr i9 0) pv5 ∧ Ap (.ptr i9 0) (.ptr i10 0) ∧ Ap (.ptr i8 0) pv5 ∧ Ap (.ptr i8 0) (.ptr i10 0) ∧ Ap pv5 (.ptr i10 0)) ?_ ?_ ?_)
 · exact ⟨Nat.le_refl _, _, _, _, _, _, _, _, _, H, ⟨rfl, rfl, rfl, rfl, rfl, rfl, rfl, trivial⟩, h35, h36, h34, h37, h38, h33, ap3, ap1.symm, ap5, ap8, ap12, ap2.symm, ap6, ap9, ap13, ap4, ap7, ap11, ap10, ap14, ap15⟩
 ·
  rintro tm S ⟨_, _, _, _, _, _, _, _, _, H, -⟩
  simp [impl_timesOn.l1] at H
 ·
  rintro n1 ih1 tm S ⟨hle, x10b0_1, x30_1, i6, i7, i9, i8, pv5, i10, H, hh, h39, h40, h42, h41, h44, h43, ap16, ap17, ap18, ap19, ap20, ap21, ap22, ap23, ap24, ap25, ap26, ap27, ap28, ap29, ap30⟩
  simp only [impl_timesOn.l1] at H
  rw [hh.eq]
  refine Evr.sr rfl (Opl.p1 (n := Opl.nil (Evr.seq ?_)))
  by_cases c3 : x30_1 < (l0.length : Int)
  case neg =>
   rw [if_neg c3] at H
   have e10 : (decide (x30_1 < (l0.length : Int))) = false := by simpa using c3
   try rw [e10]
   refine Evr.condF rfl (Evr.exit rfl (Evr.seq (Evr.frzc [] [] h43 h44 ap30 ?_)))
   rintro pv18 S1_ S h169 u21 u22 h170
   have h171 := u22.box (u21.box h39 ap19) ap20
   have h172 := u22.box (u21.box h40 ap23) ap24
   have h173 := u22.box (u21.box h42 ap26) ap27
   have h174 := u22.box (u21.box h41 ap28) ap29
   have h175 : Sl (cSl (cInt .i64)) x10b0_1 pv18 := h169
   have h176 : Box (.ptr i10 0) [pv18] S := h170
   refine Evr.regionN rfl (Opl.ldb (v := pv18) h176 rfl T23 rfl rfl rfl rfl (Opl.p1 (n := Opl.nil ?_)))
   obtain rfl := Option.some.inj H
   refine Evr.ret1 Try.func46 rfl ?_
   show Out _ pv18 _
   exact (.sl h175)
  rw [if_pos c3] at H
  have e1 : (decide (x30_1 < (l0.length : Int))) = true := by simpa using c3
  try rw [e1]
  refine Evr.condT rfl (Evr.skip (Evr.seq (Evr.block (Evr.sr rfl (Opl.p1 (n := ?_))))))
  obtain ⟨c4, H⟩ := peel H
  obtain ⟨c5, H⟩ := peel H
  obtain ⟨c6, H⟩ := peel H
  obtain ⟨c7, H⟩ := peel H
  refine Opl.idx (M := cITime) (xs := l0) (j := x30_1) zITime (by exact hv0) rfl (by omega) (by omega) K28 Z64 rfl rfl ?_
  rintro p1 q1 h45
  obtain rfl := cITime_R (x := (rd_ITime l0 x30_1)) h45
  refine Opl.lda (.agg [.lit (.int .i64 ((rd_ITime l0 x30_1).f0)), .lit (.int .i64 ((rd_ITime l0 x30_1).f1)), .lit (.int .i64 ((rd_ITime l0 x30_1).f2)), .lit (.int .i64 ((rd_ITime l0 x30_1).f3))]) rfl T64 rfl rfl rfl rfl (Opl.alloc T64 rfl rfl rfl ?_)
  rintro i11 S h46 u11 w11
  have ap31 := w11.box h39
  have h47 := u11.box h39 ap31
  have ap32 := w11.box h40
  have h48 := u11.box h40 ap32
  have ap33 := w11.box h42
  have h49 := u11.box h42 ap33
  have ap34 := w11.box h41
  have h50 := u11.box h41 ap34
  have ap35 := w11.vec h44
  have h51 := u11.vec h44 ap35
  have ap36 := w11.box h43
  have h52 := u11.box h43 ap36
  refine Opl.p1 (n := Opl.stb (vs := [.lit (.int .i64 ((rd_ITime l0 x30_1).f0)), .lit (.int .i64 ((rd_ITime l0 x30_1).f1)), .lit (.int .i64 ((rd_ITime l0 x30_1).f2)), .lit (.int .i64 ((rd_ITime l0 x30_1).f3))]) h46 rfl rfl Z64 rfl (Nat.le_of_ble_eq_true rfl) rfl rfl rfl rfl ?_)
  rintro S (h53 : Box (.ptr i11 0) [.lit (.int .i64 ((rd_ITime l0 x30_1).f0)), .lit (.int .i64 ((rd_ITime l0 x30_1).f1)), .lit (.int .i64 ((rd_ITime l0 x30_1).f2)), .lit (.int .i64 ((rd_ITime l0 x30_1).f3))] _) u12
  have h54 := u12.box h47 ap31
  have h55 := u12.box h48 ap32
  have h56 := u12.box h49 ap33
  have h57 := u12.box h50 ap34
  have h58 := u12.vec h51 ap35
  have h59 := u12.box h52 ap36
  refine Opl.nil (Evr.sr rfl (Opl.ldb (v := .lit (.int .i64 (r1.length : Int))) h55 rfl T3 rfl rfl rfl rfl (Opl.make (M := (cInt .i64)) (m := (r1.length : Int)) (0 : Int) (by exact rfl) rfl rfl K26 T3 rfl (by omega) (by show ((r1.length : Int)).toNat * 8 ≤ 281474976710656; omega) (by omega) rfl rfl rfl ?_)))
  rintro pv6 S h60 u13 w13
  have ap37 := w13.box h54
  have h61 := u13.box h54 ap37
  have ap38 := w13.box h55
  have h62 := u13.box h55 ap38
  have ap39 := w13.box h56
  have h63 := u13.box h56 ap39
  have ap40 := w13.box h57
  have h64 := u13.box h57 ap40
  have ap41 := w13.vec h58
  have h65 := u13.vec h58 ap41
  have ap42 := w13.box h59
  have h66 := u13.box h59 ap42
  have ap43 := w13.box h53
  have h67 := u13.box h53 ap43
  refine Opl.alloc T26 rfl rfl rfl ?_
  rintro i12 S h68 u14 w14
  have ap44 := w14.box h61
  have h69 := u14.box h61 ap44
  have ap45 := w14.box h62
  have h70 := u14.box h62 ap45
  have ap46 := w14.box h63
  have h71 := u14.box h63 ap46
  have ap47 := w14.box h64
  have h72 := u14.box h64 ap47
  have ap48 := w14.vec h65
  have h73 := u14.vec h65 ap48
  have ap49 := w14.box h66
  have h74 := u14.box h66 ap49
  have ap50 := w14.box h67
  have h75 := u14.box h67 ap50
  have ap51 := w14.vec h60
  have h76 := u14.vec h60 ap51
  refine Opl.stb (vs := [pv6]) h68 rfl (by exact Vec.cells h76) Z26 rfl (Nat.le_of_ble_eq_true rfl) (by simp only [List.all_cons, List.all_nil, Vec.one h76, Bool.and_true, Bool.true_and] <;> rfl) rfl rfl rfl ?_
  rintro S (h77 : Box (.ptr i12 0) [pv6] _) u15
  have h78 := u15.box h69 ap44
  have h79 := u15.box h70 ap45
  have h80 := u15.box h71 ap46
  have h81 := u15.box h72 ap47
  have h82 := u15.vec h73 ap48
  have h83 := u15.box h74 ap49
  have h84 := u15.box h75 ap50
  have h85 := u15.vec h76 ap51
  refine Opl.nil (Evr.sr rfl (Opl.p1 (n := Opl.nil (Evr.sr rfl (Opl.p1 (n := Opl.p1 (n := Opl.nil (Evr.seq (Evr.sr rfl (Opl.p1 (v := .ptr i11 0) (n := Opl.ldb (v := .lit (.int .i64 ((rd_ITime l0 x30_1).f0))) h84 rfl T3 rfl rfl rfl rfl (Opl.p1 (n := Opl.nil ?_)))))))))))))
  refine Evr.join (fun tm S => ∃ (kq1 : Nat) (x14q2_1 : Int) (i13 : Abs.Id) (i14 : Abs.Id) (i16 : Abs.Id) (i15 : Abs.Id) (pv7 : PV) (i17 : Abs.Id) (pv8 : PV) (i18 : Abs.Id) (i19 : Abs.Id), impl_timesOn.j2 kq1 x14q2_1 l0 l1 r1 x10b0_1 x30_1 = some r ∧ kq1 ≤ n1 ∧ Has tm [(7, .ptr i13 0), (8, .ptr i14 0), (9, .ptr i15 0), (10, .ptr i17 0), (11, .lit (.int .i64 x30_1)), (13, .ptr i18 0), (14, .lit (.int .i64 x14q2_1)), (15, .fn 80 [.ptr i19 0, .ptr i17 0, .ptr i13 0, .ptr i15 0, .ptr i18 0]), (28, v0), (29, .lit (.int .i64 (l0.length : Int))), (30, .lit (.int .i64 x30_1))] ∧ Box (.ptr i13 0) [pv3] S ∧ Box (.ptr i14 0) [.lit (.int .i64 (r1.length : Int))] S ∧ Box (.ptr i16 0) [v1] S ∧ Box (.ptr i15 0) [.fn 79 [.ptr i14 0, .ptr i16 0]] S ∧ Vec (cSl (cInt .i64)) x10b0_1 pv7 S ∧ Box (.ptr i17 0) [pv7] S ∧ Vec (cInt .i64) (List.replicate (r1.length : Int).toNat (0 : Int)) pv8 S ∧ Box (.ptr i18 0) [pv8] S ∧ Box (.ptr i19 0) [.lit (.int .i64 ((rd_ITime l0 x30_1).f0)), .lit (.int .i64 ((rd_ITime l0 x30_1).f1)), .lit (.int .i64 ((rd_ITime l0 x30_1).f2)), .lit (.int .i64 ((rd_ITime l0 x30_1).f3))] S ∧ Ap (.ptr i13 0) (.ptr i14 0) ∧ Ap (.ptr i13 0) (.ptr i16 0) ∧ Ap (.ptr i13 0) (.ptr i15 0) ∧ Ap (.ptr i13 0) pv7 ∧ Ap (.ptr i13 0) (.ptr i17 0) ∧ Ap (.ptr i13 0) pv8 ∧ Ap (.ptr i13 0) (.ptr i18 0) ∧ Ap (.ptr i13 0) (.ptr i19 0) ∧ Ap (.ptr i14 0) (.ptr i16 0) ∧ Ap (.ptr i14 0) (.ptr i15 0) ∧ Ap (.ptr i14 0) pv7 ∧ Ap (.ptr i14 0) (.ptr i17 0) ∧ Ap (.ptr i14 0) pv8 ∧ Ap (.ptr i14 0) (.ptr i18 0) ∧ Ap (.ptr i14 0) (.ptr i19 0) ∧ Ap (.ptr i16 0) (.ptr i15 0) ∧ Ap (.ptr i16 0) pv7 ∧ Ap (.ptr i16 0) (.ptr i17 0) ∧ Ap (.ptr i16 0) pv8 ∧ Ap (.ptr i16 0) (.ptr i18 0) ∧ Ap (.ptr i16 0) (.ptr i19 0) ∧ Ap (.ptr i15 0) pv7 ∧ Ap (.ptr i15 0) (.ptr i17 0) ∧ Ap (.ptr i15 0) pv8 ∧ Ap (.ptr i15 0) (.ptr i18 0) ∧ Ap (.ptr i15 0) (.ptr i19 0) ∧ Ap pv7 (.ptr i17 0) ∧ Ap pv7 pv8 ∧ Ap pv7 (.ptr i18 0) ∧ Ap pv7 (.ptr i19 0) ∧ Ap (.ptr i17 0) pv8 ∧ Ap (.ptr i17 0) (.ptr i18 0) ∧ Ap (.ptr i17 0) (.ptr i19 0) ∧ Ap pv8 (.ptr i18 0) ∧ Ap pv8 (.ptr i19 0) ∧ Ap (.ptr i18 0) (.ptr i19 0)) ?_ fun hk1 => ?_
  ·
   rintro tm S ⟨kq1, x14q2_1, i13, i14, i16, i15, pv7, i17, pv8, i18, i19, H, hle, hh, h86, h87, h89, h88, h91, h90, h93, h92, h94, ap52, ap53, ap54, ap55, ap56, ap57, ap58, ap59, ap60, ap61, ap62, ap63, ap64, ap65, ap66, ap67, ap68, ap69, ap70, ap71, ap72, ap73, ap74, ap75, ap76, ap77, ap78, ap79, ap80, ap81, ap82, ap83, ap84, ap85, ap86, ap87⟩
   rw [hh.eq]
   refine Evr.seq (Evr.sr rfl (Opl.ldb (v := pv8) h92 rfl T26 rfl rfl rfl rfl (Opl.lenv (xs := (List.replicate (r1.length : Int).toNat (0 : Int))) (by exact h93) K26 rfl rfl rfl rfl (Opl.p1 (n := Opl.nil (Evr.block ?_))))))
   obtain _ | k1 := kq1
   · simp [impl_timesOn.j2] at H
   simp only [impl_timesOn.j2] at H
   refine Evr.loop (Evr.rounds (n := k1) (Inv := fun n tm S => n ≤ k1 ∧ ∃ (x13b0q20_1 : List Int) (x43q2_1 : Int) (i20 : Abs.Id) (i21 : Abs.Id) (i23 : Abs.Id) (i22 : Abs.Id) (pv9 : PV) (i24 : Abs.Id) (pv10 : PV) (i25 : Abs.Id) (i26 : Abs.Id), impl_timesOn.l3 n x13b0q20_1 x43q2_1 l0 l1 r1 x10b0_1 x30_1 x14q2_1 = some r ∧ Has tm [(7, .ptr i20 0), (8, .ptr i21 0), (9, .ptr i22 0), (10, .ptr i24 0), (11, .lit (.int .i64 x30_1)), (13, .ptr i25 0), (14, .lit (.int .i64 x14q2_1)), (15, .fn 80 [.ptr i26 0, .ptr i24 0, .ptr i20 0, .ptr i22 0, .ptr i25 0]), (28, v0), (29, .lit (.int .i64 (l0.length : Int))), (30, .lit (.int .i64 x30_1)), (42, .lit (.int .i64 ((List.replicate (r1.length : Int).toNat (0 : Int)).length : Int))), (43, .lit (.int .i64 x43q2_1))] ∧ Box (.ptr i20 0) [pv3] S ∧ Box (.ptr i21 0) [.lit (.int .i64 (r1.length : Int))] S ∧ Box (.ptr i23 0) [v1] S ∧ Box (.ptr i22 0) [.fn 79 [.ptr i21 0, .ptr i23 0]] S ∧ Vec (cSl (cInt .i64)) x10b0_1 pv9 S ∧ Box (.ptr i24 0) [pv9] S ∧ Vec (cInt .i64) x13b0q20_1 pv10 S ∧ Box (.ptr i25 0) [pv10] S ∧ Box (.ptr i26 0) [.lit (.int .i64 ((rd_ITime l0 x30_1).f0)), .lit (.int .i64 ((rd_ITime l0 x30_1).f1)), .lit (.int .i64 ((rd_ITime l0 x30_1).f2)), .lit (.int .i64 ((rd_ITime l0 x30_1).f3))] S ∧ Ap (.ptr i20 0) (.ptr i21 0) ∧ Ap (.ptr i20 0) (.ptr i23 0) ∧ Ap (.ptr i20 0) (.ptr i22 0) ∧ Ap (.ptr i20 0) pv9 ∧ Ap (.ptr i20 0) (.ptr i24 0) ∧ Ap (.ptr i20 0) pv10 ∧ Ap (.ptr i20 0) (.ptr i25 0) ∧ Ap (.ptr i20 0) (.ptr i26 0) ∧ Ap (.ptr i21 0) (.ptr i23 0) ∧ Ap (.ptr i21 0) (.ptr i22 0) ∧ Ap (.ptr i21 0) pv9 ∧ Ap (.ptr i21 0) (.ptr i24 0) ∧ Ap (.ptr i21 0) pv10 ∧ Ap (.ptr i21 0) (.ptr i25 0) ∧ Ap (.ptr i21 0) (.ptr i26 0) ∧ Ap (.ptr i23 0) (.ptr i22 0) ∧ Ap (.ptr i23 0) pv9 ∧ Ap (.ptr i23 0) (.ptr i24 0) ∧ Ap (.ptr i23 0) pv10 ∧ Ap (.ptr i23 0) (.ptr i25 0) ∧ Ap (.ptr i23 0) (.ptr i26 0) ∧ Ap (.ptr i22 0) pv9 ∧ Ap (.ptr i22 0) (.ptr i24 0) ∧ Ap (.ptr i22 0) pv10 ∧ Ap (.ptr i22 0) (.ptr i25 0) ∧ Ap (.ptr i22 0) (.ptr i26 0) ∧ Ap pv9 (.ptr i24 0) ∧ Ap pv9 pv10 ∧ Ap pv9 (.ptr i25 0) ∧ Ap pv9 (.ptr i26 0) ∧ Ap (.ptr i24 0) pv10 ∧ Ap (.ptr i24 0) (.ptr i25 0) ∧ Ap (.ptr i24 0) (.ptr i26 0) ∧ Ap pv10 (.ptr i25 0) ∧ Ap pv10 (.ptr i26 0) ∧ Ap (.ptr i25 0) (.ptr i26 0)) ?_ ?_ ?_)
   · exact ⟨Nat.le_refl _, _, _, _, _, _, _, _, _, _, _, _, H, ⟨rfl, rfl, rfl, rfl, rfl, rfl, rfl, rfl, rfl, rfl, rfl, rfl, rfl, trivial⟩, h86, h87, h89, h88, h91, h90, h93, h92, h94, ap52, ap53, ap54, ap55, ap56, ap57, ap58, ap59, ap60, ap61, ap62, ap63, ap64, ap65, ap66, ap67, ap68, ap69, ap70, ap71, ap72, ap73, ap74, ap75, ap76, ap77, ap78, ap79, ap80, ap81, ap82, ap83, ap84, ap85, ap86, ap87⟩
   ·
    rintro tm S ⟨_, _, _, _, _, _, _, _, _, _, _, _, H, -⟩
    simp [impl_timesOn.l3] at H
   ·
    rintro n2 ih2 tm S ⟨hle, x13b0q20_1, x43q2_1, i20, i21, i23, i22, pv9, i24, pv10, i25, i26, H, hh, h95, h96, h98, h97, h100, h99, h102, h101, h103, ap88, ap89, ap90, ap91, ap92, ap93, ap94, ap95, ap96, ap97, ap98, ap99, ap100, ap101, ap102, ap103, ap104, ap105, ap106, ap107, ap108, ap109, ap110, ap111, ap112, ap113, ap114, ap115, ap116, ap117, ap118, ap119, ap120, ap121, ap122, ap123⟩
    simp only [impl_timesOn.l3] at H
    rw [hh.eq]
    refine Evr.sr rfl (Opl.p1 (n := Opl.nil (Evr.seq ?_)))
    by_cases c8 : x43q2_1 < ((List.replicate (r1.length : Int).toNat (0 : Int)).length : Int)
    case pos =>
     rw [if_pos c8] at H
     have e2 : (decide (x43q2_1 < ((List.replicate (r1.length : Int).toNat (0 : Int)).length : Int))) = true := by simpa using c8
     try rw [e2]
     refine Evr.condT rfl (Evr.skip (Evr.seq (Evr.block (Evr.sr rfl (Opl.p1 (n := Opl.p1 (n := Opl.nil (Evr.regionN rfl (Opl.ldb (v := pv10) h101 rfl T26 rfl rfl rfl rfl (Opl.p1 (n := Opl.p1 (n := ?_))))))))))))
     obtain ⟨c9, H⟩ := peel H
     obtain ⟨c10, H⟩ := peel H
     refine Opl.idv (M := (cInt .i64)) (xs := x13b0q20_1) (j := x43q2_1) (v := pv10) h102 rfl rfl (by omega) (by omega) K26 Z3 rfl rfl ?_
     rintro d1 z1 q2 h104 h105
     refine Opl.stv (M := (cInt .i64)) (xs := x13b0q20_1) (j := x43q2_1) (y := x14q2_1) (vs := [.lit (.int .i64 x14q2_1)]) h104 h105 (by omega) (by omega) rfl rfl (by exact rfl) Z3 rfl rfl rfl rfl ?_
     rw [← q2]
     rintro S h106 u16
     have h107 := u16.box h95 ap93
     have h108 := u16.box h96 ap100
     have h109 := u16.box h98 ap106
     have h110 := u16.box h97 ap111
     have h111 := u16.vec h100 ap115
     have h112 := u16.box h99 ap118
     have h113 := u16.box h101 ap121.symm
     have h114 := u16.box h103 ap122.symm
     refine Opl.nil (Evr.inBlock (Evr.regionN rfl (Opl.add (k := .i64) (a := x43q2_1) (b := 1) K3 rfl rfl rfl rfl (Opl.one (v := .lit (.int .i64 (wrap64 (x43q2_1 + 1)))) rfl rfl rfl (Opl.nil ?_)))))
     exact ih2 _ (by omega) _ _ ⟨by omega, _, _, _, _, _, _, _, _, _, _, _, H, ⟨rfl, rfl, rfl, rfl, rfl, rfl, rfl, rfl, rfl, rfl, rfl, rfl, rfl, trivial⟩, h107, h108, h109, h110, h111, h112, h106, h113, h114, ap88, ap89, ap90, ap91, ap92, ap93, ap94, ap95, ap96, ap97, ap98, ap99, ap100, ap101, ap102, ap103, ap104, ap105, ap106, ap107, ap108, ap109, ap110, ap111, ap112, ap113, ap114, ap115, ap116, ap117, ap118, ap119, ap120, ap121, ap122, ap123⟩
    rw [if_neg c8] at H
    have e3 : (decide (x43q2_1 < ((List.replicate (r1.length : Int).toNat (0 : Int)).length : Int))) = false := by simpa using c8
    try rw [e3]
    refine Evr.condF rfl (Evr.exit rfl (Evr.seq (Evr.sr rfl (Opl.p1 (n := Opl.nil (Evr.block ?_))))))
    refine Evr.loop (Evr.rounds (n := n2) (Inv := fun n tm S => n ≤ n2 ∧ ∃ (x13b0q25_1 : List Int) (x51q8_1 : Int) (i27 : Abs.Id) (i28 : Abs.Id) (i30 : Abs.Id) (i29 : Abs.Id) (pv11 : PV) (i31 : Abs.Id) (pv12 : PV) (i32 : Abs.Id) (i33 : Abs.Id), impl_timesOn.l4 n x13b0q25_1 x51q8_1 l0 l1 r1 x10b0_1 x30_1 = some r ∧ Has tm [(7, .ptr i27 0), (8, .ptr i28 0), (9, .ptr i29 0), (10, .ptr i31 0), (11, .lit (.int .i64 x30_1)), (13, .ptr i32 0), (15, .fn 80 [.ptr i33 0, .ptr i31 0, .ptr i27 0, .ptr i29 0, .ptr i32 0]), (28, v0), (29, .lit (.int .i64 (l0.length : Int))), (30, .lit (.int .i64 x30_1)), (51, .lit (.int .i64 x51q8_1))] ∧ Box (.ptr i27 0) [pv3] S ∧ Box (.ptr i28 0) [.lit (.int .i64 (r1.length : Int))] S ∧ Box (.ptr i30 0) [v1] S ∧ Box (.ptr i29 0) [.fn 79 [.ptr i28 0, .ptr i30 0]] S ∧ Vec (cSl (cInt .i64)) x10b0_1 pv11 S ∧ Box (.ptr i31 0) [pv11] S ∧ Vec (cInt .i64) x13b0q25_1 pv12 S ∧ Box (.ptr i32 0) [pv12] S ∧ Box (.ptr i33 0) [.lit (.int .i64 ((rd_ITime l0 x30_1).f0)), .lit (.int .i64 ((rd_ITime l0 x30_1).f1)), .lit (.int .i64 ((rd_ITime l0 x30_1).f2)), .lit (.int .i64 ((rd_ITime l0 x30_1).f3))] S ∧ Ap (.ptr i27 0) (.ptr i28 0) ∧ Ap (.ptr i27 0) (.ptr i30 0) ∧ Ap (.ptr i27 0) (.ptr i29 0) ∧ Ap (.ptr i27 0) pv11 ∧ Ap (.ptr i27 0) (.ptr i31 0) ∧ Ap (.ptr i27 0) pv12 ∧ Ap (.ptr i27 0) (.ptr i32 0) ∧ Ap (.ptr i27 0) (.ptr i33 0) ∧ Ap (.ptr i28 0) (.ptr i30 0) ∧ Ap (.ptr i28 0) (.ptr i29 0) ∧ Ap (.ptr i28 0) pv11 ∧ Ap (.ptr i28 0) (.ptr i31 0) ∧ Ap (.ptr i28 0) pv12 ∧ Ap (.ptr i28 0) (.ptr i32 0) ∧ Ap (.ptr i28 0) (.ptr i33 0) ∧ Ap (.ptr i30 0) (.ptr i29 0) ∧ Ap (.ptr i30 0) pv11 ∧ Ap (.ptr i30 0) (.ptr i31 0) ∧ Ap (.ptr i30 0) pv12 ∧ Ap (.ptr i30 0) (.ptr i32 0) ∧ Ap (.ptr i30 0) (.ptr i33 0) ∧ Ap (.ptr i29 0) pv11 ∧ Ap (.ptr i29 0) (.ptr i31 0) ∧ Ap (.ptr i29 0) pv12 ∧ Ap (.ptr i29 0) (.ptr i32 0) ∧ Ap (.ptr i29 0) (.ptr i33 0) ∧ Ap pv11 (.ptr i31 0) ∧ Ap pv11 pv12 ∧ Ap pv11 (.ptr i32 0) ∧ Ap pv11 (.ptr i33 0) ∧ Ap (.ptr i31 0) pv12 ∧ Ap (.ptr i31 0) (.ptr i32 0) ∧ Ap (.ptr i31 0) (.ptr i33 0) ∧ Ap pv12 (.ptr i32 0) ∧ Ap pv12 (.ptr i33 0) ∧ Ap (.ptr i32 0) (.ptr i33 0)) ?_ ?_ ?_)
    · exact ⟨Nat.le_refl _, _, _, _, _, _, _, _, _, _, _, _, H, ⟨rfl, rfl, rfl, rfl, rfl, rfl, rfl, rfl, rfl, rfl, rfl, trivial⟩, h95, h96, h98, h97, h100, h99, h102, h101, h103, ap88, ap89, ap90, ap91, ap92, ap93, ap94, ap95, ap96, ap97, ap98, ap99, ap100, ap101, ap102, ap103, ap104, ap105, ap106, ap107, ap108, ap109, ap110, ap111, ap112, ap113, ap114, ap115, ap116, ap117, ap118, ap119, ap120, ap121, ap122, ap123⟩
    ·
     rintro tm S ⟨_, _, _, _, _, _, _, _, _, _, _, _, H, -⟩
     simp [impl_timesOn.l4] at H
    ·
     rintro n3 ih3 tm S ⟨hle, x13b0q25_1, x51q8_1, i27, i28, i30, i29, pv11, i31, pv12, i32, i33, H, hh, h115, h116, h118, h117, h120, h119, h122, h121, h123, ap124, ap125, ap126, ap127, ap128, ap129, ap130, ap131, ap132, ap133, ap134, ap135, ap136, ap137, ap138, ap139, ap140, ap141, ap142, ap143, ap144, ap145, ap146, ap147, ap148, ap149, ap150, ap151, ap152, ap153, ap154, ap155, ap156, ap157, ap158, ap159⟩
     simp only [impl_timesOn.l4] at H
     rw [hh.eq]
     refine Evr.sr rfl (Opl.p1 (n := Opl.nil (Evr.seq ?_)))
     by_cases c11 : x51q8_1 < 2
     case neg =>
      rw [if_neg c11] at H
      have e7 : (decide (x51q8_1 < 2)) = false := by simpa using c11
      try rw [e7]
      refine Evr.condF rfl (Evr.exit rfl (Evr.frzc [] [] h121 h122 ap157 ?_))
      rintro pv17 S1_ S h148 u18 u19 h149
      have h150 := u19.box (u18.box h115 ap129) ap130
      have h151 := u19.box (u18.box h116 ap136) ap137
      have h152 := u19.box (u18.box h118 ap142) ap143
      have h153 := u19.box (u18.box h117 ap147) ap148
      have h154 := u19.vec (u18.vec h120 ap151) ap152
      have h155 := u19.box (u18.box h119 ap154) ap155
      have h156 := u19.box (u18.box h123 ap158.symm) ap159.symm
      have h157 : Sl (cInt .i64) x13b0q25_1 pv17 := h148
      have h158 : Box (.ptr i32 0) [pv17] S := h149
      refine Evr.regionN rfl (Opl.ldb (v := pv11) h155 rfl T23 rfl rfl rfl rfl (Opl.p1 (n := Opl.ldb (v := pv17) h158 rfl T26 rfl rfl rfl rfl ?_)))
      obtain ⟨c15, H⟩ := peel H
      obtain ⟨c16, H⟩ := peel H
      refine Opl.idv (M := (cSl (cInt .i64))) (xs := x10b0_1) (j := x30_1) (v := pv11) h154 rfl rfl (by omega) (by omega) K23 Z26 rfl rfl ?_
      rintro d3 z3 q4 h159 h160
      refine Opl.stv (M := (cSl (cInt .i64))) (xs := x10b0_1) (j := x30_1) (y := x13b0q25_1) (vs := [pv17]) h159 h160 (by omega) (by omega) rfl (by exact h157.cells) (by exact ⟨_, by first | rfl | exact h157.cells, h157⟩) Z26 (by simp only [List.all_cons, List.all_nil, h157.one, Bool.and_true, Bool.true_and] <;> rfl) rfl rfl rfl ?_
      rw [← q4]
      rintro S h161 u20
      have h162 := u20.box h150 ap127
      have h163 := u20.box h151 ap134
      have h164 := u20.box h152 ap140
      have h165 := u20.box h153 ap145
      have h166 := u20.box h155 ap150.symm
      have h167 := u20.box h158 ap152.symm
      have h168 := u20.box h156 ap153.symm
      refine Opl.nil (Evr.inBlock (Evr.regionN rfl (Opl.add (k := .i64) (a := x30_1) (b := 1) K3 rfl rfl rfl rfl (Opl.one (v := .lit (.int .i64 (wrap64 (x30_1 + 1)))) rfl rfl rfl (Opl.nil ?_)))))
      exact ih1 _ (by omega) _ _ ⟨by omega, _, _, _, _, _, _, _, _, H, ⟨rfl, rfl, rfl, rfl, rfl, rfl, rfl, trivial⟩, h162, h163, h164, h165, h161, h166, ap124, ap125, ap126, ap127, ap128, ap132, ap133, ap134, ap135, ap139, ap140, ap141, ap145, ap146, ap150⟩
     rw [if_pos c11] at H
     have e4 : (decide (x51q8_1 < 2)) = true := by simpa using c11
     try rw [e4]
     refine Evr.condT rfl (Evr.skip (Evr.seq (Evr.block (Evr.sr rfl (Opl.ldb (v := .lit (.int .i64 (r1.length : Int))) h116 rfl T3 rfl rfl rfl rfl (Opl.subi (k := .i64) (a := (r1.length : Int)) (b := 1) K3 rfl rfl rfl rfl (Opl.one (v := .lit (.int .i64 (wrap64 ((r1.length : Int) - 1)))) rfl rfl rfl (Opl.nil (Evr.block ?_)))))))))
     refine Evr.loop (Evr.rounds (n := n3) (Inv := fun n tm S => n ≤ n3 ∧ ∃ (x13b0q26_1 : List Int) (x17q16_1 : Int) (i34 : Abs.Id) (i35 : Abs.Id) (i37 : Abs.Id) (i36 : Abs.Id) (pv13 : PV) (i38 : Abs.Id) (pv14 : PV) (i39 : Abs.Id) (i40 : Abs.Id), impl_timesOn.l5 n x13b0q26_1 x17q16_1 l0 l1 r1 x10b0_1 x30_1 x51q8_1 = some r ∧ Has tm [(7, .ptr i34 0), (8, .ptr i35 0), (9, .ptr i36 0), (10, .ptr i38 0), (11, .lit (.int .i64 x30_1)), (13, .ptr i39 0), (15, .fn 80 [.ptr i40 0, .ptr i38 0, .ptr i34 0, .ptr i36 0, .ptr i39 0]), (17, .lit (.int .i64 x17q16_1)), (28, v0), (29, .lit (.int .i64 (l0.length : Int))), (30, .lit (.int .i64 x30_1)), (51, .lit (.int .i64 x51q8_1))] ∧ Box (.ptr i34 0) [pv3] S ∧ Box (.ptr i35 0) [.lit (.int .i64 (r1.length : Int))] S ∧ Box (.ptr i37 0) [v1] S ∧ Box (.ptr i36 0) [.fn 79 [.ptr i35 0, .ptr i37 0]] S ∧ Vec (cSl (cInt .i64)) x10b0_1 pv13 S ∧ Box (.ptr i38 0) [pv13] S ∧ Vec (cInt .i64) x13b0q26_1 pv14 S ∧ Box (.ptr i39 0) [pv14] S ∧ Box (.ptr i40 0) [.lit (.int .i64 ((rd_ITime l0 x30_1).f0)), .lit (.int .i64 ((rd_ITime l0 x30_1).f1)), .lit (.int .i64 ((rd_ITime l0 x30_1).f2)), .lit (.int .i64 ((rd_ITime l0 x30_1).f3))] S ∧ Ap (.ptr i34 0) (.ptr i35 0) ∧ Ap (.ptr i34 0) (.ptr i37 0) ∧ Ap (.ptr i34 0) (.ptr i36 0) ∧ Ap (.ptr i34 0) pv13 ∧ Ap (.ptr i34 0) (.ptr i38 0) ∧ Ap (.ptr i34 0) pv14 ∧ Ap (.ptr i34 0) (.ptr i39 0) ∧ Ap (.ptr i34 0) (.ptr i40 0) ∧ Ap (.ptr i35 0) (.ptr i37 0) ∧ Ap (.ptr i35 0) (.ptr i36 0) ∧ Ap (.ptr i35 0) pv13 ∧ Ap (.ptr i35 0) (.ptr i38 0) ∧ Ap (.ptr i35 0) pv14 ∧ Ap (.ptr i35 0) (.ptr i39 0) ∧ Ap (.ptr i35 0) (.ptr i40 0) ∧ Ap (.ptr i37 0) (.ptr i36 0) ∧ Ap (.ptr i37 0) pv13 ∧ Ap (.ptr i37 0) (.ptr i38 0) ∧ Ap (.ptr i37 0) pv14 ∧ Ap (.ptr i37 0) (.ptr i39 0) ∧ Ap (.ptr i37 0) (.ptr i40 0) ∧ Ap (.ptr i36 0) pv13 ∧ Ap (.ptr i36 0) (.ptr i38 0) ∧ Ap (.ptr i36 0) pv14 ∧ Ap (.ptr i36 0) (.ptr i39 0) ∧ Ap (.ptr i36 0) (.ptr i40 0) ∧ Ap pv13 (.ptr i38 0) ∧ Ap pv13 pv14 ∧ Ap pv13 (.ptr i39 0) ∧ Ap pv13 (.ptr i40 0) ∧ Ap (.ptr i38 0) pv14 ∧ Ap (.ptr i38 0) (.ptr i39 0) ∧ Ap (.ptr i38 0) (.ptr i40 0) ∧ Ap pv14 (.ptr i39 0) ∧ Ap pv14 (.ptr i40 0) ∧ Ap (.ptr i39 0) (.ptr i40 0)) ?_ ?_ ?_)
     · exact ⟨Nat.le_refl _, _, _, _, _, _, _, _, _, _, _, _, H, ⟨rfl, rfl, rfl, rfl, rfl, rfl, rfl, rfl, rfl, rfl, rfl, rfl, trivial⟩, h115, h116, h118, h117, h120, h119, h122, h121, h123, ap124, ap125, ap126, ap127, ap128, ap129, ap130, ap131, ap132, ap133, ap134, ap135, ap136, ap137, ap138, ap139, ap140, ap141, ap142, ap143, ap144, ap145, ap146, ap147, ap148, ap149, ap150, ap151, ap152, ap153, ap154, ap155, ap156, ap157, ap158, ap159⟩
     ·
      rintro tm S ⟨_, _, _, _, _, _, _, _, _, _, _, _, H, -⟩
      simp [impl_timesOn.l5] at H
     ·
      rintro n4 ih4 tm S ⟨hle, x13b0q26_1, x17q16_1, i34, i35, i37, i36, pv13, i38, pv14, i39, i40, H, hh, h124, h125, h127, h126, h129, h128, h131, h130, h132, ap160, ap161, ap162, ap163, ap164, ap165, ap166, ap167, ap168, ap169, ap170, ap171, ap172, ap173, ap174, ap175, ap176, ap177, ap178, ap179, ap180, ap181, ap182, ap183, ap184, ap185, ap186, ap187, ap188, ap189, ap190, ap191, ap192, ap193, ap194, ap195⟩
      simp only [impl_timesOn.l5] at H
      rw [hh.eq]
      refine Evr.seq (Evr.sr rfl (Opl.p1 (n := Opl.p1 (n := Opl.nil ?_))))
      by_cases c12 : x17q16_1 ≥ 0
      case neg =>
       rw [if_neg c12] at H
       have e6 : (decide (x17q16_1 ≥ 0)) = false := by simpa using c12
       try rw [e6]
       refine Evr.condF rfl (Evr.exit rfl (Evr.inBlock (Evr.regionN rfl (Opl.add (k := .i64) (a := x51q8_1) (b := 1) K3 rfl rfl rfl rfl (Opl.one (v := .lit (.int .i64 (wrap64 (x51q8_1 + 1)))) rfl rfl rfl (Opl.nil ?_))))))
       exact ih3 _ (by omega) _ _ ⟨by omega, _, _, _, _, _, _, _, _, _, _, _, H, ⟨rfl, rfl, rfl, rfl, rfl, rfl, rfl, rfl, rfl, rfl, rfl, trivial⟩, h124, h125, h127, h126, h129, h128, h131, h130, h132, ap160, ap161, ap162, ap163, ap164, ap165, ap166, ap167, ap168, ap169, ap170, ap171, ap172, ap173, ap174, ap175, ap176, ap177, ap178, ap179, ap180, ap181, ap182, ap183, ap184, ap185, ap186, ap187, ap188, ap189, ap190, ap191, ap192, ap193, ap194, ap195⟩
      rw [if_pos c12] at H
      have e5 : (decide (x17q16_1 ≥ 0)) = true := by simpa using c12
      try rw [e5]
      refine Evr.condT rfl (Evr.skip (Evr.seq (Evr.block (Evr.regionL [(0, .q)] rfl (by kernel_rfl) (Opl.ldbk (v := pv14) h130 rd1 rfl T26 rfl rfl rfl rfl (Opl.p1 (n := Opl.p1 (n := Opl.p1 (n := ?_)))))))))
      obtain ⟨r2, h_r2, H⟩ := Option.bind_eq_some_iff.1 H
      obtain ⟨pv15, h133, -, h134⟩ := Out.vec h129
      obtain ⟨pv16, h135, -, h136⟩ := Out.vec h131
      refine Opl.callw (impl_timesOn_2.ev h134 h3 hv1 h136 h_r2) rfl rfl rfl (.cons (.refl _) (.cons (View.boxV h132 (.cons (.refl _) (.cons (.refl _) (.cons (.refl _) (.cons (.refl _) .nil))))) (.cons (View.boxV h128 (.cons h133 .nil)) (.cons (View.boxV h124 (.cons (.refl _) .nil)) (.cons (View.boxV h126 (.cons (View.fnV (.cons (View.boxV h125 (.cons (.refl _) .nil)) (.cons (View.boxV h127 (.cons (.refl _) .nil)) .nil))) .nil)) (.cons (View.boxV h130 (.cons h135 .nil)) .nil)))))) ⟨(.lit _), (.felL ⟨(.lit _), (.lit _), (.lit _), (.lit _), trivial⟩), (.felL ⟨h134.plain, trivial⟩), (.felL ⟨h3.plain, trivial⟩), (.felL ⟨(.fnL ⟨(.felL ⟨(.lit _), trivial⟩), (.felL ⟨hv1.plain, trivial⟩), trivial⟩), trivial⟩), (.felL ⟨h136.plain, trivial⟩), trivial⟩ (by decide) ?_
      obtain ⟨c13, H⟩ := peel H
      obtain ⟨c14, H⟩ := peel H
      refine Opl.idv (M := (cInt .i64)) (xs := x13b0q26_1) (j := x17q16_1) (v := pv14) h131 rfl rfl (by omega) (by omega) K26 Z3 rfl rfl ?_
      rintro d2 z2 q3 h137 h138
      refine Opl.stv (M := (cInt .i64)) (xs := x13b0q26_1) (j := x17q16_1) (y := r2) (vs := [.lit (.int .i64 r2)]) h137 h138 (by omega) (by omega) rfl rfl (by exact rfl) Z3 rfl rfl rfl rfl ?_
      rw [← q3]
      rintro S h139 u17
      have h140 := u17.box h124 ap165
      have h141 := u17.box h125 ap172
      have h142 := u17.box h127 ap178
      have h143 := u17.box h126 ap183
      have h144 := u17.vec h129 ap187
      have h145 := u17.box h128 ap190
      have h146 := u17.box h130 ap193.symm
      have h147 := u17.box h132 ap194.symm
      refine Opl.nil (Evr.inBlock (Evr.regionN rfl (Opl.p1 (n := Opl.subi (k := .i64) (a := x17q16_1) (b := 1) K3 rfl rfl rfl rfl (Opl.one (v := .lit (.int .i64 (wrap64 (x17q16_1 - 1)))) rfl rfl rfl (Opl.nil ?_))))))
      exact ih4 _ (by omega) _ _ ⟨by omega, _, _, _, _, _, _, _, _, _, _, _, H, ⟨rfl, rfl, rfl, rfl, rfl, rfl, rfl, rfl, rfl, rfl, rfl, rfl, trivial⟩, h140, h141, h142, h143, h144, h145, h139, h146, h147, ap160, ap161, ap162, ap163, ap164, ap165, ap166, ap167, ap168, ap169, ap170, ap171, ap172, ap173, ap174, ap175, ap176, ap177, ap178, ap179, ap180, ap181, ap182, ap183, ap184, ap185, ap186, ap187, ap188, ap189, ap190, ap191, ap192, ap193, ap194, ap195⟩
  ·
   by_cases c17 : ((rd_ITime l0 x30_1).f0) = 7
   case neg =>
    rw [if_neg c17] at H
    have e9 : (((rd_ITime l0 x30_1).f0) == 7) = false := by simpa using c17
    try rw [e9]
    refine Evr.condF rfl (Evr.skip ?_)
    exact hk1 _ _ ⟨_, _, _, _, _, _, _, _, _, _, _, H, by omega, ⟨rfl, rfl, rfl, rfl, rfl, rfl, rfl, rfl, rfl, rfl, rfl, trivial⟩, h78, h79, h80, h81, h82, h83, h85, h77, h84, ap16, ap17, ap18, ap19, ap20, ap37, ap44, ap31, ap21, ap22, ap23, ap24, ap38, ap45, ap32, ap25, ap26, ap27, ap39, ap46, ap33, ap28, ap29, ap40, ap47, ap34, ap30, ap41, ap48, ap35, ap42, ap49, ap36, ap51, ap43.symm, ap50.symm⟩
   rw [if_pos c17] at H
   have e8 : (((rd_ITime l0 x30_1).f0) == 7) = true := by simpa using c17
   try rw [e8]
   refine Evr.condT rfl (Evr.regionN rfl (Opl.p1 (n := Opl.nil ?_)))
   exact hk1 _ _ ⟨_, _, _, _, _, _, _, _, _, _, _, H, by omega, ⟨rfl, rfl, rfl, rfl, rfl, rfl, rfl, rfl, rfl, rfl, rfl, trivial⟩, h78, h79, h80, h81, h82, h83, h85, h77, h84, ap16, ap17, ap18, ap19, ap20, ap37, ap44, ap31, ap21, ap22, ap23, ap24, ap38, ap45, ap32, ap25, ap26, ap27, ap39, ap46, ap33, ap28, ap29, ap40, ap47, ap34, ap30, ap41, ap48, ap35, ap42, ap49, ap36, ap51, ap43.symm, ap50.symm⟩
theorem slices_Clone_int_int.ev {l0 : List Int} {v0 : PV} (hv0 : Sl (cInt .i64) l0 v0) {r : List Int} (H : slices_Clone_int_int.f l0 = some r) : Ret Try.prog 48 [v0] fun v S => Vec (cInt .i64) r v S := by
 unfold slices_Clone_int_int.f at H
 obtain ⟨c1, H⟩ := peel H
 obtain rfl := Option.some.inj H
 refine Ret.intro Try.func48 rfl (Nat.le_of_ble_eq_true rfl) rfl ?_
 rw [tm1]
 refine Evr.seq (Evr.regionN rfl (Opl.p1 (n := Opl.nil (Evr.seq (Evr.seq (Evr.regionN rfl (Opl.p1 (n := ?_))))))))
 obtain ⟨rfl, rfl⟩ | ⟨cs, rfl, hr⟩ := hv0
 · refine Opl.eqnil rfl K26 rfl rfl (Opl.nil (Evr.condT rfl (Evr.seq (Evr.regionN rfl (Opl.p1 (n := Opl.nil ?_))))))
   refine Evr.ret1 Try.func48 rfl ?_
   exact .nil
 · refine Opl.eqsl rfl K26 rfl rfl (Opl.nil (Evr.condF rfl (Evr.skip (Evr.seq (Evr.regionN rfl (Opl.lits (M := (cInt .i64)) (ys := []) [] K26 T3 rfl rfl rfl trivial rfl (by decide) rfl rfl rfl ?_))))))
   rintro pv1 S h1 u1 w1
   have hv0 : Sl (cInt .i64) l0 (.sl cs l0.length) := .inr ⟨cs, rfl, hr⟩
   refine Opl.p1 (n := Opl.app (M := (cInt .i64)) (xs := ([] : List Int)) (ys := l0) (v := pv1) h1 (.sl hv0) (oInt .i64) rfl rfl K26 T3 rfl rfl (by (try simp only [List.length_cons, List.length_nil]); omega) (by show (_ + _) * 8 ≤ 140737488355328; (try simp only [List.length_cons, List.length_nil]); omega) rfl rfl rfl rfl rfl ?_)
   rintro pv2 S h2 u2 w2
   refine Opl.p1 (n := Opl.nil ?_)
   refine Evr.ret1 Try.func48 rfl ?_
   rw [List.nil_append] at h2
   exact h2
theorem impl_GuessesAt.ev {k : Nat} {l0 : List ITime} {v0 : PV} (hv0 : Sl cITime l0 v0) {l1 : List (List Int)} {v1 : PV} (hv1 : Sl (cSl (cInt .i64)) l1 v1) {l2 : List (List Int)} {v2 : PV} (hv2 : Sl (cSl (cInt .i64)) l2 v2) {a3 : Int} {r : (List Int)} (H : impl_GuessesAt.f k l0 l1 l2 a3 = some r) : Ret Try.prog 11 [v0, v1, v2, .lit (.int .i64 a3)] fun v S => Vec (cInt .i64) r v S := by
 unfold impl_GuessesAt.f at H
 refine Ret.intro Try.func11 rfl (Nat.le_of_ble_eq_true rfl) rfl ?_
 rw [tm4]
 refine Evr.sr rfl (Opl.p1 (n := Opl.nil (Evr.sr rfl (Opl.p1 (n := Opl.p1 (n := ?_))))))
 obtain ⟨r1, h_r1, H⟩ := Option.bind_eq_some_iff.1 H
 refine Opl.call (impl_guessed.ev hv0 h_r1) rfl rfl rfl rfl ⟨hv0.plain, (.lit _), trivial⟩ (by decide) ?_
 rintro _ ⟨pv2, _, rfl, h2, rfl⟩
 refine Opl.p1 (n := Opl.p1 (v := pv2) (n := Opl.p1 (v := .lit (.bool r1.2)) (n := Opl.p1 (n := Opl.p1 (n := Opl.nil (Evr.seq (Evr.sr rfl (Opl.p1 (n := Opl.p1 (n := Opl.p1 (n := ?_)))))))))))
 by_cases c1 : r1.2 = true
 case neg =>
  rw [if_neg c1] at H
  have e8 : (!r1.2) = true := by simpa using c1
  try rw [e8]
  refine Opl.skp rfl (Opl.skp rfl (Opl.skp rfl (Opl.skp rfl (Opl.skp rfl (Opl.p1 (n := Opl.nil (Evr.condT rfl (Evr.sr rfl (Opl.p1 (n := Opl.nil ?_))))))))))
  obtain rfl := Option.some.inj H
  refine Evr.ret1 Try.func11 rfl ?_
  show Vec _ _ (.lit (.slice none 0 0)) _
  exact .nil
 rw [if_pos c1] at H
 have e1 : (!r1.2) = false := by simpa using c1
 try rw [e1]
 refine Opl.p1 (n := Opl.p1 (n := Opl.p1 (n := ?_)))
 obtain ⟨r2, h_r2, H⟩ := Option.bind_eq_some_iff.1 H
 refine Opl.callc (impl_WordValid.ev hv1 hv2 h_r2) rfl rfl rfl rfl ⟨hv1.plain, hv2.plain, (.lit _), trivial⟩ (by decide) (Opl.p1 (n := Opl.p1 (n := Opl.nil ?_)))
 by_cases c2 : r2 = true
 case neg =>
  rw [if_neg c2] at H
  have e7 : (!r2) = true := by simpa using c2
  try rw [e7]
  refine Evr.condT rfl (Evr.sr rfl (Opl.p1 (n := Opl.nil ?_)))
  obtain rfl := Option.some.inj H
  refine Evr.ret1 Try.func11 rfl ?_
  show Vec _ _ (.lit (.slice none 0 0)) _
  exact .nil
 rw [if_pos c2] at H
 have e2 : (!r2) = false := by simpa using c2
 try rw [e2]
 refine Evr.condF rfl (Evr.skip (Evr.sr rfl (Opl.p1 (n := Opl.p1 (n := Opl.p1 (n := ?_))))))
 obtain ⟨r3, h_r3, H⟩ := Option.bind_eq_some_iff.1 H
 refine Opl.call (impl_timesOn.ev hv0 hv1 hv2 h_r3) rfl rfl rfl rfl ⟨hv0.plain, hv1.plain, hv2.plain, trivial⟩ (by decide) ?_
 rintro pv3 h3
 refine Opl.p1 (n := Opl.nil (Evr.sr rfl (Opl.p1 (n := Opl.nil (Evr.seq (Evr.sr rfl (Opl.p1 (n := Opl.p1 (n := Opl.liti (M := (cSl (cSl (cInt .i64)))) (ys := [l1, l2]) [.tmp 37, .tmp 38] K95 T23 rfl rfl rfl (by exact ⟨⟨_, by first | rfl | exact hv1.cells, hv1⟩, ⟨_, by first | rfl | exact hv2.cells, hv2⟩, trivial⟩) rfl (by decide) rfl rfl ?_)))))))))
 rintro pv5 h4
 obtain ⟨r4, h_r4, H⟩ := Option.bind_eq_some_iff.1 H
 refine Opl.call ((slices_Concat_int_int.ev h4 h_r4).mono fun _ _ h => Out.vec h) rfl rfl rfl rfl ⟨h4.plain, trivial⟩ (by decide) ?_
 rintro pv6 h5
 refine Opl.len (xs := r4) (by exact h5) K23 rfl rfl rfl rfl (Opl.p1 (n := Opl.nil (Evr.block ?_)))
 refine Evr.loop (Evr.rounds (n := k) (Inv := fun n tm S => n ≤ k ∧ ∃ (x12_1 : List Int) (x42_1 : Int) (pv7 : PV), impl_GuessesAt.l1 n x12_1 x42_1 r1 r3 r4 = some r ∧ Has tm [(9, pv2), (11, pv3), (12, pv7), (40, pv6), (41, .lit (.int .i64 (r4.length : Int))), (42, .lit (.int .i64 x42_1))] ∧ Vec (cInt .i64) x12_1 pv7 S) ?_ ?_ ?_)
 · exact ⟨Nat.le_refl _, _, _, _, H, ⟨rfl, rfl, rfl, rfl, rfl, rfl, trivial⟩, .nil⟩
 ·
  rintro tm S ⟨_, _, _, _, H, -⟩
  simp [impl_GuessesAt.l1] at H
 ·
  rintro n1 ih1 tm S ⟨hle, x12_1, x42_1, pv7, H, hh, h6⟩
  simp only [impl_GuessesAt.l1] at H
  rw [hh.eq]
  refine Evr.sr rfl (Opl.p1 (n := Opl.nil (Evr.seq ?_)))
  by_cases c3 : x42_1 < (r4.length : Int)
  case neg =>
   rw [if_neg c3] at H
   have e6 : (decide (x42_1 < (r4.length : Int))) = false := by simpa using c3
   try rw [e6]
   refine Evr.condF rfl (Evr.exit rfl (Evr.sr rfl (Opl.p1 (n := ?_))))
   obtain ⟨r7, h_r7, H⟩ := Option.bind_eq_some_iff.1 H
   obtain ⟨pv20, h25, -, h26⟩ := Out.vec h6
   refine Opl.callav (sInt .i64) (impl_clone_int.ev h26 h_r7) rfl rfl rfl (.cons h25 .nil) ⟨h26.plain, trivial⟩ rfl ?_
   rintro pv21 S h27 u4 w4
   have ap5 := w4.vec h6
   have h28 := u4.vec h6 ap5
   refine Opl.p1 (n := Opl.nil ?_)
   obtain rfl := Option.some.inj H
   refine Evr.ret1 Try.func11 rfl ?_
   show Vec _ _ pv21 _
   exact h27
  rw [if_pos c3] at H
  have e3 : (decide (x42_1 < (r4.length : Int))) = true := by simpa using c3
  try rw [e3]
  refine Evr.condT rfl (Evr.skip (Evr.seq (Evr.block (Evr.sr rfl (Opl.p1 (n := ?_))))))
  obtain ⟨c4, H⟩ := peel H
  obtain ⟨c5, H⟩ := peel H
  refine Opl.idx (M := (cSl (cInt .i64))) (xs := r4) (j := x42_1) ([] : List Int) (by exact h5) rfl (by omega) (by omega) K23 Z26 rfl rfl ?_
  rintro p1 q1 h7
  obtain ⟨pv8, rfl, h8⟩ := h7
  refine Opl.lda (pv8) rfl T26 rfl rfl rfl rfl (Opl.p1 (n := Opl.p1 (n := Opl.nil (Evr.sr rfl (Opl.p1 (n := ?_))))))
  obtain ⟨r5, h_r5, H⟩ := Option.bind_eq_some_iff.1 H
  refine Opl.calla (slices_Clone_int_int.ev h8 h_r5) rfl rfl rfl rfl ⟨h8.plain, trivial⟩ rfl ?_
  rintro pv9 S h9 u1 w1
  have ap1 := w1.vec h6
  have h10 := u1.vec h6 ap1
  refine Opl.p1 (n := Opl.nil (Evr.seq (Evr.sr rfl (Opl.p1 (n := Opl.len (xs := r1.1) (by exact h2) K26 rfl rfl rfl rfl (Opl.p1 (n := Opl.nil (Evr.block ?_))))))))
  refine Evr.loop (Evr.rounds (n := n1) (Inv := fun n tm S => n ≤ n1 ∧ ∃ (x15q2_1 : List Int) (x51q2_1 : Int) (pv10 : PV) (pv11 : PV), impl_GuessesAt.l2 n x15q2_1 x51q2_1 r1 r3 r4 x12_1 x42_1 = some r ∧ Has tm [(9, pv2), (11, pv3), (12, pv10), (13, .lit (.int .i64 x42_1)), (15, pv11), (40, pv6), (41, .lit (.int .i64 (r4.length : Int))), (42, .lit (.int .i64 x42_1)), (49, pv2), (50, .lit (.int .i64 (r1.1.length : Int))), (51, .lit (.int .i64 x51q2_1))] ∧ Vec (cInt .i64) x12_1 pv10 S ∧ Vec (cInt .i64) x15q2_1 pv11 S ∧ Ap pv10 pv11) ?_ ?_ ?_)
  · exact ⟨Nat.le_refl _, _, _, _, _, H, ⟨rfl, rfl, rfl, rfl, rfl, rfl, rfl, rfl, rfl, rfl, rfl, trivial⟩, h10, h9, ap1⟩
  ·
   rintro tm S ⟨_, _, _, _, _, H, -⟩
   simp [impl_GuessesAt.l2] at H
  ·
   rintro n2 ih2 tm S ⟨hle, x15q2_1, x51q2_1, pv10, pv11, H, hh, h11, h12, ap2⟩
   simp only [impl_GuessesAt.l2] at H
   rw [hh.eq]
   refine Evr.sr rfl (Opl.p1 (n := Opl.nil (Evr.seq ?_)))
   by_cases c6 : x51q2_1 < (r1.1.length : Int)
   case neg =>
    rw [if_neg c6] at H
    have e5 : (decide (x51q2_1 < (r1.1.length : Int))) = false := by simpa using c6
    try rw [e5]
    refine Evr.condF rfl (Evr.exit rfl (Evr.regionN rfl (Opl.p1 (n := Opl.p1 (n := ?_)))))
    obtain ⟨r6, h_r6, H⟩ := Option.bind_eq_some_iff.1 H
    obtain ⟨pv16, h20, -, h21⟩ := Out.vec h12
    refine Opl.callw (impl_bitsValue.ev h21 h_r6) rfl rfl rfl (.cons h20 .nil) ⟨h21.plain, trivial⟩ (by decide) (Opl.liti (M := (cInt .i64)) (ys := [r6]) [.tmp 68] K26 T3 rfl rfl rfl (by exact ⟨rfl, trivial⟩) rfl (by decide) rfl rfl ?_)
    rintro pv18 h22
    obtain ⟨c14, H⟩ := peel H
    refine Opl.app (M := (cInt .i64)) (xs := x12_1) (ys := [r6]) (v := pv10) h11 (.sl h22) (oInt .i64) rfl rfl K26 T3 rfl rfl (by (try simp only [List.length_cons, List.length_nil]); omega) (by show (_ + _) * 8 ≤ 140737488355328; (try simp only [List.length_cons, List.length_nil]); omega) rfl rfl rfl rfl rfl ?_
    rintro pv19 S h23 u3 w3
    have ap4 := w3.vec h12
    have h24 := u3.vec h12 ap2.symm
    refine Opl.p1 (n := Opl.nil (Evr.inBlock (Evr.regionN rfl (Opl.add (k := .i64) (a := x42_1) (b := 1) K3 rfl rfl rfl rfl (Opl.one (v := .lit (.int .i64 (wrap64 (x42_1 + 1)))) rfl rfl rfl (Opl.nil ?_))))))
    exact ih1 _ (by omega) _ _ ⟨by omega, _, _, _, H, ⟨rfl, rfl, rfl, rfl, rfl, rfl, trivial⟩, h23⟩
   rw [if_pos c6] at H
   have e4 : (decide (x51q2_1 < (r1.1.length : Int))) = true := by simpa using c6
   try rw [e4]
   refine Evr.condT rfl (Evr.skip (Evr.seq (Evr.block (Evr.sr rfl ?_))))
   obtain ⟨c7, H⟩ := peel H
   obtain ⟨c8, H⟩ := peel H
   obtain ⟨c9, H⟩ := peel H
   obtain ⟨c10, H⟩ := peel H
   obtain ⟨c11, H⟩ := peel H
   obtain ⟨c12, H⟩ := peel H
   obtain ⟨c13, H⟩ := peel H
   refine Opl.idx (M := (cInt .i64)) (xs := r1.1) (j := x51q2_1) (0 : Int) (by exact h2) rfl (by omega) (by omega) K26 Z3 rfl rfl ?_
   rintro p2 q2 h13
   obtain rfl : p2 = [.lit (.int .i64 (rd r1.1 x51q2_1))] := h13
   refine Opl.lda (.lit (.int .i64 (rd r1.1 x51q2_1))) rfl T3 rfl rfl rfl rfl (Opl.p1 (n := Opl.nil (Evr.regionN rfl (Opl.p1 (n := Opl.p1 (n := Opl.p1 (n := Opl.idx (M := (cSl (cInt .i64))) (xs := r3) (j := (rd r1.1 x51q2_1)) ([] : List Int) (by exact h3) rfl (by omega) (by omega) K23 Z26 rfl rfl ?_)))))))
   rintro p3 q3 h14
   obtain ⟨pv12, rfl, h15⟩ := h14
   refine Opl.lda (pv12) rfl T26 rfl rfl rfl rfl (Opl.p1 (n := Opl.idx (M := (cInt .i64)) (xs := (rd_Lint r3 (rd r1.1 x51q2_1))) (j := x42_1) (0 : Int) (by exact h15) rfl (by omega) (by omega) K26 Z3 rfl rfl ?_))
   rintro p4 q4 h16
   obtain rfl : p4 = [.lit (.int .i64 (rd (rd_Lint r3 (rd r1.1 x51q2_1)) x42_1))] := h16
   refine Opl.lda (.lit (.int .i64 (rd (rd_Lint r3 (rd r1.1 x51q2_1)) x42_1))) rfl T3 rfl rfl rfl rfl (Opl.liti (M := (cInt .i64)) (ys := [(rd (rd_Lint r3 (rd r1.1 x51q2_1)) x42_1)]) [.tmp 62] K26 T3 rfl rfl rfl (by exact ⟨rfl, trivial⟩) rfl (by decide) rfl rfl ?_)
   rintro pv14 h17
   refine Opl.app (M := (cInt .i64)) (xs := x15q2_1) (ys := [(rd (rd_Lint r3 (rd r1.1 x51q2_1)) x42_1)]) (v := pv11) h12 (.sl h17) (oInt .i64) rfl rfl K26 T3 rfl rfl (by (try simp only [List.length_cons, List.length_nil]); omega) (by show (_ + _) * 8 ≤ 140737488355328; (try simp only [List.length_cons, List.length_nil]); omega) rfl rfl rfl rfl rfl ?_
   rintro pv15 S h18 u2 w2
   have ap3 := w2.vec h11
   have h19 := u2.vec h11 ap2
   refine Opl.p1 (n := Opl.nil (Evr.inBlock (Evr.regionN rfl (Opl.add (k := .i64) (a := x51q2_1) (b := 1) K3 rfl rfl rfl rfl (Opl.one (v := .lit (.int .i64 (wrap64 (x51q2_1 + 1)))) rfl rfl rfl (Opl.nil ?_))))))
   exact ih2 _ (by omega) _ _ ⟨by omega, _, _, _, _, H, ⟨rfl, rfl, rfl, rfl, rfl, rfl, rfl, rfl, rfl, rfl, rfl, trivial⟩, h19, h18, ap3⟩
end Go.Proofs.Ytikjlbanfbkhmaa.PA
end
