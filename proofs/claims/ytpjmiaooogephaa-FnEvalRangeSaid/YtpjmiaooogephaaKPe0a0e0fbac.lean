/- Walks of Go functions: each is shown to answer as the Lean function beside it tells, under the conditions that its theorem names. -/
import Derived.Test.YtpjmiaooogephaaProg
import Derived.KernelRfl
import Derived.Below
import Derived.Deep.Draws
import Derived.Deep.AppendLies
import Derived.Maps.AppendAt
import Derived.OwnWalk
import Derived.Laws.BytesArg
import Derived.Laws.MakeOwn
import Derived.Laws.OwnMore
import Derived.Deep.OwnRows
import Derived.Tactics
import Derived.Lib.ConvBytes
import Derived.Laws.Slices
import Derived.WalkKit
import Derived.RowKit3
import Derived.Deep.LoopGhost
import Derived.Deep.QuietTactic
import Derived.BigQuiet
import Derived.WideLaws
import Derived.Deep.DeepCutAuto
import Derived.Deep.CutBlock
import Derived.Deep.RegionHeld3
import Derived.Laws.Rows
import Derived.Lib.AppendStr
import Derived.ArgAppend
import Derived.Laws.IdiomCopy
import Derived.OrdersHeld
import Derived.Laws.BitsLemmas
import Derived.RowKit
import Derived.Laws.StructEq
import Derived.Lib.SliceRun
import Derived.WalkSpells
import Derived.ChangeArms
import Derived.ChangeSlices
import Derived.Deep.Slices
import Derived.Attr
import Derived.Laws.Append
import Derived.Laws.AppendOwn
import Derived.Laws.Entries
import Derived.Calls
import Derived.Laws.Sem
import Derived.Test.YtpjmiaooogephaaKWf34eb704e6
import Derived.Test.YtpjmiaooogephaaKD470f0ddf8f
section
namespace Go.Proofs.Ytpjmiaooogephaa.PA
open Go Go.Abs Go.RowKit Go.Proofs Go.Proofs.YtpjmiaooogephaaW.PrintWords Go.Proofs.YtpjmiaooogephaaW.PrintLast Go.Proofs.YtpjmiaooogephaaW.PrintMore
set_option maxRecDepth 100000
theorem K3 : tkAt Try.prog 3 = some (.int .i64) := by kernel_rfl
theorem Z3 : szAt Try.prog 3 = some 1 := by kernel_rfl
theorem T3 : tiOf Try.prog 3 = some ⟨(.int .i64), 1, 8, [.int .i64 0], []⟩ := by kernel_rfl
theorem K4 : tkAt Try.prog 4 = some .bool := by kernel_rfl
theorem Z4 : szAt Try.prog 4 = some 1 := by kernel_rfl
theorem T4 : tiOf Try.prog 4 = some ⟨.bool, 1, 1, [.bool false], []⟩ := by kernel_rfl
theorem K5 : tkAt Try.prog 5 = some (.int .u8) := by kernel_rfl
theorem Z5 : szAt Try.prog 5 = some 1 := by kernel_rfl
theorem T5 : tiOf Try.prog 5 = some ⟨(.int .u8), 1, 1, [.int .u8 0], []⟩ := by kernel_rfl
theorem K22 : tkAt Try.prog 22 = some (.slice 5) := by kernel_rfl
theorem Z22 : szAt Try.prog 22 = some 1 := by kernel_rfl
theorem T22 : tiOf Try.prog 22 = some ⟨(.slice 5), 1, 24, [.slice none 0 0], []⟩ := by kernel_rfl
theorem K23 : tkAt Try.prog 23 = some (.slice 101) := by kernel_rfl
theorem Z23 : szAt Try.prog 23 = some 1 := by kernel_rfl
theorem T23 : tiOf Try.prog 23 = some ⟨(.slice 101), 1, 24, [.slice none 0 0], []⟩ := by kernel_rfl
theorem K24 : tkAt Try.prog 24 = some (.slice 106) := by kernel_rfl
theorem Z24 : szAt Try.prog 24 = some 1 := by kernel_rfl
theorem T24 : tiOf Try.prog 24 = some ⟨(.slice 106), 1, 24, [.slice none 0 0], []⟩ := by kernel_rfl
theorem K26 : tkAt Try.prog 26 = some .strct := by kernel_rfl
theorem Z26 : szAt Try.prog 26 = some 2 := by kernel_rfl
theorem T26 : tiOf Try.prog 26 = some ⟨.strct, 2, 48, [.slice none 0 0, .slice none 0 0], [⟨0, 1, (.slice 101)⟩, ⟨1, 1, (.slice 106)⟩]⟩ := by kernel_rfl
theorem K27 : tkAt Try.prog 27 = some (.slice 3) := by kernel_rfl
theorem Z27 : szAt Try.prog 27 = some 1 := by kernel_rfl
theorem T27 : tiOf Try.prog 27 = some ⟨(.slice 3), 1, 24, [.slice none 0 0], []⟩ := by kernel_rfl
theorem K30 : tkAt Try.prog 30 = some (.slice 27) := by kernel_rfl
theorem Z30 : szAt Try.prog 30 = some 1 := by kernel_rfl
theorem T30 : tiOf Try.prog 30 = some ⟨(.slice 27), 1, 24, [.slice none 0 0], []⟩ := by kernel_rfl
theorem K42 : tkAt Try.prog 42 = some .strct := by kernel_rfl
theorem Z42 : szAt Try.prog 42 = some 2 := by kernel_rfl
theorem T42 : tiOf Try.prog 42 = some ⟨.strct, 2, 48, [.slice none 0 0, .slice none 0 0], [⟨0, 1, (.slice 27)⟩, ⟨1, 1, (.slice 3)⟩]⟩ := by kernel_rfl
theorem K53 : tkAt Try.prog 53 = some (.slice 153) := by kernel_rfl
theorem Z53 : szAt Try.prog 53 = some 1 := by kernel_rfl
theorem T53 : tiOf Try.prog 53 = some ⟨(.slice 153), 1, 24, [.slice none 0 0], []⟩ := by kernel_rfl
theorem K54 : tkAt Try.prog 54 = some (.slice 151) := by kernel_rfl
theorem Z54 : szAt Try.prog 54 = some 1 := by kernel_rfl
theorem T54 : tiOf Try.prog 54 = some ⟨(.slice 151), 1, 24, [.slice none 0 0], []⟩ := by kernel_rfl
theorem K56 : tkAt Try.prog 56 = some .strct := by kernel_rfl
theorem Z56 : szAt Try.prog 56 = some 2 := by kernel_rfl
theorem T56 : tiOf Try.prog 56 = some ⟨.strct, 2, 48, [.slice none 0 0, .slice none 0 0], [⟨0, 1, (.slice 153)⟩, ⟨1, 1, (.slice 151)⟩]⟩ := by kernel_rfl
theorem K66 : tkAt Try.prog 66 = some (.slice 128) := by kernel_rfl
theorem Z66 : szAt Try.prog 66 = some 1 := by kernel_rfl
theorem T66 : tiOf Try.prog 66 = some ⟨(.slice 128), 1, 24, [.slice none 0 0], []⟩ := by kernel_rfl
theorem K73 : tkAt Try.prog 73 = some (.ptr 135) := by kernel_rfl
theorem Z73 : szAt Try.prog 73 = some 1 := by kernel_rfl
theorem T73 : tiOf Try.prog 73 = some ⟨(.ptr 135), 1, 8, [.pointer none], []⟩ := by kernel_rfl
theorem K86 : tkAt Try.prog 86 = some .func := by kernel_rfl
theorem Z86 : szAt Try.prog 86 = some 1 := by kernel_rfl
theorem T86 : tiOf Try.prog 86 = some ⟨.func, 1, 8, [.nilFunc], []⟩ := by kernel_rfl
theorem K89 : tkAt Try.prog 89 = some .func := by kernel_rfl
theorem Z89 : szAt Try.prog 89 = some 1 := by kernel_rfl
theorem T89 : tiOf Try.prog 89 = some ⟨.func, 1, 8, [.nilFunc], []⟩ := by kernel_rfl
theorem K91 : tkAt Try.prog 91 = some (.slice 4) := by kernel_rfl
theorem Z91 : szAt Try.prog 91 = some 1 := by kernel_rfl
theorem T91 : tiOf Try.prog 91 = some ⟨(.slice 4), 1, 24, [.slice none 0 0], []⟩ := by kernel_rfl
theorem K101 : tkAt Try.prog 101 = some .strct := by kernel_rfl
theorem Z101 : szAt Try.prog 101 = some 3 := by kernel_rfl
theorem T101 : tiOf Try.prog 101 = some ⟨.strct, 3, 24, [.int .i64 0, .int .i64 0, .int .i64 0], [⟨0, 1, (.int .i64)⟩, ⟨1, 1, (.int .i64)⟩, ⟨2, 1, (.int .i64)⟩]⟩ := by kernel_rfl
theorem K102 : tkAt Try.prog 102 = some .func := by kernel_rfl
theorem Z102 : szAt Try.prog 102 = some 1 := by kernel_rfl
theorem T102 : tiOf Try.prog 102 = some ⟨.func, 1, 8, [.nilFunc], []⟩ := by kernel_rfl
theorem K104 : tkAt Try.prog 104 = some (.slice 66) := by kernel_rfl
theorem Z104 : szAt Try.prog 104 = some 1 := by kernel_rfl
theorem T104 : tiOf Try.prog 104 = some ⟨(.slice 66), 1, 24, [.slice none 0 0], []⟩ := by kernel_rfl
theorem K106 : tkAt Try.prog 106 = some .strct := by kernel_rfl
theorem Z106 : szAt Try.prog 106 = some 3 := by kernel_rfl
theorem T106 : tiOf Try.prog 106 = some ⟨.strct, 3, 72, [.slice none 0 0, .slice none 0 0, .slice none 0 0], [⟨0, 1, (.slice 128)⟩, ⟨1, 1, (.slice 3)⟩, ⟨2, 1, (.slice 66)⟩]⟩ := by kernel_rfl
theorem K108 : tkAt Try.prog 108 = some .func := by kernel_rfl
theorem Z108 : szAt Try.prog 108 = some 1 := by kernel_rfl
theorem T108 : tiOf Try.prog 108 = some ⟨.func, 1, 8, [.nilFunc], []⟩ := by kernel_rfl
theorem K124 : tkAt Try.prog 124 = some .func := by kernel_rfl
theorem Z124 : szAt Try.prog 124 = some 1 := by kernel_rfl
theorem T124 : tiOf Try.prog 124 = some ⟨.func, 1, 8, [.nilFunc], []⟩ := by kernel_rfl
theorem K126 : tkAt Try.prog 126 = some (.slice 130) := by kernel_rfl
theorem Z126 : szAt Try.prog 126 = some 1 := by kernel_rfl
theorem T126 : tiOf Try.prog 126 = some ⟨(.slice 130), 1, 24, [.slice none 0 0], []⟩ := by kernel_rfl
theorem K128 : tkAt Try.prog 128 = some .strct := by kernel_rfl
theorem Z128 : szAt Try.prog 128 = some 4 := by kernel_rfl
theorem T128 : tiOf Try.prog 128 = some ⟨.strct, 4, 32, [.int .i64 0, .int .i64 0, .int .i64 0, .int .i64 0], [⟨0, 1, (.int .i64)⟩, ⟨1, 1, (.int .i64)⟩, ⟨2, 1, (.int .i64)⟩, ⟨3, 1, (.int .i64)⟩]⟩ := by kernel_rfl
theorem K130 : tkAt Try.prog 130 = some .strct := by kernel_rfl
theorem Z130 : szAt Try.prog 130 = some 2 := by kernel_rfl
theorem T130 : tiOf Try.prog 130 = some ⟨.strct, 2, 16, [.int .i64 0, .int .i64 0], [⟨0, 1, (.int .i64)⟩, ⟨1, 1, (.int .i64)⟩]⟩ := by kernel_rfl
theorem K135 : tkAt Try.prog 135 = some .strct := by kernel_rfl
theorem Z135 : szAt Try.prog 135 = some 2 := by kernel_rfl
theorem T135 : tiOf Try.prog 135 = some ⟨.strct, 2, 32, [.slice none 0 0, .int .i64 0], [⟨0, 1, (.slice 5)⟩, ⟨1, 1, (.int .i64)⟩]⟩ := by kernel_rfl
theorem K148 : tkAt Try.prog 148 = some (.slice 180) := by kernel_rfl
theorem Z148 : szAt Try.prog 148 = some 1 := by kernel_rfl
theorem T148 : tiOf Try.prog 148 = some ⟨(.slice 180), 1, 24, [.slice none 0 0], []⟩ := by kernel_rfl
theorem K149 : tkAt Try.prog 149 = some (.slice 148) := by kernel_rfl
theorem Z149 : szAt Try.prog 149 = some 1 := by kernel_rfl
theorem T149 : tiOf Try.prog 149 = some ⟨(.slice 148), 1, 24, [.slice none 0 0], []⟩ := by kernel_rfl
theorem K151 : tkAt Try.prog 151 = some .strct := by kernel_rfl
theorem Z151 : szAt Try.prog 151 = some 3 := by kernel_rfl
theorem T151 : tiOf Try.prog 151 = some ⟨.strct, 3, 72, [.slice none 0 0, .slice none 0 0, .slice none 0 0], [⟨0, 1, (.slice 180)⟩, ⟨1, 1, (.slice 3)⟩, ⟨2, 1, (.slice 148)⟩]⟩ := by kernel_rfl
theorem K153 : tkAt Try.prog 153 = some .strct := by kernel_rfl
theorem Z153 : szAt Try.prog 153 = some 3 := by kernel_rfl
theorem T153 : tiOf Try.prog 153 = some ⟨.strct, 3, 24, [.int .i64 0, .int .i64 0, .int .i64 0], [⟨0, 1, (.int .i64)⟩, ⟨1, 1, (.int .i64)⟩, ⟨2, 1, (.int .i64)⟩]⟩ := by kernel_rfl
theorem K180 : tkAt Try.prog 180 = some .strct := by kernel_rfl
theorem Z180 : szAt Try.prog 180 = some 4 := by kernel_rfl
theorem T180 : tiOf Try.prog 180 = some ⟨.strct, 4, 32, [.int .i64 0, .int .i64 0, .int .i64 0, .int .i64 0], [⟨0, 1, (.int .i64)⟩, ⟨1, 1, (.int .i64)⟩, ⟨2, 1, (.int .i64)⟩, ⟨3, 1, (.int .i64)⟩]⟩ := by kernel_rfl
theorem O130 : structOffs Try.prog 130 = some [0, 1] := by kernel_rfl
def cITerm : Cd ITerm := cIso (cPair (cInt .i64) (cPair (cInt .i64) (cPair (cInt .i64) (cInt .i64)))) (fun x => (x.f0, x.f1, x.f2, x.f3))
theorem oITerm : cITerm.Ones := oIso (oPair (oInt .i64) (oPair (oInt .i64) (oPair (oInt .i64) (oInt .i64))))
theorem cITerm_R {x : ITerm} {c : List PV} (h : cITerm.R x c) : c = [.lit (.int .i64 x.f0), .lit (.int .i64 x.f1), .lit (.int .i64 x.f2), .lit (.int .i64 x.f3)] := by
  obtain ⟨p0, q0, e0, g0, r0⟩ := h
  obtain ⟨p1, q1, e1, g1, r1⟩ := r0
  obtain ⟨p2, q2, e2, g2, r2⟩ := r1
  have g0' : p0 = _ := g0
  have g1' : p1 = _ := g1
  have g2' : p2 = _ := g2
  have g3' : q2 = _ := r2
  rw [e0, g0', e1, g1', e2, g2', g3']; rfl
theorem cITerm_mk {a0 : Int} {a1 : Int} {a2 : Int} {a3 : Int}  : cITerm.R ⟨a0, a1, a2, a3⟩ [.lit (.int .i64 a0), .lit (.int .i64 a1), .lit (.int .i64 a2), .lit (.int .i64 a3)] := ⟨_, _, rfl, rfl, ⟨_, _, rfl, rfl, ⟨_, _, rfl, rfl, rfl⟩⟩⟩
def cIspan : Cd Ispan := cIso (cPair (cInt .i64) (cInt .i64)) (fun x => (x.f0, x.f1))
theorem cIspan_R {x : Ispan} {c : List PV} (h : cIspan.R x c) : c = [.lit (.int .i64 x.f0), .lit (.int .i64 x.f1)] := by
  obtain ⟨p0, q0, e0, g0, r0⟩ := h
  have g0' : p0 = _ := g0
  have g1' : q0 = _ := r0
  rw [e0, g0', g1']; rfl
theorem cIspan_mk {a0 : Int} {a1 : Int}  : cIspan.R ⟨a0, a1⟩ [.lit (.int .i64 a0), .lit (.int .i64 a1)] := ⟨_, _, rfl, rfl, rfl⟩
theorem cIspan_z : cIspan.R zIspan (([.int .i64 0, .int .i64 0] : List Value).map .lit) := ⟨_, _, rfl, rfl, rfl⟩
attribute [go_sem] K3 Z3 T3 K4 Z4 T4 K5 Z5 T5 K22 Z22 T22 K23 Z23 T23 K24 Z24 T24 K26 Z26 T26 K27 Z27 T27 K30 Z30 T30 K42 Z42 T42 K53 Z53 T53 K54 Z54 T54 K56 Z56 T56 K66 Z66 T66 K73 Z73 T73 K86 Z86 T86 K89 Z89 T89 K91 Z91 T91 K101 Z101 T101 K102 Z102 T102 K104 Z104 T104 K106 Z106 T106 K108 Z108 T108 K124 Z124 T124 K126 Z126 T126 K128 Z128 T128 K130 Z130 T130 K135 Z135 T135 K148 Z148 T148 K149 Z149 T149 K151 Z151 T151 K153 Z153 T153 K180 Z180 T180
end Go.Proofs.Ytpjmiaooogephaa.PA
end
section
namespace Go.Proofs.Ytpjmiaooogephaa.PA
open Go Go.Abs Go.RowKit Go.Proofs Go.Proofs.YtpjmiaooogephaaW.PrintWords Go.Proofs.YtpjmiaooogephaaW.PrintLast Go.Proofs.YtpjmiaooogephaaW.PrintMore
set_option maxRecDepth 100000
set_option maxHeartbeats 4000000
set_option linter.unusedVariables false
set_option linter.unusedSimpArgs false
theorem impl_in.ev {a0 : Int} {a1 : Int} {a2 : Int} {r : Bool} (H : impl_in.f a0 a1 a2 = some r) : Ret Try.prog 85 [.lit (.int .i64 a0), .lit (.int .i64 a1), .lit (.int .i64 a2)] fun v S => v = .lit (.bool r) := by
 unfold impl_in.f at H
 refine Ret.intro Try.func85 rfl (Nat.le_of_ble_eq_true rfl) rfl ?_
 rw [tm3]
 refine Evr.sr rfl (Opl.p1 (n := Opl.nil (Evr.sr rfl (Opl.p1 (n := Opl.p1 (n := Opl.p1 (n := Opl.p1 (n := ?_))))))))
 by_cases c1 : a0 ≥ a1
 case neg =>
  rw [if_neg c1] at H
  have e2 : (decide (a0 ≥ a1)) = false := by simpa using c1
  try rw [e2]
  refine Opl.skp rfl (Opl.skp rfl (Opl.skp rfl (Opl.p1 (n := Opl.p1 (n := Opl.nil ?_)))))
  obtain rfl := Option.some.inj H
  refine Evr.ret1 Try.func85 rfl ?_
  show (.lit (.bool false) : PV) = _
  first | rfl | (simp only [go_sem]; rfl)
 rw [if_pos c1] at H
 have e1 : (decide (a0 ≥ a1)) = true := by simpa using c1
 try rw [e1]
 refine Opl.p1 (n := Opl.p1 (n := Opl.p1 (n := Opl.p1 (n := Opl.p1 (n := Opl.nil ?_)))))
 obtain rfl := Option.some.inj H
 refine Evr.ret1 Try.func85 rfl ?_
 show (.lit (.bool (decide (a0 ≤ a2))) : PV) = _
 first | rfl | (simp only [go_sem]; rfl)
theorem impl_parts.ev {k : Nat} {a0 : Int} {r : Int × Int × Int} (H : impl_parts.f k a0 = some r) : Ret Try.prog 198 [.lit (.int .i64 a0)] fun v S => Out (fun q => ∃ q1 q2 q3, q = .tup [q1, q2, q3] ∧ q1 = .lit (.int .i64 r.1) ∧ q2 = .lit (.int .i64 r.2.1) ∧ q3 = .lit (.int .i64 r.2.2)) v S := by
 unfold impl_parts.f at H
 refine Ret.intro Try.func198 rfl (Nat.le_of_ble_eq_true rfl) rfl ?_
 rw [tm1]
 refine Evr.sr rfl (Opl.p1 (n := Opl.p1 (n := Opl.p1 (n := Opl.nil (Evr.seq (Evr.sr rfl (Opl.p1 (n := Opl.nil (Evr.block (Evr.seq (Evr.sr rfl (Opl.p1 (n := Opl.p1 (n := Opl.nil ?_))))))))))))))
 refine Evr.join (fun tm S => ∃ (kq1 : Nat) (x6_1 : Bool), impl_parts.j0 kq1 a0 x6_1 = some r ∧ Has tm [(5, .lit (.int .i64 a0)), (6, .lit (.bool x6_1))]) ?_ fun hk1 => ?_
 ·
  rintro tm S ⟨kq1, x6_1, H, hh⟩
  rw [hh.eq]
  obtain _ | k1 := kq1
  · simp [impl_parts.j0] at H
  simp only [impl_parts.j0] at H
  by_cases c1 : x6_1 = true
  case pos =>
   rw [if_pos c1] at H
   obtain rfl : x6_1 = true := by simpa using c1
   refine Evr.condT rfl (Evr.sr rfl (Opl.p1 (n := Opl.p1 (n := Opl.p1 (n := Opl.nil ?_)))))
   obtain rfl := Option.some.inj H
   refine Evr.ret3 Try.func198 rfl ?_
   show Out _ (.tup [.lit (.int .i64 2), .lit (.int .i64 1), .lit (.int .i64 1)]) _
   exact .tup3 .lit .lit .lit
  rw [if_neg c1] at H
  obtain rfl : x6_1 = false := by simpa using c1
  refine Evr.condF rfl (Evr.seq (Evr.sr rfl (Opl.p1 (n := Opl.p1 (n := Opl.nil ?_)))))
  refine Evr.join (fun tm S => ∃ (kq2 : Nat) (x10_1 : Bool), impl_parts.j1 kq2 a0 x10_1 = some r ∧ Has tm [(5, .lit (.int .i64 a0)), (10, .lit (.bool x10_1))]) ?_ fun hk2 => ?_
  ·
   rintro tm S ⟨kq2, x10_1, H, hh⟩
   rw [hh.eq]
   obtain _ | k2 := kq2
   · simp [impl_parts.j1] at H
   simp only [impl_parts.j1] at H
   by_cases c2 : x10_1 = true
   case pos =>
    rw [if_pos c2] at H
    obtain rfl : x10_1 = true := by simpa using c2
    refine Evr.condT rfl (Evr.sr rfl (Opl.p1 (n := Opl.p1 (n := Opl.p1 (n := Opl.nil ?_)))))
    obtain rfl := Option.some.inj H
    refine Evr.ret3 Try.func198 rfl ?_
    show Out _ (.tup [.lit (.int .i64 2), .lit (.int .i64 1), .lit (.int .i64 2)]) _
    exact .tup3 .lit .lit .lit
   rw [if_neg c2] at H
   obtain rfl : x10_1 = false := by simpa using c2
   refine Evr.condF rfl (Evr.sr rfl (Opl.p1 (n := Opl.p1 (n := Opl.nil ?_))))
   by_cases c3 : a0 = 7
   case pos =>
    rw [if_pos c3] at H
    have e1 : (a0 == 7) = true := by simpa using c3
    try rw [e1]
    refine Evr.condT rfl (Evr.sr rfl (Opl.p1 (n := Opl.p1 (n := Opl.p1 (n := Opl.nil ?_)))))
    obtain rfl := Option.some.inj H
    refine Evr.ret3 Try.func198 rfl ?_
    show Out _ (.tup [.lit (.int .i64 1), .lit (.int .i64 2), .lit (.int .i64 2)]) _
    exact .tup3 .lit .lit .lit
   rw [if_neg c3] at H
   have e2 : (a0 == 7) = false := by simpa using c3
   try rw [e2]
   refine Evr.condF rfl (Evr.seq (Evr.sr rfl (Opl.p1 (n := Opl.p1 (n := Opl.nil ?_)))))
   refine Evr.join (fun tm S => ∃ (kq3 : Nat) (x15_1 : Bool), impl_parts.j2 kq3 x15_1 = some r ∧ Has tm [(15, .lit (.bool x15_1))]) ?_ fun hk3 => ?_
   ·
    rintro tm S ⟨kq3, x15_1, H, hh⟩
    rw [hh.eq]
    obtain _ | k3 := kq3
    · simp [impl_parts.j2] at H
    simp only [impl_parts.j2] at H
    by_cases c4 : x15_1 = true
    case pos =>
     rw [if_pos c4] at H
     obtain rfl : x15_1 = true := by simpa using c4
     refine Evr.condT rfl (Evr.sr rfl (Opl.p1 (n := Opl.p1 (n := Opl.p1 (n := Opl.nil ?_)))))
     obtain rfl := Option.some.inj H
     refine Evr.ret3 Try.func198 rfl ?_
     show Out _ (.tup [.lit (.int .i64 2), .lit (.int .i64 2), .lit (.int .i64 2)]) _
     exact .tup3 .lit .lit .lit
    rw [if_neg c4] at H
    obtain rfl : x15_1 = false := by simpa using c4
    refine Evr.condF rfl (Evr.skip (Evr.inBlock (Evr.sr rfl (Opl.p1 (n := Opl.p1 (n := Opl.p1 (n := Opl.nil ?_)))))))
    obtain rfl := Option.some.inj H
    refine Evr.ret3 Try.func198 rfl ?_
    show Out _ (.tup [.lit (.int .i64 0), .lit (.int .i64 0), .lit (.int .i64 1)]) _
    exact .tup3 .lit .lit .lit
   ·
    by_cases c5 : a0 = 8
    case pos =>
     rw [if_pos c5] at H
     have e3 : (a0 == 8) = true := by simpa using c5
     try rw [e3]
     refine Evr.condT rfl (Evr.skip ?_)
     exact hk3 _ _ ⟨_, _, H, ⟨(by first | rfl | (show PV.lit (.bool _) = _; congr 2; simp_all)), trivial⟩⟩
    rw [if_neg c5] at H
    have e4 : (a0 == 8) = false := by simpa using c5
    try rw [e4]
    refine Evr.condF rfl (Evr.regionN rfl (Opl.p1 (n := Opl.p1 (n := Opl.nil ?_))))
    exact hk3 _ _ ⟨_, _, H, ⟨(by first | rfl | (show PV.lit (.bool _) = _; congr 2; simp_all)), trivial⟩⟩
  ·
   by_cases c6 : a0 = 5
   case pos =>
    rw [if_pos c6] at H
    have e5 : (a0 == 5) = true := by simpa using c6
    try rw [e5]
    refine Evr.condT rfl (Evr.skip ?_)
    exact hk2 _ _ ⟨_, _, H, ⟨rfl, (by first | rfl | (show PV.lit (.bool _) = _; congr 2; simp_all)), trivial⟩⟩
   rw [if_neg c6] at H
   have e6 : (a0 == 5) = false := by simpa using c6
   try rw [e6]
   refine Evr.condF rfl (Evr.regionN rfl (Opl.p1 (n := Opl.p1 (n := Opl.nil ?_))))
   exact hk2 _ _ ⟨_, _, H, ⟨rfl, (by first | rfl | (show PV.lit (.bool _) = _; congr 2; simp_all)), trivial⟩⟩
 ·
  by_cases c7 : a0 = 2
  case pos =>
   rw [if_pos c7] at H
   have e7 : (a0 == 2) = true := by simpa using c7
   try rw [e7]
   refine Evr.condT rfl (Evr.skip ?_)
   exact hk1 _ _ ⟨_, _, H, ⟨rfl, (by first | rfl | (show PV.lit (.bool _) = _; congr 2; simp_all)), trivial⟩⟩
  rw [if_neg c7] at H
  have e8 : (a0 == 2) = false := by simpa using c7
  try rw [e8]
  refine Evr.condF rfl (Evr.sr rfl (Opl.p1 (n := Opl.p1 (n := Opl.nil ?_))))
  refine Evr.join (fun tm S => ∃ (kq4 : Nat) (x6_2 : Bool), impl_parts.j0 kq4 a0 x6_2 = some r ∧ Has tm [(5, .lit (.int .i64 a0)), (6, .lit (.bool x6_2))]) ?_ fun hk4 => ?_
  ·
   rintro tm S ⟨kq4, x6_2, H, hh⟩
   rw [hh.eq]
   exact hk1 _ _ ⟨_, _, H, ⟨rfl, (by first | rfl | (show PV.lit (.bool _) = _; congr 2; simp_all)), trivial⟩⟩
  ·
   by_cases c8 : a0 = 3
   case pos =>
    rw [if_pos c8] at H
    have e9 : (a0 == 3) = true := by simpa using c8
    try rw [e9]
    refine Evr.condT rfl (Evr.skip ?_)
    exact hk4 _ _ ⟨_, _, H, ⟨rfl, (by first | rfl | (show PV.lit (.bool _) = _; congr 2; simp_all)), trivial⟩⟩
   rw [if_neg c8] at H
   have e10 : (a0 == 3) = false := by simpa using c8
   try rw [e10]
   refine Evr.condF rfl (Evr.regionN rfl (Opl.p1 (n := Opl.p1 (n := Opl.nil ?_))))
   exact hk4 _ _ ⟨_, _, H, ⟨rfl, (by first | rfl | (show PV.lit (.bool _) = _; congr 2; simp_all)), trivial⟩⟩
theorem impl_kindsOf.ev {k : Nat} {l0 : List ITerm} {v0 : PV} (hv0 : Sl cITerm l0 v0) {a1 : Int} {r : (List Int)} (H : impl_kindsOf.f k l0 a1 = some r) : Ret Try.prog 166 [v0, .lit (.int .i64 a1)] fun v S => Vec (cInt .i64) r v S ∧ (r = [] → v = .lit (.slice none 0 0)) := by
 unfold impl_kindsOf.f at H
 refine Ret.intro Try.func166 rfl (Nat.le_of_ble_eq_true rfl) rfl ?_
 rw [tm2]
 refine Evr.sr rfl (Opl.p1 (n := Opl.nil (Evr.seq (Evr.seq ?_))))
 refine Evr.join (fun tm S => ∃ (kq1 : Nat) (x20_1 : Bool), impl_kindsOf.j0 kq1 l0 a1 x20_1 = some r ∧ Has tm [(0, v0), (1, .lit (.int .i64 a1)), (20, .lit (.bool x20_1))]) ?_ fun hk1 => ?_
 ·
  rintro tm S ⟨kq1, x20_1, H, hh⟩
  rw [hh.eq]
  obtain _ | k1 := kq1
  · simp [impl_kindsOf.j0] at H
  simp only [impl_kindsOf.j0] at H
  by_cases c1 : x20_1 = true
  case pos =>
   rw [if_pos c1] at H
   obtain rfl : x20_1 = true := by simpa using c1
   refine Evr.condT rfl (Evr.sr rfl (Opl.p1 (n := Opl.nil ?_)))
   obtain rfl := Option.some.inj H
   refine Evr.ret1 Try.func166 rfl ?_
   show Vec _ _ (.lit (.slice none 0 0)) _ ∧ _
   exact ⟨.nil, by intro e; first | rfl | (have := congrArg List.length e; simp only [List.length_nil] at this; omega)⟩
  rw [if_neg c1] at H
  obtain rfl : x20_1 = false := by simpa using c1
  refine Evr.condF rfl (Evr.skip (Evr.sr rfl (Opl.p1 (n := Opl.len (xs := l0) (by exact hv0) K66 rfl rfl rfl rfl ?_))))
  obtain ⟨c2, H⟩ := peel H
  obtain ⟨c3, H⟩ := peel H
  refine Opl.make0 (M := (cInt .i64)) (m := (l0.length : Int)) rfl rfl K27 T3 rfl rfl (by omega) (by show ((l0.length : Int)).toNat * 8 ≤ 281474976710656; omega) (by omega) rfl rfl rfl ?_
  rintro pv2 S h1 u1 w1
  refine Opl.p1 (n := Opl.nil (Evr.seq (Evr.sr rfl (Opl.p1 (n := Opl.len (xs := l0) (by exact hv0) K66 rfl rfl rfl rfl (Opl.p1 (n := Opl.nil (Evr.block ?_))))))))
  refine Evr.loop (Evr.rounds (n := k1) (Inv := fun n tm S => n ≤ k1 ∧ ∃ (x5_1 : List Int) (x26_1 : Int) (pv3 : PV), impl_kindsOf.l0 n a1 x5_1 l0 (l0.length : Int) x26_1 = some r ∧ Has tm [(1, .lit (.int .i64 a1)), (5, pv3), (24, v0), (25, .lit (.int .i64 (l0.length : Int))), (26, .lit (.int .i64 x26_1))] ∧ Vec (cInt .i64) x5_1 pv3 S) ?_ ?_ ?_)
  · exact ⟨Nat.le_refl _, _, _, _, H, ⟨rfl, rfl, rfl, rfl, rfl, trivial⟩, h1⟩
  ·
   rintro tm S ⟨_, _, _, _, H, -⟩
   simp [impl_kindsOf.l0] at H
  ·
   rintro n1 ih1 tm S ⟨hle, x5_1, x26_1, pv3, H, hh, h2⟩
   simp only [impl_kindsOf.l0] at H
   rw [hh.eq]
   refine Evr.sr rfl (Opl.p1 (n := Opl.nil (Evr.seq ?_)))
   by_cases c4 : x26_1 < (l0.length : Int)
   case neg =>
    rw [if_neg c4] at H
    have e20 : (decide (x26_1 < (l0.length : Int))) = false := by simpa using c4
    try rw [e20]
    refine Evr.condF rfl (Evr.exit rfl (Evr.sr rfl (Opl.p1 (n := Opl.p1 (n := Opl.nil ?_)))))
    obtain ⟨c26, H⟩ := peel H
    obtain rfl := Option.some.inj H
    refine Evr.ret1 Try.func166 rfl ?_
    show Vec _ _ pv3 _ ∧ _
    exact ⟨h2, by intro e; first | rfl | (have := congrArg List.length e; simp only [List.length_nil] at this; omega)⟩
   rw [if_pos c4] at H
   have e1 : (decide (x26_1 < (l0.length : Int))) = true := by simpa using c4
   try rw [e1]
   refine Evr.condT rfl (Evr.skip (Evr.seq (Evr.block (Evr.sr rfl (Opl.p1 (n := ?_))))))
   obtain ⟨c5, H⟩ := peel H
   obtain ⟨c6, H⟩ := peel H
   refine Opl.idx (M := cITerm) (xs := l0) (j := x26_1) zITerm (by exact hv0) rfl (by omega) (by omega) K66 Z128 rfl rfl ?_
   rintro p1 q1 h3
   obtain rfl := cITerm_R (x := (rd_ITerm l0 x26_1)) h3
   refine Opl.lda (.agg [.lit (.int .i64 ((rd_ITerm l0 x26_1).f0)), .lit (.int .i64 ((rd_ITerm l0 x26_1).f1)), .lit (.int .i64 ((rd_ITerm l0 x26_1).f2)), .lit (.int .i64 ((rd_ITerm l0 x26_1).f3))]) rfl T128 rfl rfl rfl rfl (Opl.alloc T128 rfl rfl rfl ?_)
   rintro i1 S h4 u2 w2
   have ap1 := w2.vec h2
   have h5 := u2.vec h2 ap1
   refine Opl.p1 (n := Opl.stb (vs := [.lit (.int .i64 ((rd_ITerm l0 x26_1).f0)), .lit (.int .i64 ((rd_ITerm l0 x26_1).f1)), .lit (.int .i64 ((rd_ITerm l0 x26_1).f2)), .lit (.int .i64 ((rd_ITerm l0 x26_1).f3))]) h4 rfl rfl Z128 rfl (Nat.le_of_ble_eq_true rfl) rfl rfl rfl rfl ?_)
   rintro S (h6 : Box (.ptr i1 0) [.lit (.int .i64 ((rd_ITerm l0 x26_1).f0)), .lit (.int .i64 ((rd_ITerm l0 x26_1).f1)), .lit (.int .i64 ((rd_ITerm l0 x26_1).f2)), .lit (.int .i64 ((rd_ITerm l0 x26_1).f3))] _) u3
   have h7 := u3.vec h5 ap1
   refine Opl.nil (Evr.sr rfl (Opl.p1 (v := .ptr i1 0) (n := Opl.ldb (v := .lit (.int .i64 ((rd_ITerm l0 x26_1).f0))) h6 rfl T3 rfl rfl rfl rfl ?_)))
   obtain ⟨bt490, h_bt490, H⟩ := Option.bind_eq_some_iff.1 H
   refine Opl.call (impl_parts.ev h_bt490) rfl rfl rfl rfl ⟨(.lit _), trivial⟩ (by decide) ?_
   rintro _ ⟨_, _, _, rfl, rfl, rfl, rfl⟩
   refine Opl.p1 (n := Opl.p1 (v := .lit (.int .i64 bt490.1)) (n := Opl.p1 (v := .lit (.int .i64 bt490.2.1)) (n := Opl.p1 (v := .lit (.int .i64 bt490.2.2)) (n := Opl.p1 (n := Opl.p1 (n := Opl.p1 (n := Opl.nil (Evr.sr rfl (Opl.p1 (v := .ptr i1 0) (n := Opl.ldb (v := .lit (.int .i64 ((rd_ITerm l0 x26_1).f0))) h6 rfl T3 rfl rfl rfl rfl ?_))))))))))
   obtain ⟨t493, h_t493, H⟩ := Option.bind_eq_some_iff.1 H
   refine Opl.callc (impl_in.ev h_t493) rfl rfl rfl rfl ⟨(.lit _), (.lit _), (.lit _), trivial⟩ (by decide) (Opl.p1 (n := Opl.nil (Evr.seq (Evr.block (Evr.sr rfl (Opl.p1 (v := .ptr i1 0) (n := Opl.ldb (v := .lit (.int .i64 ((rd_ITerm l0 x26_1).f0))) h6 rfl T3 rfl rfl rfl rfl (Opl.p1 (n := Opl.p1 (n := Opl.nil ?_))))))))))
   refine Evr.join (fun tm S => ∃ (kq2 : Nat) (x11_1 : Bool) (pv5 : PV), impl_kindsOf.j2 kq2 a1 x5_1 bt490.2.2 x11_1 l0 (l0.length : Int) x26_1 = some r ∧ kq2 ≤ n1 ∧ Has tm [(1, .lit (.int .i64 a1)), (5, pv5), (10, .lit (.int .i64 bt490.2.2)), (11, .lit (.bool x11_1)), (24, v0), (25, .lit (.int .i64 (l0.length : Int))), (26, .lit (.int .i64 x26_1))] ∧ Vec (cInt .i64) x5_1 pv5 S) ?_ fun hk2 => ?_
   ·
    rintro tm S ⟨kq2, x11_1, pv5, H, hle, hh, h9⟩
    rw [hh.eq]
    refine Evr.inBlock (Evr.seq (Evr.sr rfl (Opl.p1 (n := Opl.p1 (n := Opl.nil ?_)))))
    obtain _ | k2 := kq2
    · simp [impl_kindsOf.j2] at H
    simp only [impl_kindsOf.j2] at H
    by_cases c7 : x11_1 = true
    case neg =>
     rw [if_neg c7] at H
     have e3 : (!x11_1) = true := by simpa using c7
     try rw [e3]
     refine Evr.condT rfl (Evr.sr rfl (Opl.p1 (n := Opl.nil ?_)))
     obtain rfl := Option.some.inj H
     refine Evr.ret1 Try.func166 rfl ?_
     show Vec _ _ (.lit (.slice none 0 0)) _ ∧ _
     exact ⟨.nil, by intro e; first | rfl | (have := congrArg List.length e; simp only [List.length_nil] at this; omega)⟩
    rw [if_pos c7] at H
    have e2 : (!x11_1) = false := by simpa using c7
    try rw [e2]
    refine Evr.condF rfl (Evr.skip (Evr.regionN rfl (Opl.p1 (n := Opl.p1 (n := Opl.lits (M := (cInt .i64)) (ys := [bt490.2.2]) [.tmp 128] K27 T3 rfl rfl rfl (by exact ⟨rfl, trivial⟩) rfl (by decide) rfl rfl rfl ?_)))))
    rintro pv6 S h10 u4 w4
    have ap2 := w4.vec h9
    have h11 := u4.vec h9 ap2
    obtain ⟨c8, H⟩ := peel H
    refine Opl.app (M := (cInt .i64)) (xs := x5_1) (ys := [bt490.2.2]) (v := pv5) h11 (.vec h10) (oInt .i64) rfl rfl K27 T3 rfl rfl (by (try simp only [List.length_cons, List.length_nil]); omega) (by show (_ + _) * 8 ≤ 140737488355328; (try simp only [List.length_cons, List.length_nil]); omega) rfl rfl rfl rfl rfl ?_
    rintro pv7 S h12 u5 w5
    have ap3 := w5.vec h10
    have h13 := u5.vec h10 ap2.symm
    refine Opl.p1 (n := Opl.nil (Evr.inBlock (Evr.regionN rfl (Opl.add (k := .i64) (a := x26_1) (b := 1) K3 rfl rfl rfl rfl (Opl.one (v := .lit (.int .i64 (wrap64 (x26_1 + 1)))) rfl rfl rfl (Opl.nil ?_))))))
    exact ih1 _ (by omega) _ _ ⟨by omega, _, _, _, H, ⟨rfl, rfl, rfl, rfl, rfl, trivial⟩, h12⟩
   ·
    by_cases c9 : ((rd_ITerm l0 x26_1).f0) = 0
    case pos =>
     rw [if_pos c9] at H
     have e4 : (((rd_ITerm l0 x26_1).f0) == 0) = true := by simpa using c9
     try rw [e4]
     refine Evr.condT rfl ?_
     refine Evr.join (fun tm S => ∃ (kq3 : Nat) (x11_2 : Bool) (pv8 : PV), impl_kindsOf.j2 kq3 a1 x5_1 bt490.2.2 x11_2 l0 (l0.length : Int) x26_1 = some r ∧ kq3 ≤ n1 ∧ Has tm [(1, .lit (.int .i64 a1)), (5, pv8), (10, .lit (.int .i64 bt490.2.2)), (11, .lit (.bool x11_2)), (24, v0), (25, .lit (.int .i64 (l0.length : Int))), (26, .lit (.int .i64 x26_1))] ∧ Vec (cInt .i64) x5_1 pv8 S) ?_ fun hk3 => ?_
     ·
      rintro tm S ⟨kq3, x11_2, pv8, H, hle, hh, h14⟩
      rw [hh.eq]
      exact hk2 _ _ ⟨_, _, _, H, by omega, ⟨rfl, rfl, rfl, (by first | rfl | (show PV.lit (.bool _) = _; congr 2; simp_all)), rfl, rfl, rfl, trivial⟩, h14⟩
     ·
      refine Evr.regionN rfl (Opl.p1 (v := .ptr i1 1) (n := Opl.ldb (v := .lit (.int .i64 ((rd_ITerm l0 x26_1).f1))) h6 rfl T3 rfl rfl rfl rfl ?_))
      obtain ⟨t494, h_t494, H⟩ := Option.bind_eq_some_iff.1 H
      refine Opl.callc (impl_in.ev h_t494) rfl rfl rfl rfl ⟨(.lit _), (.lit _), (.lit _), trivial⟩ (by decide) (Opl.p1 (n := ?_))
      by_cases c10 : t494 = true
      case neg =>
       rw [if_neg c10] at H
       obtain rfl : t494 = false := by simpa using c10
       refine Opl.skp rfl (Opl.skp rfl (Opl.skp rfl (Opl.p1 (n := Opl.p1 (n := Opl.skp rfl (Opl.skp rfl (Opl.skp rfl (Opl.p1 (n := Opl.p1 (n := Opl.nil ?_))))))))))
       exact hk3 _ _ ⟨_, _, _, H, by omega, ⟨rfl, rfl, rfl, (by first | rfl | (show PV.lit (.bool _) = _; congr 2; simp_all)), rfl, rfl, rfl, trivial⟩, h7⟩
      rw [if_pos c10] at H
      obtain rfl : t494 = true := by simpa using c10
      refine Opl.p1 (v := .ptr i1 2) (n := Opl.ldb (v := .lit (.int .i64 ((rd_ITerm l0 x26_1).f2))) h6 rfl T3 rfl rfl rfl rfl (Opl.p1 (n := Opl.p1 (n := Opl.p1 (n := ?_)))))
      by_cases c11 : ((rd_ITerm l0 x26_1).f2) = 0
      case neg =>
       rw [if_neg c11] at H
       have e6 : (((rd_ITerm l0 x26_1).f2) == 0) = false := by simpa using c11
       try rw [e6]
       refine Opl.skp rfl (Opl.skp rfl (Opl.skp rfl (Opl.p1 (n := Opl.p1 (n := Opl.nil ?_)))))
       exact hk3 _ _ ⟨_, _, _, H, by omega, ⟨rfl, rfl, rfl, (by first | rfl | (show PV.lit (.bool _) = _; congr 2; simp_all)), rfl, rfl, rfl, trivial⟩, h7⟩
      rw [if_pos c11] at H
      have e5 : (((rd_ITerm l0 x26_1).f2) == 0) = true := by simpa using c11
      try rw [e5]
      refine Opl.p1 (v := .ptr i1 3) (n := Opl.ldb (v := .lit (.int .i64 ((rd_ITerm l0 x26_1).f3))) h6 rfl T3 rfl rfl rfl rfl (Opl.p1 (n := Opl.p1 (n := Opl.p1 (n := Opl.nil ?_)))))
      exact hk3 _ _ ⟨_, _, _, H, by omega, ⟨rfl, rfl, rfl, (by first | rfl | (show PV.lit (.bool _) = _; congr 2; simp_all)), rfl, rfl, rfl, trivial⟩, h7⟩
    rw [if_neg c9] at H
    have e7 : (((rd_ITerm l0 x26_1).f0) == 0) = false := by simpa using c9
    try rw [e7]
    refine Evr.condF rfl (Evr.sr rfl (Opl.p1 (v := .ptr i1 0) (n := Opl.ldb (v := .lit (.int .i64 ((rd_ITerm l0 x26_1).f0))) h6 rfl T3 rfl rfl rfl rfl (Opl.p1 (n := Opl.p1 (n := Opl.nil ?_))))))
    refine Evr.join (fun tm S => ∃ (kq4 : Nat) (x11_3 : Bool) (pv9 : PV), impl_kindsOf.j2 kq4 a1 x5_1 bt490.2.2 x11_3 l0 (l0.length : Int) x26_1 = some r ∧ kq4 ≤ n1 ∧ Has tm [(1, .lit (.int .i64 a1)), (5, pv9), (10, .lit (.int .i64 bt490.2.2)), (11, .lit (.bool x11_3)), (24, v0), (25, .lit (.int .i64 (l0.length : Int))), (26, .lit (.int .i64 x26_1))] ∧ Vec (cInt .i64) x5_1 pv9 S) ?_ fun hk4 => ?_
    ·
     rintro tm S ⟨kq4, x11_3, pv9, H, hle, hh, h15⟩
     rw [hh.eq]
     exact hk2 _ _ ⟨_, _, _, H, by omega, ⟨rfl, rfl, rfl, (by first | rfl | (show PV.lit (.bool _) = _; congr 2; simp_all)), rfl, rfl, rfl, trivial⟩, h15⟩
    ·
     by_cases c12 : ((rd_ITerm l0 x26_1).f0) = 1
     case pos =>
      rw [if_pos c12] at H
      have e8 : (((rd_ITerm l0 x26_1).f0) == 1) = true := by simpa using c12
      try rw [e8]
      refine Evr.condT rfl ?_
      refine Evr.join (fun tm S => ∃ (kq5 : Nat) (x11_4 : Bool) (pv10 : PV), impl_kindsOf.j2 kq5 a1 x5_1 bt490.2.2 x11_4 l0 (l0.length : Int) x26_1 = some r ∧ kq5 ≤ n1 ∧ Has tm [(1, .lit (.int .i64 a1)), (5, pv10), (10, .lit (.int .i64 bt490.2.2)), (11, .lit (.bool x11_4)), (24, v0), (25, .lit (.int .i64 (l0.length : Int))), (26, .lit (.int .i64 x26_1))] ∧ Vec (cInt .i64) x5_1 pv10 S) ?_ fun hk5 => ?_
      ·
       rintro tm S ⟨kq5, x11_4, pv10, H, hle, hh, h16⟩
       rw [hh.eq]
       exact hk4 _ _ ⟨_, _, _, H, by omega, ⟨rfl, rfl, rfl, (by first | rfl | (show PV.lit (.bool _) = _; congr 2; simp_all)), rfl, rfl, rfl, trivial⟩, h16⟩
      ·
       refine Evr.regionN rfl (Opl.p1 (v := .ptr i1 1) (n := Opl.ldb (v := .lit (.int .i64 ((rd_ITerm l0 x26_1).f1))) h6 rfl T3 rfl rfl rfl rfl (Opl.p1 (n := Opl.subi (k := .i64) (a := a1) (b := 1) K3 rfl rfl rfl rfl ?_))))
       obtain ⟨t495, h_t495, H⟩ := Option.bind_eq_some_iff.1 H
       refine Opl.callc (impl_in.ev h_t495) rfl rfl rfl rfl ⟨(.lit _), (.lit _), (.lit _), trivial⟩ (by decide) (Opl.one (v := .lit (.bool t495)) rfl rfl rfl ?_)
       by_cases c13 : t495 = true
       case neg =>
        rw [if_neg c13] at H
        obtain rfl : t495 = false := by simpa using c13
        refine Opl.skp rfl (Opl.skp rfl (Opl.skp rfl (Opl.p1 (n := Opl.one (v := .lit (.bool false)) rfl rfl rfl (Opl.skp rfl (Opl.skp rfl (Opl.skp rfl (Opl.p1 (n := Opl.one (v := .lit (.bool false)) rfl rfl rfl (Opl.nil ?_))))))))))
        exact hk5 _ _ ⟨_, _, _, H, by omega, ⟨rfl, rfl, rfl, (by first | rfl | (show PV.lit (.bool _) = _; congr 2; simp_all)), rfl, rfl, rfl, trivial⟩, h7⟩
       rw [if_pos c13] at H
       obtain rfl : t495 = true := by simpa using c13
       refine Opl.p1 (v := .ptr i1 2) (n := Opl.ldb (v := .lit (.int .i64 ((rd_ITerm l0 x26_1).f2))) h6 rfl T3 rfl rfl rfl rfl (Opl.p1 (n := Opl.p1 (n := Opl.one (v := .lit (.bool (((rd_ITerm l0 x26_1).f2) == 0))) rfl rfl rfl ?_))))
       by_cases c14 : ((rd_ITerm l0 x26_1).f2) = 0
       case neg =>
        rw [if_neg c14] at H
        have e10 : (((rd_ITerm l0 x26_1).f2) == 0) = false := by simpa using c14
        try rw [e10]
        refine Opl.skp rfl (Opl.skp rfl (Opl.skp rfl (Opl.p1 (n := Opl.one (v := .lit (.bool false)) rfl rfl rfl (Opl.nil ?_)))))
        exact hk5 _ _ ⟨_, _, _, H, by omega, ⟨rfl, rfl, rfl, (by first | rfl | (show PV.lit (.bool _) = _; congr 2; simp_all)), rfl, rfl, rfl, trivial⟩, h7⟩
       rw [if_pos c14] at H
       have e9 : (((rd_ITerm l0 x26_1).f2) == 0) = true := by simpa using c14
       try rw [e9]
       refine Opl.p1 (v := .ptr i1 3) (n := Opl.ldb (v := .lit (.int .i64 ((rd_ITerm l0 x26_1).f3))) h6 rfl T3 rfl rfl rfl rfl (Opl.p1 (n := Opl.p1 (n := Opl.one (v := .lit (.bool (((rd_ITerm l0 x26_1).f3) == 0))) rfl rfl rfl (Opl.nil ?_)))))
       exact hk5 _ _ ⟨_, _, _, H, by omega, ⟨rfl, rfl, rfl, (by first | rfl | (show PV.lit (.bool _) = _; congr 2; simp_all)), rfl, rfl, rfl, trivial⟩, h7⟩
     rw [if_neg c12] at H
     have e11 : (((rd_ITerm l0 x26_1).f0) == 1) = false := by simpa using c12
     try rw [e11]
     refine Evr.condF rfl (Evr.sr rfl (Opl.p1 (n := Opl.p1 (n := Opl.nil ?_))))
     refine Evr.join (fun tm S => ∃ (kq6 : Nat) (x11_5 : Bool) (pv11 : PV), impl_kindsOf.j2 kq6 a1 x5_1 bt490.2.2 x11_5 l0 (l0.length : Int) x26_1 = some r ∧ kq6 ≤ n1 ∧ Has tm [(1, .lit (.int .i64 a1)), (5, pv11), (10, .lit (.int .i64 bt490.2.2)), (11, .lit (.bool x11_5)), (24, v0), (25, .lit (.int .i64 (l0.length : Int))), (26, .lit (.int .i64 x26_1))] ∧ Vec (cInt .i64) x5_1 pv11 S) ?_ fun hk6 => ?_
     ·
      rintro tm S ⟨kq6, x11_5, pv11, H, hle, hh, h17⟩
      rw [hh.eq]
      exact hk4 _ _ ⟨_, _, _, H, by omega, ⟨rfl, rfl, rfl, (by first | rfl | (show PV.lit (.bool _) = _; congr 2; simp_all)), rfl, rfl, rfl, trivial⟩, h17⟩
     ·
      by_cases c15 : t493 = true
      case neg =>
       rw [if_neg c15] at H
       obtain rfl : t493 = false := by simpa using c15
       refine Evr.condF rfl (Evr.skip ?_)
       exact hk6 _ _ ⟨_, _, _, H, by omega, ⟨rfl, rfl, rfl, (by first | rfl | (show PV.lit (.bool _) = _; congr 2; simp_all)), rfl, rfl, rfl, trivial⟩, h7⟩
      rw [if_pos c15] at H
      obtain rfl : t493 = true := by simpa using c15
      refine Evr.condT rfl ?_
      refine Evr.join (fun tm S => ∃ (kq7 : Nat) (x11_6 : Bool) (pv12 : PV), impl_kindsOf.j2 kq7 a1 x5_1 bt490.2.2 x11_6 l0 (l0.length : Int) x26_1 = some r ∧ kq7 ≤ n1 ∧ Has tm [(1, .lit (.int .i64 a1)), (5, pv12), (10, .lit (.int .i64 bt490.2.2)), (11, .lit (.bool x11_6)), (24, v0), (25, .lit (.int .i64 (l0.length : Int))), (26, .lit (.int .i64 x26_1))] ∧ Vec (cInt .i64) x5_1 pv12 S) ?_ fun hk7 => ?_
      ·
       rintro tm S ⟨kq7, x11_6, pv12, H, hle, hh, h18⟩
       rw [hh.eq]
       exact hk6 _ _ ⟨_, _, _, H, by omega, ⟨rfl, rfl, rfl, (by first | rfl | (show PV.lit (.bool _) = _; congr 2; simp_all)), rfl, rfl, rfl, trivial⟩, h18⟩
      ·
       refine Evr.regionN rfl (Opl.p1 (v := .ptr i1 1) (n := Opl.ldb (v := .lit (.int .i64 ((rd_ITerm l0 x26_1).f1))) h6 rfl T3 rfl rfl rfl rfl (Opl.p1 (n := Opl.p1 (n := ?_)))))
       by_cases c16 : ((rd_ITerm l0 x26_1).f1) = 0
       case neg =>
        rw [if_neg c16] at H
        have e19 : (((rd_ITerm l0 x26_1).f1) == 0) = false := by simpa using c16
        try rw [e19]
        refine Opl.skp rfl (Opl.skp rfl (Opl.skp rfl (Opl.skp rfl (Opl.skp rfl (Opl.p1 (n := Opl.p1 (n := Opl.skp rfl (Opl.skp rfl (Opl.skp rfl (Opl.skp rfl (Opl.skp rfl (Opl.p1 (n := Opl.p1 (n := Opl.skp rfl (Opl.skp rfl (Opl.skp rfl (Opl.skp rfl (Opl.skp rfl (Opl.skp rfl (Opl.skp rfl (Opl.p1 (n := Opl.p1 (n := Opl.skp rfl (Opl.skp rfl (Opl.skp rfl (Opl.skp rfl (Opl.skp rfl (Opl.skp rfl (Opl.skp rfl (Opl.p1 (n := Opl.p1 (n := Opl.skp rfl (Opl.skp rfl (Opl.skp rfl (Opl.skp rfl (Opl.skp rfl (Opl.skp rfl (Opl.skp rfl (Opl.skp rfl (Opl.skp rfl (Opl.p1 (n := Opl.p1 (n := Opl.nil ?_)))))))))))))))))))))))))))))))))))))))))))
        exact hk7 _ _ ⟨_, _, _, H, by omega, ⟨rfl, rfl, rfl, (by first | rfl | (show PV.lit (.bool _) = _; congr 2; simp_all)), rfl, rfl, rfl, trivial⟩, h7⟩
       rw [if_pos c16] at H
       have e12 : (((rd_ITerm l0 x26_1).f1) == 0) = true := by simpa using c16
       try rw [e12]
       refine Opl.p1 (v := .ptr i1 2) (n := Opl.ldb (v := .lit (.int .i64 ((rd_ITerm l0 x26_1).f2))) h6 rfl T3 rfl rfl rfl rfl (Opl.p1 (n := Opl.subi (k := .i64) (a := x26_1) (b := 1) K3 rfl rfl rfl rfl ?_)))
       obtain ⟨t496, h_t496, H⟩ := Option.bind_eq_some_iff.1 H
       refine Opl.callc (impl_in.ev h_t496) rfl rfl rfl rfl ⟨(.lit _), (.lit _), (.lit _), trivial⟩ (by decide) (Opl.p1 (n := Opl.one (v := .lit (.bool t496)) rfl rfl rfl ?_))
       by_cases c17 : t496 = true
       case neg =>
        rw [if_neg c17] at H
        obtain rfl : t496 = false := by simpa using c17
        refine Opl.skp rfl (Opl.skp rfl (Opl.skp rfl (Opl.skp rfl (Opl.skp rfl (Opl.p1 (n := Opl.one (v := .lit (.bool false)) rfl rfl rfl (Opl.skp rfl (Opl.skp rfl (Opl.skp rfl (Opl.skp rfl (Opl.skp rfl (Opl.skp rfl (Opl.skp rfl (Opl.p1 (n := Opl.one (v := .lit (.bool false)) rfl rfl rfl (Opl.skp rfl (Opl.skp rfl (Opl.skp rfl (Opl.skp rfl (Opl.skp rfl (Opl.skp rfl (Opl.skp rfl (Opl.p1 (n := Opl.one (v := .lit (.bool false)) rfl rfl rfl (Opl.skp rfl (Opl.skp rfl (Opl.skp rfl (Opl.skp rfl (Opl.skp rfl (Opl.skp rfl (Opl.skp rfl (Opl.skp rfl (Opl.skp rfl (Opl.p1 (n := Opl.one (v := .lit (.bool false)) rfl rfl rfl (Opl.nil ?_))))))))))))))))))))))))))))))))))))
        exact hk7 _ _ ⟨_, _, _, H, by omega, ⟨rfl, rfl, rfl, (by first | rfl | (show PV.lit (.bool _) = _; congr 2; simp_all)), rfl, rfl, rfl, trivial⟩, h7⟩
       rw [if_pos c17] at H
       obtain rfl : t496 = true := by simpa using c17
       refine Opl.p1 (v := .ptr i1 3) (n := Opl.ldb (v := .lit (.int .i64 ((rd_ITerm l0 x26_1).f3))) h6 rfl T3 rfl rfl rfl rfl (Opl.one (v := .lit (.int .i64 x26_1)) rfl rfl rfl (Opl.subi (k := .i64) (a := x26_1) (b := 1) K3 rfl rfl rfl rfl ?_)))
       obtain ⟨t497, h_t497, H⟩ := Option.bind_eq_some_iff.1 H
       refine Opl.callc (impl_in.ev h_t497) rfl rfl rfl rfl ⟨(.lit _), (.lit _), (.lit _), trivial⟩ (by decide) (Opl.p1 (n := Opl.one (v := .lit (.bool t497)) rfl rfl rfl ?_))
       by_cases c18 : t497 = true
       case neg =>
        rw [if_neg c18] at H
        obtain rfl : t497 = false := by simpa using c18
        refine Opl.skp rfl (Opl.skp rfl (Opl.skp rfl (Opl.skp rfl (Opl.skp rfl (Opl.skp rfl (Opl.skp rfl (Opl.p1 (n := Opl.one (v := .lit (.bool false)) rfl rfl rfl (Opl.skp rfl (Opl.skp rfl (Opl.skp rfl (Opl.skp rfl (Opl.skp rfl (Opl.skp rfl (Opl.skp rfl (Opl.p1 (n := Opl.one (v := .lit (.bool false)) rfl rfl rfl (Opl.skp rfl (Opl.skp rfl (Opl.skp rfl (Opl.skp rfl (Opl.skp rfl (Opl.skp rfl (Opl.skp rfl (Opl.skp rfl (Opl.skp rfl (Opl.p1 (n := Opl.one (v := .lit (.bool false)) rfl rfl rfl (Opl.nil ?_)))))))))))))))))))))))))))))
        exact hk7 _ _ ⟨_, _, _, H, by omega, ⟨rfl, rfl, rfl, (by first | rfl | (show PV.lit (.bool _) = _; congr 2; simp_all)), rfl, rfl, rfl, trivial⟩, h7⟩
       rw [if_pos c18] at H
       obtain rfl : t497 = true := by simpa using c18
       refine Opl.one (v := pv3) rfl rfl rfl (Opl.p1 (v := .ptr i1 2) (n := Opl.ldb (v := .lit (.int .i64 ((rd_ITerm l0 x26_1).f2))) h6 rfl T3 rfl rfl rfl rfl ?_))
       obtain ⟨c19, H⟩ := peel H
       obtain ⟨c20, H⟩ := peel H
       refine Opl.idv (M := (cInt .i64)) (xs := x5_1) (j := ((rd_ITerm l0 x26_1).f2)) (v := pv3) h7 rfl rfl (by omega) (by omega) K27 Z3 rfl rfl ?_
       rintro d1 z1 q2 h19 h20
       refine Opl.ldv (M := (cInt .i64)) (xs := x5_1) (j := ((rd_ITerm l0 x26_1).f2)) (0 : Int) h19 h20 (by omega) (by omega) rfl T3 rfl rfl rfl ?_
       rintro p2 q3 h21
       obtain rfl : p2 = [.lit (.int .i64 (rd x5_1 ((rd_ITerm l0 x26_1).f2)))] := h21
       refine ⟨.lit (.int .i64 (rd x5_1 ((rd_ITerm l0 x26_1).f2))), rfl, ?_⟩
       refine Opl.one (v := .lit (.int .i64 bt490.2.1)) rfl rfl rfl (Opl.p1 (n := Opl.p1 (n := Opl.one (v := .lit (.bool ((rd x5_1 ((rd_ITerm l0 x26_1).f2)) == bt490.2.1))) rfl rfl rfl ?_)))
       by_cases c21 : (rd x5_1 ((rd_ITerm l0 x26_1).f2)) = bt490.2.1
       case neg =>
        rw [if_neg c21] at H
        have e18 : ((rd x5_1 ((rd_ITerm l0 x26_1).f2)) == bt490.2.1) = false := by simpa using c21
        try rw [e18]
        refine Opl.skp rfl (Opl.skp rfl (Opl.skp rfl (Opl.skp rfl (Opl.skp rfl (Opl.skp rfl (Opl.skp rfl (Opl.p1 (n := Opl.one (v := .lit (.bool false)) rfl rfl rfl (Opl.skp rfl (Opl.skp rfl (Opl.skp rfl (Opl.skp rfl (Opl.skp rfl (Opl.skp rfl (Opl.skp rfl (Opl.skp rfl (Opl.skp rfl (Opl.p1 (n := Opl.one (v := .lit (.bool false)) rfl rfl rfl (Opl.nil ?_))))))))))))))))))))
        exact hk7 _ _ ⟨_, _, _, H, by omega, ⟨rfl, rfl, rfl, (by first | rfl | (show PV.lit (.bool _) = _; congr 2; simp_all)), rfl, rfl, rfl, trivial⟩, h7⟩
       rw [if_pos c21] at H
       have e13 : ((rd x5_1 ((rd_ITerm l0 x26_1).f2)) == bt490.2.1) = true := by simpa using c21
       try rw [e13]
       refine Opl.one (v := pv3) rfl rfl rfl (Opl.p1 (v := .ptr i1 3) (n := Opl.ldb (v := .lit (.int .i64 ((rd_ITerm l0 x26_1).f3))) h6 rfl T3 rfl rfl rfl rfl ?_))
       obtain ⟨c22, H⟩ := peel H
       obtain ⟨c23, H⟩ := peel H
       refine Opl.idv (M := (cInt .i64)) (xs := x5_1) (j := ((rd_ITerm l0 x26_1).f3)) (v := pv3) h7 rfl rfl (by omega) (by omega) K27 Z3 rfl rfl ?_
       rintro d2 z2 q4 h22 h23
       refine Opl.ldv (M := (cInt .i64)) (xs := x5_1) (j := ((rd_ITerm l0 x26_1).f3)) (0 : Int) h22 h23 (by omega) (by omega) rfl T3 rfl rfl rfl ?_
       rintro p3 q5 h24
       obtain rfl : p3 = [.lit (.int .i64 (rd x5_1 ((rd_ITerm l0 x26_1).f3)))] := h24
       refine ⟨.lit (.int .i64 (rd x5_1 ((rd_ITerm l0 x26_1).f3))), rfl, ?_⟩
       refine Opl.one (v := .lit (.int .i64 bt490.2.1)) rfl rfl rfl (Opl.p1 (n := Opl.p1 (n := Opl.one (v := .lit (.bool ((rd x5_1 ((rd_ITerm l0 x26_1).f3)) == bt490.2.1))) rfl rfl rfl ?_)))
       by_cases c24 : (rd x5_1 ((rd_ITerm l0 x26_1).f3)) = bt490.2.1
       case neg =>
        rw [if_neg c24] at H
        have e17 : ((rd x5_1 ((rd_ITerm l0 x26_1).f3)) == bt490.2.1) = false := by simpa using c24
        try rw [e17]
        refine Opl.skp rfl (Opl.skp rfl (Opl.skp rfl (Opl.skp rfl (Opl.skp rfl (Opl.skp rfl (Opl.skp rfl (Opl.skp rfl (Opl.skp rfl (Opl.p1 (n := Opl.one (v := .lit (.bool false)) rfl rfl rfl (Opl.nil ?_)))))))))))
        exact hk7 _ _ ⟨_, _, _, H, by omega, ⟨rfl, rfl, rfl, (by first | rfl | (show PV.lit (.bool _) = _; congr 2; simp_all)), rfl, rfl, rfl, trivial⟩, h7⟩
       rw [if_pos c24] at H
       have e14 : ((rd x5_1 ((rd_ITerm l0 x26_1).f3)) == bt490.2.1) = true := by simpa using c24
       try rw [e14]
       refine Opl.one (v := .lit (.int .i64 bt490.1)) rfl rfl rfl (Opl.p1 (n := Opl.one (v := .lit (.bool (bt490.1 == 2))) rfl rfl rfl ?_))
       by_cases c25 : bt490.1 = 2
       case pos =>
        rw [if_pos c25] at H
        have e15 : (bt490.1 == 2) = true := by simpa using c25
        try rw [e15]
        refine Opl.skp rfl (Opl.skp rfl (Opl.skp rfl (Opl.skp rfl (Opl.skp rfl (Opl.p1 (n := Opl.p1 (n := Opl.one (v := .lit (.bool true)) rfl rfl rfl (Opl.nil ?_))))))))
        exact hk7 _ _ ⟨_, _, _, H, by omega, ⟨rfl, rfl, rfl, (by first | rfl | (show PV.lit (.bool _) = _; congr 2; simp_all)), rfl, rfl, rfl, trivial⟩, h7⟩
       rw [if_neg c25] at H
       have e16 : (bt490.1 == 2) = false := by simpa using c25
       try rw [e16]
       refine Opl.p1 (v := .ptr i1 2) (n := Opl.ldb (v := .lit (.int .i64 ((rd_ITerm l0 x26_1).f2))) h6 rfl T3 rfl rfl rfl rfl (Opl.p1 (v := .ptr i1 3) (n := Opl.ldb (v := .lit (.int .i64 ((rd_ITerm l0 x26_1).f3))) h6 rfl T3 rfl rfl rfl rfl (Opl.p1 (n := Opl.p1 (n := Opl.p1 (n := Opl.one (v := .lit (.bool (((rd_ITerm l0 x26_1).f2) == ((rd_ITerm l0 x26_1).f3)))) rfl rfl rfl (Opl.nil ?_))))))))
       exact hk7 _ _ ⟨_, _, _, H, by omega, ⟨rfl, rfl, rfl, (by first | rfl | (show PV.lit (.bool _) = _; congr 2; simp_all)), rfl, rfl, rfl, trivial⟩, h7⟩
 ·
  refine Evr.regionN rfl (Opl.p1 (n := ?_))
  obtain ⟨t483, h_t483, H⟩ := Option.bind_eq_some_iff.1 H
  refine Opl.callc (impl_in.ev h_t483) rfl rfl rfl rfl ⟨(.lit _), (.lit _), (.lit _), trivial⟩ (by decide) (Opl.p1 (n := Opl.p1 (n := ?_)))
  by_cases c27 : t483 = true
  case neg =>
   rw [if_neg c27] at H
   have e22 : (!t483) = true := by simpa using c27
   try rw [e22]
   refine Opl.skp rfl (Opl.skp rfl (Opl.skp rfl (Opl.skp rfl (Opl.p1 (n := Opl.nil ?_)))))
   exact hk1 _ _ ⟨_, _, H, ⟨rfl, rfl, (by first | rfl | (show PV.lit (.bool _) = _; congr 2; simp_all)), trivial⟩⟩
  rw [if_pos c27] at H
  have e21 : (!t483) = false := by simpa using c27
  try rw [e21]
  refine Opl.p1 (n := Opl.len (xs := l0) (by exact hv0) K66 rfl rfl rfl rfl ?_)
  obtain ⟨t484, h_t484, H⟩ := Option.bind_eq_some_iff.1 H
  refine Opl.callc (impl_in.ev h_t484) rfl rfl rfl rfl ⟨(.lit _), (.lit _), (.lit _), trivial⟩ (by decide) (Opl.p1 (n := Opl.p1 (n := Opl.nil ?_)))
  exact hk1 _ _ ⟨_, _, H, ⟨rfl, rfl, (by first | rfl | (show PV.lit (.bool _) = _; congr 2; simp_all)), trivial⟩⟩
theorem impl_TermsValid.ev {k : Nat} {l0 : List ITerm} {v0 : PV} (hv0 : Sl cITerm l0 v0) {a1 : Int} {r : Bool} (H : impl_TermsValid.f k l0 a1 = some r) : Ret Try.prog 119 [v0, .lit (.int .i64 a1)] fun v S => v = .lit (.bool r) := by
 unfold impl_TermsValid.f at H
 refine Ret.intro Try.func119 rfl (Nat.le_of_ble_eq_true rfl) rfl ?_
 rw [tm2]
 refine Evr.sr rfl (Opl.p1 (n := Opl.nil (Evr.sr rfl (Opl.p1 (n := Opl.p1 (n := ?_))))))
 obtain ⟨t, h_t, H⟩ := Option.bind_eq_some_iff.1 H
 refine Opl.call ((impl_kindsOf.ev hv0 h_t).mono fun _ _ h => Out.vecn h) rfl rfl rfl rfl ⟨hv0.plain, (.lit _), trivial⟩ (by decide) ?_
 rintro pv1 ⟨h1, h2⟩
 by_cases c1 : t = []
 case neg =>
  refine Opl.nesome (by exact h1) c1 K27 rfl rfl (Opl.p1 (n := Opl.nil ?_))
  obtain rfl := Option.some.inj H
  refine Evr.ret1 Try.func119 rfl ?_
  show (.lit (.bool true) : PV) = _
  first | rfl | (simp only [go_sem]; rfl) | (congr 2; simp_all)
 refine Opl.nenil (by exact h2 c1) K27 rfl rfl (Opl.p1 (n := Opl.nil ?_))
 obtain rfl := Option.some.inj H
 refine Evr.ret1 Try.func119 rfl ?_
 show (.lit (.bool false) : PV) = _
 first | rfl | (simp only [go_sem]; rfl) | (congr 2; simp_all)
theorem impl_bit.ev {a0 : Bool} {r : Int} (H : impl_bit.f a0 = some r) : Ret Try.prog 170 [.lit (.bool a0)] fun v S => v = .lit (.int .i64 r) := by
 unfold impl_bit.f at H
 refine Ret.intro Try.func170 rfl (Nat.le_of_ble_eq_true rfl) rfl ?_
 rw [tm1]
 refine Evr.sr rfl (Opl.p1 (n := Opl.nil (Evr.seq (Evr.sr rfl (Opl.p1 (n := Opl.nil ?_))))))
 by_cases c1 : a0 = true
 case pos =>
  rw [if_pos c1] at H
  obtain rfl : a0 = true := by simpa using c1
  refine Evr.condT rfl (Evr.sr rfl (Opl.p1 (n := Opl.nil ?_)))
  obtain rfl := Option.some.inj H
  refine Evr.ret1 Try.func170 rfl ?_
  show (.lit (.int .i64 1) : PV) = _
  first | rfl | (simp only [go_sem]; rfl)
 rw [if_neg c1] at H
 obtain rfl : a0 = false := by simpa using c1
 refine Evr.condF rfl (Evr.skip (Evr.sr rfl (Opl.p1 (n := Opl.nil ?_))))
 obtain rfl := Option.some.inj H
 refine Evr.ret1 Try.func170 rfl ?_
 show (.lit (.int .i64 0) : PV) = _
 first | rfl | (simp only [go_sem]; rfl)
theorem impl_held.ev {a0 : Int} {r : Int} (H : impl_held.f a0 = some r) : Ret Try.prog 167 [.lit (.int .i64 a0)] fun v S => v = .lit (.int .i64 r) := by
 unfold impl_held.f at H
 refine Ret.intro Try.func167 rfl (Nat.le_of_ble_eq_true rfl) rfl ?_
 rw [tm1]
 refine Evr.sr rfl (Opl.p1 (n := Opl.nil (Evr.sr rfl (Opl.p1 (n := Opl.one rfl rfl (by simp only [go_sem, minFn, maxFn]; rfl) (Opl.one rfl rfl (by simp only [go_sem, minFn, maxFn]; rfl) (Opl.p1 (n := Opl.nil ?_))))))))
 obtain rfl := Option.some.inj H
 refine Evr.ret1 Try.func167 rfl ?_
 show (.lit (.int .i64 (if (if a0 < 9999 then a0 else 9999) > (-9999) then (if a0 < 9999 then a0 else 9999) else (-9999))) : PV) = _
 first | rfl | (simp only [go_sem]; rfl)
theorem impl_do.ev {a0 : Int} {a1 : Int} {a2 : Int} {r : Int} (H : impl_do.f a0 a1 a2 = some r) : Ret Try.prog 171 [.lit (.int .i64 a0), .lit (.int .i64 a1), .lit (.int .i64 a2)] fun v S => v = .lit (.int .i64 r) := by
 unfold impl_do.f at H
 refine Ret.intro Try.func171 rfl (Nat.le_of_ble_eq_true rfl) rfl ?_
 rw [tm3]
 refine Evr.sr rfl (Opl.p1 (n := Opl.nil (Evr.seq (Evr.sr rfl (Opl.p1 (n := Opl.nil (Evr.block (Evr.sr rfl (Opl.p1 (n := Opl.p1 (n := Opl.nil ?_)))))))))))
 by_cases c1 : a0 = 2
 case pos =>
  rw [if_pos c1] at H
  have e1 : (a0 == 2) = true := by simpa using c1
  try rw [e1]
  refine Evr.condT rfl (Evr.sr rfl (Opl.p1 (n := Opl.p1 (n := Opl.add (k := .i64) (a := a1) (b := a2) K3 rfl rfl rfl rfl ?_))))
  obtain ⟨t1087, h_t1087, H⟩ := Option.bind_eq_some_iff.1 H
  refine Opl.callc (impl_held.ev h_t1087) rfl rfl rfl rfl ⟨(.lit _), trivial⟩ (by decide) (Opl.one (v := .lit (.int .i64 t1087)) rfl rfl rfl (Opl.nil ?_))
  obtain rfl := Option.some.inj H
  refine Evr.ret1 Try.func171 rfl ?_
  show (.lit (.int .i64 t1087) : PV) = _
  first | rfl | (simp only [go_sem]; rfl)
 rw [if_neg c1] at H
 have e2 : (a0 == 2) = false := by simpa using c1
 try rw [e2]
 refine Evr.condF rfl (Evr.sr rfl (Opl.p1 (n := Opl.p1 (n := Opl.nil ?_))))
 by_cases c2 : a0 = 3
 case pos =>
  rw [if_pos c2] at H
  have e3 : (a0 == 3) = true := by simpa using c2
  try rw [e3]
  refine Evr.condT rfl (Evr.sr rfl (Opl.p1 (n := Opl.p1 (n := Opl.subi (k := .i64) (a := a1) (b := a2) K3 rfl rfl rfl rfl ?_))))
  obtain ⟨t1088, h_t1088, H⟩ := Option.bind_eq_some_iff.1 H
  refine Opl.callc (impl_held.ev h_t1088) rfl rfl rfl rfl ⟨(.lit _), trivial⟩ (by decide) (Opl.one (v := .lit (.int .i64 t1088)) rfl rfl rfl (Opl.nil ?_))
  obtain rfl := Option.some.inj H
  refine Evr.ret1 Try.func171 rfl ?_
  show (.lit (.int .i64 t1088) : PV) = _
  first | rfl | (simp only [go_sem]; rfl)
 rw [if_neg c2] at H
 have e4 : (a0 == 3) = false := by simpa using c2
 try rw [e4]
 refine Evr.condF rfl (Evr.sr rfl (Opl.p1 (n := Opl.p1 (n := Opl.nil ?_))))
 by_cases c3 : a0 = 4
 case pos =>
  rw [if_pos c3] at H
  have e5 : (a0 == 4) = true := by simpa using c3
  try rw [e5]
  refine Evr.condT rfl (Evr.sr rfl (Opl.p1 (n := Opl.p1 (n := Opl.mul (k := .i64) (a := a1) (b := a2) K3 rfl rfl rfl rfl ?_))))
  obtain ⟨t1089, h_t1089, H⟩ := Option.bind_eq_some_iff.1 H
  refine Opl.callc (impl_held.ev h_t1089) rfl rfl rfl rfl ⟨(.lit _), trivial⟩ (by decide) (Opl.one (v := .lit (.int .i64 t1089)) rfl rfl rfl (Opl.nil ?_))
  obtain rfl := Option.some.inj H
  refine Evr.ret1 Try.func171 rfl ?_
  show (.lit (.int .i64 t1089) : PV) = _
  first | rfl | (simp only [go_sem]; rfl)
 rw [if_neg c3] at H
 have e6 : (a0 == 4) = false := by simpa using c3
 try rw [e6]
 refine Evr.condF rfl (Evr.sr rfl (Opl.p1 (n := Opl.p1 (n := Opl.nil ?_))))
 by_cases c4 : a0 = 5
 case pos =>
  rw [if_pos c4] at H
  have e7 : (a0 == 5) = true := by simpa using c4
  try rw [e7]
  refine Evr.condT rfl (Evr.sr rfl (Opl.p1 (n := Opl.p1 (n := Opl.p1 (n := ?_)))))
  obtain ⟨t1090, h_t1090, H⟩ := Option.bind_eq_some_iff.1 H
  refine Opl.callc (impl_bit.ev h_t1090) rfl rfl rfl rfl ⟨(.lit _), trivial⟩ (by decide) (Opl.p1 (n := Opl.nil ?_))
  obtain rfl := Option.some.inj H
  refine Evr.ret1 Try.func171 rfl ?_
  show (.lit (.int .i64 t1090) : PV) = _
  first | rfl | (simp only [go_sem]; rfl)
 rw [if_neg c4] at H
 have e8 : (a0 == 5) = false := by simpa using c4
 try rw [e8]
 refine Evr.condF rfl (Evr.sr rfl (Opl.p1 (n := Opl.p1 (n := Opl.nil ?_))))
 by_cases c5 : a0 = 6
 case pos =>
  rw [if_pos c5] at H
  have e9 : (a0 == 6) = true := by simpa using c5
  try rw [e9]
  refine Evr.condT rfl (Evr.sr rfl (Opl.p1 (n := Opl.p1 (n := Opl.p1 (n := ?_)))))
  obtain ⟨t1091, h_t1091, H⟩ := Option.bind_eq_some_iff.1 H
  refine Opl.callc (impl_bit.ev h_t1091) rfl rfl rfl rfl ⟨(.lit _), trivial⟩ (by decide) (Opl.p1 (n := Opl.nil ?_))
  obtain rfl := Option.some.inj H
  refine Evr.ret1 Try.func171 rfl ?_
  show (.lit (.int .i64 t1091) : PV) = _
  first | rfl | (simp only [go_sem]; rfl)
 rw [if_neg c5] at H
 have e10 : (a0 == 6) = false := by simpa using c5
 try rw [e10]
 refine Evr.condF rfl (Evr.sr rfl (Opl.p1 (n := Opl.p1 (n := Opl.nil ?_))))
 by_cases c6 : a0 = 7
 case pos =>
  rw [if_pos c6] at H
  have e11 : (a0 == 7) = true := by simpa using c6
  try rw [e11]
  refine Evr.condT rfl (Evr.sr rfl (Opl.p1 (n := Opl.subi (k := .i64) (a := 1) (b := a1) K3 rfl rfl rfl rfl (Opl.one (v := .lit (.int .i64 (wrap64 (1 - a1)))) rfl rfl rfl (Opl.nil ?_)))))
  obtain rfl := Option.some.inj H
  refine Evr.ret1 Try.func171 rfl ?_
  show (.lit (.int .i64 (wrap64 (1 - a1))) : PV) = _
  first | rfl | (simp only [go_sem]; rfl)
 rw [if_neg c6] at H
 have e12 : (a0 == 7) = false := by simpa using c6
 try rw [e12]
 refine Evr.condF rfl (Evr.sr rfl (Opl.p1 (n := Opl.p1 (n := Opl.nil ?_))))
 by_cases c7 : a0 = 8
 case pos =>
  rw [if_pos c7] at H
  have e13 : (a0 == 8) = true := by simpa using c7
  try rw [e13]
  refine Evr.condT rfl (Evr.sr rfl (Opl.p1 (n := Opl.p1 (n := Opl.one rfl rfl (by simp only [go_sem, minFn, maxFn]; rfl) (Opl.p1 (n := Opl.nil ?_))))))
  obtain rfl := Option.some.inj H
  refine Evr.ret1 Try.func171 rfl ?_
  show (.lit (.int .i64 (if a2 < a1 then a2 else a1)) : PV) = _
  first | rfl | (simp only [go_sem]; rfl)
 rw [if_neg c7] at H
 have e14 : (a0 == 8) = false := by simpa using c7
 try rw [e14]
 refine Evr.condF rfl (Evr.skip (Evr.inBlock (Evr.sr rfl (Opl.p1 (n := Opl.p1 (n := Opl.one rfl rfl (by simp only [go_sem, minFn, maxFn]; rfl) (Opl.p1 (n := Opl.nil ?_))))))))
 obtain rfl := Option.some.inj H
 refine Evr.ret1 Try.func171 rfl ?_
 show (.lit (.int .i64 (if a2 > a1 then a2 else a1)) : PV) = _
 first | rfl | (simp only [go_sem]; rfl)
theorem impl_eval.ev {k : Nat} {l0 : List ITerm} {v0 : PV} (hv0 : Sl cITerm l0 v0) {l1 : List Int} {v1 : PV} (hv1 : Sl (cInt .i64) l1 v1) {r : Int} (H : impl_eval.f k l0 l1 = some r) : Ret Try.prog 124 [v0, v1] fun v S => v = .lit (.int .i64 r) := by
 unfold impl_eval.f at H
 refine Ret.intro Try.func124 rfl (Nat.le_of_ble_eq_true rfl) rfl ?_
 rw [tm2]
 refine Evr.sr rfl (Opl.p1 (n := Opl.nil (Evr.sr rfl (Opl.p1 (n := Opl.len (xs := l0) (by exact hv0) K66 rfl rfl rfl rfl ?_)))))
 obtain ⟨c1, H⟩ := peel H
 obtain ⟨c2, H⟩ := peel H
 refine Opl.make (M := (cInt .i64)) (m := (l0.length : Int)) (0 : Int) (by exact rfl) rfl rfl K27 T3 rfl (by omega) (by show ((l0.length : Int)).toNat * 8 ≤ 281474976710656; omega) (by omega) rfl rfl rfl ?_
 rintro pv1 S h1 u1 w1
 refine Opl.p1 (n := Opl.nil (Evr.seq (Evr.sr rfl (Opl.p1 (n := Opl.len (xs := l0) (by exact hv0) K66 rfl rfl rfl rfl (Opl.p1 (n := Opl.nil (Evr.block ?_))))))))
 refine Evr.loop (Evr.rounds (n := k) (Inv := fun n tm S => n ≤ k ∧ ∃ (x5_1 : List Int) (x13_1 : Int) (pv2 : PV), impl_eval.l0 n l1 x5_1 l0 (l0.length : Int) x13_1 = some r ∧ Has tm [(1, v1), (5, pv2), (11, v0), (12, .lit (.int .i64 (l0.length : Int))), (13, .lit (.int .i64 x13_1))] ∧ Vec (cInt .i64) x5_1 pv2 S) ?_ ?_ ?_)
 · exact ⟨Nat.le_refl _, _, _, _, H, ⟨rfl, rfl, rfl, rfl, rfl, trivial⟩, h1⟩
 ·
  rintro tm S ⟨_, _, _, _, H, -⟩
  simp [impl_eval.l0] at H
 ·
  rintro n1 ih1 tm S ⟨hle, x5_1, x13_1, pv2, H, hh, h2⟩
  simp only [impl_eval.l0] at H
  rw [hh.eq]
  refine Evr.sr rfl (Opl.p1 (n := Opl.nil (Evr.seq ?_)))
  by_cases c3 : x13_1 < (l0.length : Int)
  case neg =>
   rw [if_neg c3] at H
   have e6 : (decide (x13_1 < (l0.length : Int))) = false := by simpa using c3
   try rw [e6]
   refine Evr.condF rfl (Evr.exit rfl (Evr.sr rfl (Opl.p1 (n := Opl.p1 (n := Opl.lenv (xs := x5_1) (by exact h2) K27 rfl rfl rfl rfl (Opl.subi (k := .i64) (a := (x5_1.length : Int)) (b := 1) K3 rfl rfl rfl rfl ?_))))))
   obtain ⟨c17, H⟩ := peel H
   obtain ⟨c18, H⟩ := peel H
   refine Opl.idv (M := (cInt .i64)) (xs := x5_1) (j := (wrap64 ((x5_1.length : Int) - 1))) (v := pv2) h2 rfl rfl (by omega) (by omega) K27 Z3 rfl rfl ?_
   rintro d6 z6 q10 h29 h30
   refine Opl.ldv (M := (cInt .i64)) (xs := x5_1) (j := (wrap64 ((x5_1.length : Int) - 1))) (0 : Int) h29 h30 (by omega) (by omega) rfl T3 rfl rfl rfl ?_
   rintro p5 q11 h31
   obtain rfl : p5 = [.lit (.int .i64 (rd x5_1 (wrap64 ((x5_1.length : Int) - 1))))] := h31
   refine ⟨.lit (.int .i64 (rd x5_1 (wrap64 ((x5_1.length : Int) - 1)))), rfl, ?_⟩
   refine Opl.one (v := .lit (.int .i64 (rd x5_1 (wrap64 ((x5_1.length : Int) - 1))))) rfl rfl rfl (Opl.nil ?_)
   obtain rfl := Option.some.inj H
   refine Evr.ret1 Try.func124 rfl ?_
   show (.lit (.int .i64 (rd x5_1 (wrap64 ((x5_1.length : Int) - 1)))) : PV) = _
   first | rfl | (simp only [go_sem]; rfl)
  rw [if_pos c3] at H
  have e1 : (decide (x13_1 < (l0.length : Int))) = true := by simpa using c3
  try rw [e1]
  refine Evr.condT rfl (Evr.skip (Evr.seq (Evr.block (Evr.sr rfl (Opl.p1 (n := ?_))))))
  obtain ⟨c4, H⟩ := peel H
  obtain ⟨c5, H⟩ := peel H
  refine Opl.idx (M := cITerm) (xs := l0) (j := x13_1) zITerm (by exact hv0) rfl (by omega) (by omega) K66 Z128 rfl rfl ?_
  rintro p1 q1 h3
  obtain rfl := cITerm_R (x := (rd_ITerm l0 x13_1)) h3
  refine Opl.lda (.agg [.lit (.int .i64 ((rd_ITerm l0 x13_1).f0)), .lit (.int .i64 ((rd_ITerm l0 x13_1).f1)), .lit (.int .i64 ((rd_ITerm l0 x13_1).f2)), .lit (.int .i64 ((rd_ITerm l0 x13_1).f3))]) rfl T128 rfl rfl rfl rfl (Opl.alloc T128 rfl rfl rfl ?_)
  rintro i1 S h4 u2 w2
  have ap1 := w2.vec h2
  have h5 := u2.vec h2 ap1
  refine Opl.p1 (n := Opl.stb (vs := [.lit (.int .i64 ((rd_ITerm l0 x13_1).f0)), .lit (.int .i64 ((rd_ITerm l0 x13_1).f1)), .lit (.int .i64 ((rd_ITerm l0 x13_1).f2)), .lit (.int .i64 ((rd_ITerm l0 x13_1).f3))]) h4 rfl rfl Z128 rfl (Nat.le_of_ble_eq_true rfl) rfl rfl rfl rfl ?_)
  rintro S (h6 : Box (.ptr i1 0) [.lit (.int .i64 ((rd_ITerm l0 x13_1).f0)), .lit (.int .i64 ((rd_ITerm l0 x13_1).f1)), .lit (.int .i64 ((rd_ITerm l0 x13_1).f2)), .lit (.int .i64 ((rd_ITerm l0 x13_1).f3))] _) u3
  have h7 := u3.vec h5 ap1
  refine Opl.nil (Evr.sr rfl (Opl.p1 (v := .ptr i1 0) (n := Opl.ldb (v := .lit (.int .i64 ((rd_ITerm l0 x13_1).f0))) h6 rfl T3 rfl rfl rfl rfl (Opl.nil (Evr.block (Evr.sr rfl (Opl.p1 (n := Opl.p1 (n := Opl.nil ?_)))))))))
  refine Evr.join (fun tm S => ∃ (kq1 : Nat) (x5_2 : List Int) (pv3 : PV), impl_eval.l0 kq1 l1 x5_2 l0 (l0.length : Int) (wrap64 (x13_1 + 1)) = some r ∧ kq1 ≤ n1 ∧ Has tm [(1, v1), (5, pv3), (11, v0), (12, .lit (.int .i64 (l0.length : Int))), (13, .lit (.int .i64 x13_1))] ∧ Vec (cInt .i64) x5_2 pv3 S) ?_ fun hk1 => ?_
  ·
   rintro tm S ⟨kq1, x5_2, pv3, H, hle, hh, h8⟩
   rw [hh.eq]
   refine Evr.inBlock (Evr.inBlock (Evr.regionN rfl (Opl.add (k := .i64) (a := x13_1) (b := 1) K3 rfl rfl rfl rfl (Opl.one (v := .lit (.int .i64 (wrap64 (x13_1 + 1)))) rfl rfl rfl (Opl.nil ?_)))))
   exact ih1 _ (by omega) _ _ ⟨by omega, _, _, _, H, ⟨rfl, rfl, rfl, rfl, rfl, trivial⟩, h8⟩
  ·
   by_cases c6 : ((rd_ITerm l0 x13_1).f0) = 0
   case pos =>
    rw [if_pos c6] at H
    have e2 : (((rd_ITerm l0 x13_1).f0) == 0) = true := by simpa using c6
    try rw [e2]
    refine Evr.condT rfl (Evr.regionN rfl (Opl.p1 (n := Opl.p1 (n := Opl.p1 (v := .ptr i1 1) (n := Opl.ldb (v := .lit (.int .i64 ((rd_ITerm l0 x13_1).f1))) h6 rfl T3 rfl rfl rfl rfl ?_)))))
    obtain ⟨c7, H⟩ := peel H
    refine Opl.idv (M := (cInt .i64)) (xs := x5_1) (j := x13_1) (v := pv2) h7 rfl rfl (by omega) (by omega) K27 Z3 rfl rfl ?_
    rintro d1 z1 q2 h9 h10
    refine Opl.stv (M := (cInt .i64)) (xs := x5_1) (j := x13_1) (y := ((rd_ITerm l0 x13_1).f1)) (vs := [.lit (.int .i64 ((rd_ITerm l0 x13_1).f1))]) h9 h10 (by omega) (by omega) rfl rfl (by exact rfl) Z3 rfl rfl rfl rfl ?_
    rw [← q2]
    rintro S h11 u4
    have h12 := u4.box h6 ap1.symm
    refine Opl.nil ?_
    exact hk1 _ _ ⟨_, _, _, H, by omega, ⟨rfl, rfl, rfl, rfl, rfl, trivial⟩, h11⟩
   rw [if_neg c6] at H
   have e3 : (((rd_ITerm l0 x13_1).f0) == 0) = false := by simpa using c6
   try rw [e3]
   refine Evr.condF rfl (Evr.sr rfl (Opl.p1 (n := Opl.p1 (n := Opl.nil ?_))))
   refine Evr.join (fun tm S => ∃ (kq2 : Nat) (x5_3 : List Int) (pv4 : PV), impl_eval.l0 kq2 l1 x5_3 l0 (l0.length : Int) (wrap64 (x13_1 + 1)) = some r ∧ kq2 ≤ n1 ∧ Has tm [(1, v1), (5, pv4), (11, v0), (12, .lit (.int .i64 (l0.length : Int))), (13, .lit (.int .i64 x13_1))] ∧ Vec (cInt .i64) x5_3 pv4 S) ?_ fun hk2 => ?_
   ·
    rintro tm S ⟨kq2, x5_3, pv4, H, hle, hh, h13⟩
    rw [hh.eq]
    exact hk1 _ _ ⟨_, _, _, H, by omega, ⟨rfl, rfl, rfl, rfl, rfl, trivial⟩, h13⟩
   ·
    by_cases c8 : ((rd_ITerm l0 x13_1).f0) = 1
    case pos =>
     rw [if_pos c8] at H
     have e4 : (((rd_ITerm l0 x13_1).f0) == 1) = true := by simpa using c8
     try rw [e4]
     refine Evr.condT rfl (Evr.regionN rfl (Opl.p1 (n := Opl.p1 (n := Opl.p1 (n := Opl.p1 (v := .ptr i1 1) (n := Opl.ldb (v := .lit (.int .i64 ((rd_ITerm l0 x13_1).f1))) h6 rfl T3 rfl rfl rfl rfl ?_))))))
     obtain ⟨c9, H⟩ := peel H
     obtain ⟨c10, H⟩ := peel H
     obtain ⟨c11, H⟩ := peel H
     refine Opl.idx (M := (cInt .i64)) (xs := l1) (j := ((rd_ITerm l0 x13_1).f1)) (0 : Int) (by exact hv1) rfl (by omega) (by omega) K27 Z3 rfl rfl ?_
     rintro p2 q3 h14
     obtain rfl : p2 = [.lit (.int .i64 (rd l1 ((rd_ITerm l0 x13_1).f1)))] := h14
     refine Opl.lda (.lit (.int .i64 (rd l1 ((rd_ITerm l0 x13_1).f1)))) rfl T3 rfl rfl rfl rfl (Opl.idv (M := (cInt .i64)) (xs := x5_1) (j := x13_1) (v := pv2) h7 rfl rfl (by omega) (by omega) K27 Z3 rfl rfl ?_)
     rintro d2 z2 q4 h15 h16
     refine Opl.stv (M := (cInt .i64)) (xs := x5_1) (j := x13_1) (y := (rd l1 ((rd_ITerm l0 x13_1).f1))) (vs := [.lit (.int .i64 (rd l1 ((rd_ITerm l0 x13_1).f1)))]) h15 h16 (by omega) (by omega) rfl rfl (by exact rfl) Z3 rfl rfl rfl rfl ?_
     rw [← q4]
     rintro S h17 u5
     have h18 := u5.box h6 ap1.symm
     refine Opl.nil ?_
     exact hk2 _ _ ⟨_, _, _, H, by omega, ⟨rfl, rfl, rfl, rfl, rfl, trivial⟩, h17⟩
    rw [if_neg c8] at H
    have e5 : (((rd_ITerm l0 x13_1).f0) == 1) = false := by simpa using c8
    try rw [e5]
    refine Evr.condF rfl (Evr.regionD rfl (by kernel_rfl) (Opl.p1 (n := Opl.p1 (n := Opl.p1 (v := .ptr i1 0) (n := Opl.ldb (v := .lit (.int .i64 ((rd_ITerm l0 x13_1).f0))) h6 rfl T3 rfl rfl rfl rfl (Opl.p1 (n := Opl.p1 (v := .ptr i1 2) (n := Opl.ldb (v := .lit (.int .i64 ((rd_ITerm l0 x13_1).f2))) h6 rfl T3 rfl rfl rfl rfl ?_))))))))
    obtain ⟨c12, H⟩ := peel H
    obtain ⟨c13, H⟩ := peel H
    obtain ⟨c14, H⟩ := peel H
    obtain ⟨c15, H⟩ := peel H
    refine Opl.idv (M := (cInt .i64)) (xs := x5_1) (j := ((rd_ITerm l0 x13_1).f2)) (v := pv2) h7 rfl rfl (by omega) (by omega) K27 Z3 rfl rfl ?_
    rintro d3 z3 q5 h19 h20
    refine Opl.ldv (M := (cInt .i64)) (xs := x5_1) (j := ((rd_ITerm l0 x13_1).f2)) (0 : Int) h19 h20 (by omega) (by omega) rfl T3 rfl rfl rfl ?_
    rintro p3 q6 h21
    obtain rfl : p3 = [.lit (.int .i64 (rd x5_1 ((rd_ITerm l0 x13_1).f2)))] := h21
    refine ⟨.lit (.int .i64 (rd x5_1 ((rd_ITerm l0 x13_1).f2))), rfl, ?_⟩
    refine Opl.p1 (n := Opl.p1 (v := .ptr i1 3) (n := Opl.ldb (v := .lit (.int .i64 ((rd_ITerm l0 x13_1).f3))) h6 rfl T3 rfl rfl rfl rfl (Opl.idv (M := (cInt .i64)) (xs := x5_1) (j := ((rd_ITerm l0 x13_1).f3)) (v := pv2) h7 rfl rfl (by omega) (by omega) K27 Z3 rfl rfl ?_)))
    rintro d4 z4 q7 h22 h23
    refine Opl.ldv (M := (cInt .i64)) (xs := x5_1) (j := ((rd_ITerm l0 x13_1).f3)) (0 : Int) h22 h23 (by omega) (by omega) rfl T3 rfl rfl rfl ?_
    rintro p4 q8 h24
    obtain rfl : p4 = [.lit (.int .i64 (rd x5_1 ((rd_ITerm l0 x13_1).f3)))] := h24
    refine ⟨.lit (.int .i64 (rd x5_1 ((rd_ITerm l0 x13_1).f3))), rfl, ?_⟩
    obtain ⟨t1103, h_t1103, H⟩ := Option.bind_eq_some_iff.1 H
    refine Opl.callc (impl_do.ev h_t1103) rfl rfl rfl rfl ⟨(.lit _), (.lit _), (.lit _), trivial⟩ (by decide) ?_
    obtain ⟨c16, H⟩ := peel H
    refine Opl.idv (M := (cInt .i64)) (xs := x5_1) (j := x13_1) (v := pv2) h7 rfl rfl (by omega) (by omega) K27 Z3 rfl rfl ?_
    rintro d5 z5 q9 h25 h26
    refine Opl.stv (M := (cInt .i64)) (xs := x5_1) (j := x13_1) (y := t1103) (vs := [.lit (.int .i64 t1103)]) h25 h26 (by omega) (by omega) rfl rfl (by exact rfl) Z3 rfl rfl rfl rfl ?_
    rw [← q9]
    rintro S h27 u6
    have h28 := u6.box h6 ap1.symm
    refine Opl.nil ?_
    exact hk2 _ _ ⟨_, _, _, H, by omega, ⟨rfl, rfl, rfl, rfl, rfl, trivial⟩, h27⟩
theorem impl_stateOk_1.ev {a0 : Int} {r : Bool} (H : impl_stateOk_1.f a0 = some r) : Ret Try.prog 165 [.lit (.int .i64 a0)] fun v S => v = .lit (.bool r) := by
 unfold impl_stateOk_1.f at H
 refine Ret.intro Try.func165 rfl (Nat.le_of_ble_eq_true rfl) rfl ?_
 rw [tm1]
 refine Evr.sr rfl (Opl.p1 (n := Opl.nil (Evr.sr rfl (Opl.p1 (n := ?_)))))
 obtain ⟨t1598, h_t1598, H⟩ := Option.bind_eq_some_iff.1 H
 refine Opl.callc (impl_in.ev h_t1598) rfl rfl rfl rfl ⟨(.lit _), (.lit _), (.lit _), trivial⟩ (by decide) (Opl.p1 (n := Opl.p1 (n := Opl.nil ?_)))
 obtain rfl := Option.some.inj H
 refine Evr.ret1 Try.func165 rfl ?_
 show (.lit (.bool (!t1598)) : PV) = _
 first | rfl | (simp only [go_sem]; rfl)
theorem slices_IndexFunc_at_impl_stateOk_1.ev {k : Nat} {l0 : List Int} {v0 : PV} (hv0 : Sl (cInt .i64) l0 v0) {r : Int} (H : slices_IndexFunc_at_impl_stateOk_1.f k l0 = some r) : Ret Try.prog 142 [v0, .lit (.func (.func 165) #[] #[])] fun v S => v = .lit (.int .i64 r) := by
 unfold slices_IndexFunc_at_impl_stateOk_1.f at H
 refine Ret.intro Try.func142 rfl (Nat.le_of_ble_eq_true rfl) rfl ?_
 rw [tm2]
 refine Evr.sr rfl (Opl.p1 (n := Opl.nil (Evr.seq (Evr.sr rfl (Opl.p1 (n := Opl.len (xs := l0) (by exact hv0) K27 rfl rfl rfl rfl (Opl.p1 (n := Opl.nil (Evr.block ?_)))))))))
 refine Evr.loop (Evr.rounds (n := k) (Inv := fun n tm S => n ≤ k ∧ ∃ (x8_1 : Int), slices_IndexFunc_at_impl_stateOk_1.l0 n l0 (l0.length : Int) x8_1 = some r ∧ Has tm [(0, v0), (1, .lit (.func (.func 165) #[] #[])), (7, .lit (.int .i64 (l0.length : Int))), (8, .lit (.int .i64 x8_1))]) ?_ ?_ ?_)
 · exact ⟨Nat.le_refl _, _, H, ⟨rfl, rfl, rfl, rfl, trivial⟩⟩
 ·
  rintro tm S ⟨_, _, H, -⟩
  simp [slices_IndexFunc_at_impl_stateOk_1.l0] at H
 ·
  rintro n1 ih1 tm S ⟨hle, x8_1, H, hh⟩
  simp only [slices_IndexFunc_at_impl_stateOk_1.l0] at H
  rw [hh.eq]
  refine Evr.sr rfl (Opl.p1 (n := Opl.nil (Evr.seq ?_)))
  by_cases c1 : x8_1 < (l0.length : Int)
  case neg =>
   rw [if_neg c1] at H
   have e2 : (decide (x8_1 < (l0.length : Int))) = false := by simpa using c1
   try rw [e2]
   refine Evr.condF rfl (Evr.exit rfl (Evr.sr rfl (Opl.p1 (n := Opl.nil ?_))))
   obtain rfl := Option.some.inj H
   refine Evr.ret1 Try.func142 rfl ?_
   show (.lit (.int .i64 (-1)) : PV) = _
   first | rfl | (simp only [go_sem]; rfl)
  rw [if_pos c1] at H
  have e1 : (decide (x8_1 < (l0.length : Int))) = true := by simpa using c1
  try rw [e1]
  refine Evr.condT rfl (Evr.skip (Evr.seq (Evr.block (Evr.sr rfl (Opl.p1 (n := Opl.p1 (n := Opl.nil (Evr.sr rfl (Opl.p1 (n := Opl.p1 (n := Opl.p1 (n := ?_))))))))))))
  obtain ⟨c2, H⟩ := peel H
  obtain ⟨c3, H⟩ := peel H
  refine Opl.idx (M := (cInt .i64)) (xs := l0) (j := x8_1) (0 : Int) (by exact hv0) rfl (by omega) (by omega) K27 Z3 rfl rfl ?_
  rintro p1 q1 h1
  obtain rfl : p1 = [.lit (.int .i64 (rd l0 x8_1))] := h1
  refine Opl.lda (.lit (.int .i64 (rd l0 x8_1))) rfl T3 rfl rfl rfl rfl ?_
  obtain ⟨t1600, h_t1600, H⟩ := Option.bind_eq_some_iff.1 H
  refine Opl.callc (impl_stateOk_1.ev h_t1600) rfl rfl rfl rfl ⟨(.lit _), trivial⟩ (by decide) (Opl.nil ?_)
  by_cases c4 : t1600 = true
  case pos =>
   rw [if_pos c4] at H
   obtain rfl : t1600 = true := by simpa using c4
   refine Evr.condT rfl (Evr.sr rfl (Opl.p1 (n := Opl.p1 (n := Opl.nil ?_))))
   obtain rfl := Option.some.inj H
   refine Evr.ret1 Try.func142 rfl ?_
   show (.lit (.int .i64 x8_1) : PV) = _
   first | rfl | (simp only [go_sem]; rfl)
  rw [if_neg c4] at H
  obtain rfl : t1600 = false := by simpa using c4
  refine Evr.condF rfl (Evr.skip (Evr.inBlock (Evr.regionN rfl (Opl.add (k := .i64) (a := x8_1) (b := 1) K3 rfl rfl rfl rfl (Opl.one (v := .lit (.int .i64 (wrap64 (x8_1 + 1)))) rfl rfl rfl (Opl.nil ?_))))))
  exact ih1 _ (by omega) _ _ ⟨by omega, _, H, ⟨rfl, rfl, rfl, rfl, trivial⟩⟩
theorem slices_ContainsFunc_at_impl_stateOk_1.ev {k : Nat} {l0 : List Int} {v0 : PV} (hv0 : Sl (cInt .i64) l0 v0) {r : Bool} (H : slices_ContainsFunc_at_impl_stateOk_1.f k l0 = some r) : Ret Try.prog 71 [v0, .lit (.func (.func 165) #[] #[])] fun v S => v = .lit (.bool r) := by
 unfold slices_ContainsFunc_at_impl_stateOk_1.f at H
 refine Ret.intro Try.func71 rfl (Nat.le_of_ble_eq_true rfl) rfl ?_
 rw [tm2]
 refine Evr.sr rfl (Opl.p1 (n := Opl.nil (Evr.sr rfl (Opl.p1 (n := Opl.p1 (n := ?_))))))
 obtain ⟨t1601, h_t1601, H⟩ := Option.bind_eq_some_iff.1 H
 refine Opl.callc (slices_IndexFunc_at_impl_stateOk_1.ev hv0 h_t1601) rfl rfl rfl rfl ⟨hv0.plain, (.lit _), trivial⟩ (by decide) (Opl.p1 (n := Opl.p1 (n := Opl.nil ?_)))
 obtain rfl := Option.some.inj H
 refine Evr.ret1 Try.func71 rfl ?_
 show (.lit (.bool (decide (t1601 ≥ 0))) : PV) = _
 first | rfl | (simp only [go_sem]; rfl)
theorem impl_stateOk.ev {k : Nat} {l0 : List Int} {v0 : PV} (hv0 : Sl (cInt .i64) l0 v0) {r : Bool} (H : impl_stateOk.f k l0 = some r) : Ret Try.prog 118 [v0] fun v S => v = .lit (.bool r) := by
 unfold impl_stateOk.f at H
 refine Ret.intro Try.func118 rfl (Nat.le_of_ble_eq_true rfl) rfl ?_
 rw [tm1]
 refine Evr.sr rfl (Opl.p1 (n := Opl.nil (Evr.sr rfl (Opl.p1 (n := Opl.len (xs := l0) (by exact hv0) K27 rfl rfl rfl rfl (Opl.p1 (n := Opl.p1 (n := ?_))))))))
 by_cases c1 : (l0.length : Int) ≤ 5
 case neg =>
  rw [if_neg c1] at H
  have e2 : (decide ((l0.length : Int) ≤ 5)) = false := by simpa using c1
  try rw [e2]
  refine Opl.skp rfl (Opl.skp rfl (Opl.skp rfl (Opl.p1 (n := Opl.p1 (n := Opl.nil ?_)))))
  obtain rfl := Option.some.inj H
  refine Evr.ret1 Try.func118 rfl ?_
  show (.lit (.bool false) : PV) = _
  first | rfl | (simp only [go_sem]; rfl)
 rw [if_pos c1] at H
 have e1 : (decide ((l0.length : Int) ≤ 5)) = true := by simpa using c1
 try rw [e1]
 refine Opl.p1 (n := ?_)
 obtain ⟨t1602, h_t1602, H⟩ := Option.bind_eq_some_iff.1 H
 refine Opl.callc (slices_ContainsFunc_at_impl_stateOk_1.ev hv0 h_t1602) rfl rfl rfl rfl ⟨hv0.plain, (.lit _), trivial⟩ (by decide) (Opl.p1 (n := Opl.p1 (n := Opl.p1 (n := Opl.nil ?_))))
 obtain rfl := Option.some.inj H
 refine Evr.ret1 Try.func118 rfl ?_
 show (.lit (.bool (!t1602)) : PV) = _
 first | rfl | (simp only [go_sem]; rfl)
theorem impl_Eval.ev {k : Nat} {l0 : List ITerm} {v0 : PV} (hv0 : Sl cITerm l0 v0) {l1 : List Int} {v1 : PV} (hv1 : Sl (cInt .i64) l1 v1) {r : Int × Bool} (H : impl_Eval.f k l0 l1 = some r) : Ret Try.prog 47 [v0, v1] fun v S => Out (fun q => ∃ q1 q2, q = .tup [q1, q2] ∧ q1 = .lit (.int .i64 r.1) ∧ q2 = .lit (.bool r.2)) v S := by
 unfold impl_Eval.f at H
 refine Ret.intro Try.func47 rfl (Nat.le_of_ble_eq_true rfl) rfl ?_
 rw [tm2]
 refine Evr.sr rfl (Opl.p1 (n := Opl.p1 (n := Opl.nil (Evr.seq (Evr.sr rfl (Opl.p1 (n := ?_)))))))
 obtain ⟨t1780, h_t1780, H⟩ := Option.bind_eq_some_iff.1 H
 refine Opl.callc (impl_stateOk.ev hv1 h_t1780) rfl rfl rfl rfl ⟨hv1.plain, trivial⟩ (by decide) (Opl.p1 (n := Opl.p1 (n := ?_)))
 by_cases c1 : t1780 = true
 case neg =>
  rw [if_neg c1] at H
  have e4 : (!t1780) = true := by simpa using c1
  try rw [e4]
  refine Opl.skp rfl (Opl.skp rfl (Opl.skp rfl (Opl.skp rfl (Opl.skp rfl (Opl.p1 (n := Opl.nil (Evr.condT rfl (Evr.sr rfl (Opl.p1 (n := Opl.p1 (n := Opl.nil ?_)))))))))))
  obtain rfl := Option.some.inj H
  refine Evr.ret2 Try.func47 rfl ?_
  show Out _ (.tup [.lit (.int .i64 0), .lit (.bool false)]) _
  exact .tup2 .lit .lit
 rw [if_pos c1] at H
 have e1 : (!t1780) = false := by simpa using c1
 try rw [e1]
 refine Opl.p1 (n := Opl.p1 (n := Opl.len (xs := l1) (by exact hv1) K27 rfl rfl rfl rfl ?_))
 obtain ⟨t1781, h_t1781, H⟩ := Option.bind_eq_some_iff.1 H
 refine Opl.callc (impl_TermsValid.ev hv0 h_t1781) rfl rfl rfl rfl ⟨hv0.plain, (.lit _), trivial⟩ (by decide) (Opl.p1 (n := Opl.p1 (n := Opl.nil ?_)))
 by_cases c2 : t1781 = true
 case neg =>
  rw [if_neg c2] at H
  have e3 : (!t1781) = true := by simpa using c2
  try rw [e3]
  refine Evr.condT rfl (Evr.sr rfl (Opl.p1 (n := Opl.p1 (n := Opl.nil ?_))))
  obtain rfl := Option.some.inj H
  refine Evr.ret2 Try.func47 rfl ?_
  show Out _ (.tup [.lit (.int .i64 0), .lit (.bool false)]) _
  exact .tup2 .lit .lit
 rw [if_pos c2] at H
 have e2 : (!t1781) = false := by simpa using c2
 try rw [e2]
 refine Evr.condF rfl (Evr.skip (Evr.sr rfl (Opl.p1 (n := Opl.p1 (n := ?_)))))
 obtain ⟨t1782, h_t1782, H⟩ := Option.bind_eq_some_iff.1 H
 refine Opl.callc (impl_eval.ev hv0 hv1 h_t1782) rfl rfl rfl rfl ⟨hv0.plain, hv1.plain, trivial⟩ (by decide) (Opl.p1 (n := Opl.p1 (n := Opl.nil ?_)))
 obtain rfl := Option.some.inj H
 refine Evr.ret2 Try.func47 rfl ?_
 show Out _ (.tup [.lit (.int .i64 t1782), .lit (.bool true)]) _
 exact .tup2 .lit .lit
theorem slices_Max_int_int.ev {k : Nat} {l0 : List Int} {v0 : PV} (hv0 : Sl (cInt .i64) l0 v0) {r : Int} (H : slices_Max_int_int.f k l0 = some r) : Ret Try.prog 169 [v0] fun v S => v = .lit (.int .i64 r) := by
 unfold slices_Max_int_int.f at H
 refine Ret.intro Try.func169 rfl (Nat.le_of_ble_eq_true rfl) rfl ?_
 rw [tm1]
 refine Evr.sr rfl (Opl.p1 (n := Opl.nil (Evr.seq (Evr.sr rfl (Opl.p1 (n := Opl.len (xs := l0) (by exact hv0) K27 rfl rfl rfl rfl (Opl.p1 (n := Opl.nil ?_))))))))
 by_cases c1 : (l0.length : Int) < 1
 case pos =>
  rw [if_pos c1] at H
  cases H
 rw [if_neg c1] at H
 have e1 : (decide ((l0.length : Int) < 1)) = false := by simpa using c1
 try rw [e1]
 refine Evr.condF rfl (Evr.skip (Evr.sr rfl (Opl.p1 (n := ?_))))
 obtain ⟨c2, H⟩ := peel H
 refine Opl.idx (M := (cInt .i64)) (xs := l0) (j := 0) (0 : Int) (by exact hv0) rfl (by omega) (by omega) K27 Z3 rfl rfl ?_
 rintro p1 q1 h1
 obtain rfl : p1 = [.lit (.int .i64 (rd l0 0))] := h1
 refine Opl.lda (.lit (.int .i64 (rd l0 0))) rfl T3 rfl rfl rfl rfl (Opl.p1 (n := Opl.nil (Evr.seq (Evr.sr rfl (Opl.p1 (n := Opl.nil (Evr.block ?_)))))))
 refine Evr.loop (Evr.rounds (n := k) (Inv := fun n tm S => n ≤ k ∧ ∃ (x3_1 : Int) (x4_1 : Int), slices_Max_int_int.l1 n x3_1 x4_1 l0 = some r ∧ Has tm [(0, v0), (3, .lit (.int .i64 x3_1)), (4, .lit (.int .i64 x4_1))]) ?_ ?_ ?_)
 · exact ⟨Nat.le_refl _, _, _, H, ⟨rfl, rfl, rfl, trivial⟩⟩
 ·
  rintro tm S ⟨_, _, _, H, -⟩
  simp [slices_Max_int_int.l1] at H
 ·
  rintro n1 ih1 tm S ⟨hle, x3_1, x4_1, H, hh⟩
  simp only [slices_Max_int_int.l1] at H
  rw [hh.eq]
  refine Evr.seq (Evr.sr rfl (Opl.p1 (n := Opl.p1 (n := Opl.len (xs := l0) (by exact hv0) K27 rfl rfl rfl rfl (Opl.p1 (n := Opl.nil ?_))))))
  by_cases c3 : x4_1 < (l0.length : Int)
  case neg =>
   rw [if_neg c3] at H
   have e3 : (decide (x4_1 < (l0.length : Int))) = false := by simpa using c3
   try rw [e3]
   refine Evr.condF rfl (Evr.exit rfl (Evr.sr rfl (Opl.p1 (n := Opl.p1 (n := Opl.nil ?_)))))
   obtain rfl := Option.some.inj H
   refine Evr.ret1 Try.func169 rfl ?_
   show (.lit (.int .i64 x3_1) : PV) = _
   first | rfl | (simp only [go_sem]; rfl)
  rw [if_pos c3] at H
  have e2 : (decide (x4_1 < (l0.length : Int))) = true := by simpa using c3
  try rw [e2]
  refine Evr.condT rfl (Evr.skip (Evr.seq (Evr.block (Evr.regionN rfl (Opl.p1 (n := Opl.p1 (n := Opl.p1 (n := ?_))))))))
  obtain ⟨c4, H⟩ := peel H
  obtain ⟨c5, H⟩ := peel H
  refine Opl.idx (M := (cInt .i64)) (xs := l0) (j := x4_1) (0 : Int) (by exact hv0) rfl (by omega) (by omega) K27 Z3 rfl rfl ?_
  rintro p2 q2 h2
  obtain rfl : p2 = [.lit (.int .i64 (rd l0 x4_1))] := h2
  refine Opl.lda (.lit (.int .i64 (rd l0 x4_1))) rfl T3 rfl rfl rfl rfl (Opl.one rfl rfl (by simp only [go_sem, minFn, maxFn]; rfl) (Opl.p1 (n := Opl.nil (Evr.inBlock (Evr.regionN rfl (Opl.p1 (n := Opl.add (k := .i64) (a := x4_1) (b := 1) K3 rfl rfl rfl rfl (Opl.one (v := .lit (.int .i64 (wrap64 (x4_1 + 1)))) rfl rfl rfl (Opl.nil ?_)))))))))
  exact ih1 _ (by omega) _ _ ⟨by omega, _, _, H, ⟨rfl, rfl, rfl, trivial⟩⟩
theorem slices_Min_int_int.ev {k : Nat} {l0 : List Int} {v0 : PV} (hv0 : Sl (cInt .i64) l0 v0) {r : Int} (H : slices_Min_int_int.f k l0 = some r) : Ret Try.prog 168 [v0] fun v S => v = .lit (.int .i64 r) := by
 unfold slices_Min_int_int.f at H
 refine Ret.intro Try.func168 rfl (Nat.le_of_ble_eq_true rfl) rfl ?_
 rw [tm1]
 refine Evr.sr rfl (Opl.p1 (n := Opl.nil (Evr.seq (Evr.sr rfl (Opl.p1 (n := Opl.len (xs := l0) (by exact hv0) K27 rfl rfl rfl rfl (Opl.p1 (n := Opl.nil ?_))))))))
 by_cases c1 : (l0.length : Int) < 1
 case pos =>
  rw [if_pos c1] at H
  cases H
 rw [if_neg c1] at H
 have e1 : (decide ((l0.length : Int) < 1)) = false := by simpa using c1
 try rw [e1]
 refine Evr.condF rfl (Evr.skip (Evr.sr rfl (Opl.p1 (n := ?_))))
 obtain ⟨c2, H⟩ := peel H
 refine Opl.idx (M := (cInt .i64)) (xs := l0) (j := 0) (0 : Int) (by exact hv0) rfl (by omega) (by omega) K27 Z3 rfl rfl ?_
 rintro p1 q1 h1
 obtain rfl : p1 = [.lit (.int .i64 (rd l0 0))] := h1
 refine Opl.lda (.lit (.int .i64 (rd l0 0))) rfl T3 rfl rfl rfl rfl (Opl.p1 (n := Opl.nil (Evr.seq (Evr.sr rfl (Opl.p1 (n := Opl.nil (Evr.block ?_)))))))
 refine Evr.loop (Evr.rounds (n := k) (Inv := fun n tm S => n ≤ k ∧ ∃ (x3_1 : Int) (x4_1 : Int), slices_Min_int_int.l1 n x3_1 x4_1 l0 = some r ∧ Has tm [(0, v0), (3, .lit (.int .i64 x3_1)), (4, .lit (.int .i64 x4_1))]) ?_ ?_ ?_)
 · exact ⟨Nat.le_refl _, _, _, H, ⟨rfl, rfl, rfl, trivial⟩⟩
 ·
  rintro tm S ⟨_, _, _, H, -⟩
  simp [slices_Min_int_int.l1] at H
 ·
  rintro n1 ih1 tm S ⟨hle, x3_1, x4_1, H, hh⟩
  simp only [slices_Min_int_int.l1] at H
  rw [hh.eq]
  refine Evr.seq (Evr.sr rfl (Opl.p1 (n := Opl.p1 (n := Opl.len (xs := l0) (by exact hv0) K27 rfl rfl rfl rfl (Opl.p1 (n := Opl.nil ?_))))))
  by_cases c3 : x4_1 < (l0.length : Int)
  case neg =>
   rw [if_neg c3] at H
   have e3 : (decide (x4_1 < (l0.length : Int))) = false := by simpa using c3
   try rw [e3]
   refine Evr.condF rfl (Evr.exit rfl (Evr.sr rfl (Opl.p1 (n := Opl.p1 (n := Opl.nil ?_)))))
   obtain rfl := Option.some.inj H
   refine Evr.ret1 Try.func168 rfl ?_
   show (.lit (.int .i64 x3_1) : PV) = _
   first | rfl | (simp only [go_sem]; rfl)
  rw [if_pos c3] at H
  have e2 : (decide (x4_1 < (l0.length : Int))) = true := by simpa using c3
  try rw [e2]
  refine Evr.condT rfl (Evr.skip (Evr.seq (Evr.block (Evr.regionN rfl (Opl.p1 (n := Opl.p1 (n := Opl.p1 (n := ?_))))))))
  obtain ⟨c4, H⟩ := peel H
  obtain ⟨c5, H⟩ := peel H
  refine Opl.idx (M := (cInt .i64)) (xs := l0) (j := x4_1) (0 : Int) (by exact hv0) rfl (by omega) (by omega) K27 Z3 rfl rfl ?_
  rintro p2 q2 h2
  obtain rfl : p2 = [.lit (.int .i64 (rd l0 x4_1))] := h2
  refine Opl.lda (.lit (.int .i64 (rd l0 x4_1))) rfl T3 rfl rfl rfl rfl (Opl.one rfl rfl (by simp only [go_sem, minFn, maxFn]; rfl) (Opl.p1 (n := Opl.nil (Evr.inBlock (Evr.regionN rfl (Opl.p1 (n := Opl.add (k := .i64) (a := x4_1) (b := 1) K3 rfl rfl rfl rfl (Opl.one (v := .lit (.int .i64 (wrap64 (x4_1 + 1)))) rfl rfl rfl (Opl.nil ?_)))))))))
  exact ih1 _ (by omega) _ _ ⟨by omega, _, _, H, ⟨rfl, rfl, rfl, trivial⟩⟩
theorem impl_spanOf.ev {k : Nat} {a0 : Int} {a1_0 : Int} {a1_1 : Int} {a2_0 : Int} {a2_1 : Int} {r : (Int × Int)} (H : impl_spanOf.f k a0 a1_0 a1_1 a2_0 a2_1 = some r) : Ret Try.prog 120 [.lit (.int .i64 a0), .agg [.lit (.int .i64 a1_0), .lit (.int .i64 a1_1)], .agg [.lit (.int .i64 a2_0), .lit (.int .i64 a2_1)]] fun v S => Out (fun q => ∃ q1 q2, q = .agg [q1, q2] ∧ q1 = .lit (.int .i64 r.1) ∧ q2 = .lit (.int .i64 r.2)) v S := by
 unfold impl_spanOf.f at H
 refine Ret.intro Try.func120 rfl (Nat.le_of_ble_eq_true rfl) rfl ?_
 rw [tm3]
 refine Evr.sr rfl (Opl.box (cs := [.lit (.int .i64 a1_0), .lit (.int .i64 a1_1)]) rfl rfl rfl rfl ?_)
 rintro i1 S h1 u1 w1
 refine Opl.box (cs := [.lit (.int .i64 a2_0), .lit (.int .i64 a2_1)]) rfl rfl rfl rfl ?_
 rintro i2 S h2 u2 w2
 have ap1 := w2.box h1
 have h3 := u2.box h1 ap1
 refine Opl.alloc T130 rfl rfl rfl ?_
 rintro i3 S h4 u3 w3
 have ap2 := w3.box h3
 have h5 := u3.box h3 ap2
 have ap3 := w3.box h2
 have h6 := u3.box h2 ap3
 refine Opl.nil (Evr.seq (Evr.sr rfl (Opl.p1 (n := Opl.nil (Evr.block (Evr.sr rfl (Opl.p1 (n := Opl.p1 (n := Opl.nil ?_)))))))))
 by_cases c1 : a0 = 2
 case pos =>
  rw [if_pos c1] at H
  have e1 : (a0 == 2) = true := by simpa using c1
  try rw [e1]
  refine Evr.condT rfl (Evr.seq (Evr.frzb 4 h5 rfl ?_))
  rintro S u4
  have h7 := u4.box h6 ap1.symm
  have h8 := u4.box h4 ap2.symm
  refine Evr.frzb 5 h7 rfl ?_
  rintro S u5
  have h9 := u5.box h8 ap3.symm
  refine Evr.regionL [(1, .p), (3, .p), (7, .p), (9, .p)] rfl (by kernel_rfl) (Opl.p1 (v := .fel ((.lit (.int .i64 a1_0)) :: (.lit (.int .i64 a1_1)) :: [])) (n := Opl.ldp (.lit (.int .i64 a1_0)) rfl T3 rfl rfl rfl (Opl.p1 (v := .fel ((.lit (.int .i64 a2_0)) :: (.lit (.int .i64 a2_1)) :: [])) (n := Opl.ldp (.lit (.int .i64 a2_0)) rfl T3 rfl rfl rfl (Opl.add (k := .i64) (a := a1_0) (b := a2_0) K3 rfl rfl rfl rfl ?_)))))
  obtain ⟨r1, h_r1, H⟩ := Option.bind_eq_some_iff.1 H
  refine Opl.callc (impl_held.ev h_r1) rfl rfl rfl rfl ⟨(.lit _), trivial⟩ (by decide) (Opl.p1 (v := .fel ((.lit (.int .i64 a1_1)) :: [])) (n := Opl.ldp (.lit (.int .i64 a1_1)) rfl T3 rfl rfl rfl (Opl.p1 (v := .fel ((.lit (.int .i64 a2_1)) :: [])) (n := Opl.ldp (.lit (.int .i64 a2_1)) rfl T3 rfl rfl rfl (Opl.add (k := .i64) (a := a1_1) (b := a2_1) K3 rfl rfl rfl rfl ?_)))))
  obtain ⟨r2, h_r2, H⟩ := Option.bind_eq_some_iff.1 H
  refine Opl.callc (impl_held.ev h_r2) rfl rfl rfl rfl ⟨(.lit _), trivial⟩ (by decide) (Opl.p1 (v := .agg [.lit (.int .i64 r1), .lit (.int .i64 r2)]) (n := Opl.stb (vs := [.lit (.int .i64 r1), .lit (.int .i64 r2)]) h9 rfl rfl Z130 rfl (Nat.le_of_ble_eq_true rfl) rfl rfl rfl rfl ?_))
  rintro S (h10 : Box (.ptr i3 0) [.lit (.int .i64 r1), .lit (.int .i64 r2)] _) u6
  refine Opl.nil ?_
  obtain rfl := Option.some.inj H
  refine Evr.retb (v := .agg [.lit (.int .i64 r1), .lit (.int .i64 r2)]) Try.func120 rfl h10 rfl T130 rfl ?_
  show Out _ (.agg [.lit (.int .i64 r1), .lit (.int .i64 r2)]) _
  exact (.agg2 .lit .lit)
 rw [if_neg c1] at H
 have e2 : (a0 == 2) = false := by simpa using c1
 try rw [e2]
 refine Evr.condF rfl (Evr.sr rfl (Opl.p1 (n := Opl.p1 (n := Opl.nil ?_))))
 by_cases c2 : a0 = 3
 case pos =>
  rw [if_pos c2] at H
  have e3 : (a0 == 3) = true := by simpa using c2
  try rw [e3]
  refine Evr.condT rfl (Evr.seq (Evr.frzb 4 h5 rfl ?_))
  rintro S u7
  have h11 := u7.box h6 ap1.symm
  have h12 := u7.box h4 ap2.symm
  refine Evr.frzb 5 h11 rfl ?_
  rintro S u8
  have h13 := u8.box h12 ap3.symm
  refine Evr.regionL [(1, .p), (3, .p), (7, .p), (9, .p)] rfl (by kernel_rfl) (Opl.p1 (v := .fel ((.lit (.int .i64 a1_0)) :: (.lit (.int .i64 a1_1)) :: [])) (n := Opl.ldp (.lit (.int .i64 a1_0)) rfl T3 rfl rfl rfl (Opl.p1 (v := .fel ((.lit (.int .i64 a2_1)) :: [])) (n := Opl.ldp (.lit (.int .i64 a2_1)) rfl T3 rfl rfl rfl (Opl.subi (k := .i64) (a := a1_0) (b := a2_1) K3 rfl rfl rfl rfl ?_)))))
  obtain ⟨r3, h_r3, H⟩ := Option.bind_eq_some_iff.1 H
  refine Opl.callc (impl_held.ev h_r3) rfl rfl rfl rfl ⟨(.lit _), trivial⟩ (by decide) (Opl.p1 (v := .fel ((.lit (.int .i64 a1_1)) :: [])) (n := Opl.ldp (.lit (.int .i64 a1_1)) rfl T3 rfl rfl rfl (Opl.p1 (v := .fel ((.lit (.int .i64 a2_0)) :: (.lit (.int .i64 a2_1)) :: [])) (n := Opl.ldp (.lit (.int .i64 a2_0)) rfl T3 rfl rfl rfl (Opl.subi (k := .i64) (a := a1_1) (b := a2_0) K3 rfl rfl rfl rfl ?_)))))
  obtain ⟨r4, h_r4, H⟩ := Option.bind_eq_some_iff.1 H
  refine Opl.callc (impl_held.ev h_r4) rfl rfl rfl rfl ⟨(.lit _), trivial⟩ (by decide) (Opl.p1 (v := .agg [.lit (.int .i64 r3), .lit (.int .i64 r4)]) (n := Opl.stb (vs := [.lit (.int .i64 r3), .lit (.int .i64 r4)]) h13 rfl rfl Z130 rfl (Nat.le_of_ble_eq_true rfl) rfl rfl rfl rfl ?_))
  rintro S (h14 : Box (.ptr i3 0) [.lit (.int .i64 r3), .lit (.int .i64 r4)] _) u9
  refine Opl.nil ?_
  obtain rfl := Option.some.inj H
  refine Evr.retb (v := .agg [.lit (.int .i64 r3), .lit (.int .i64 r4)]) Try.func120 rfl h14 rfl T130 rfl ?_
  show Out _ (.agg [.lit (.int .i64 r3), .lit (.int .i64 r4)]) _
  exact (.agg2 .lit .lit)
 rw [if_neg c2] at H
 have e4 : (a0 == 3) = false := by simpa using c2
 try rw [e4]
 refine Evr.condF rfl (Evr.sr rfl (Opl.p1 (n := Opl.p1 (n := Opl.nil ?_))))
 by_cases c3 : a0 = 4
 case pos =>
  rw [if_pos c3] at H
  have e5 : (a0 == 4) = true := by simpa using c3
  try rw [e5]
  refine Evr.condT rfl (Evr.seq (Evr.frzb 4 h5 rfl ?_))
  rintro S u10
  have h15 := u10.box h6 ap1.symm
  have h16 := u10.box h4 ap2.symm
  refine Evr.frzb 5 h15 rfl ?_
  rintro S u11
  have h17 := u11.box h16 ap3.symm
  refine Evr.regionL [(1, .p), (3, .p), (7, .p), (9, .p), (13, .p), (15, .p), (19, .p), (21, .p)] rfl (by kernel_rfl) (Opl.p1 (v := .fel ((.lit (.int .i64 a1_0)) :: (.lit (.int .i64 a1_1)) :: [])) (n := Opl.ldp (.lit (.int .i64 a1_0)) rfl T3 rfl rfl rfl (Opl.p1 (v := .fel ((.lit (.int .i64 a2_0)) :: (.lit (.int .i64 a2_1)) :: [])) (n := Opl.ldp (.lit (.int .i64 a2_0)) rfl T3 rfl rfl rfl (Opl.mul (k := .i64) (a := a1_0) (b := a2_0) K3 rfl rfl rfl rfl ?_)))))
  obtain ⟨r5, h_r5, H⟩ := Option.bind_eq_some_iff.1 H
  refine Opl.callc (impl_held.ev h_r5) rfl rfl rfl rfl ⟨(.lit _), trivial⟩ (by decide) (Opl.p1 (v := .fel ((.lit (.int .i64 a1_0)) :: (.lit (.int .i64 a1_1)) :: [])) (n := Opl.ldp (.lit (.int .i64 a1_0)) rfl T3 rfl rfl rfl (Opl.p1 (v := .fel ((.lit (.int .i64 a2_1)) :: [])) (n := Opl.ldp (.lit (.int .i64 a2_1)) rfl T3 rfl rfl rfl (Opl.mul (k := .i64) (a := a1_0) (b := a2_1) K3 rfl rfl rfl rfl ?_)))))
  obtain ⟨r6, h_r6, H⟩ := Option.bind_eq_some_iff.1 H
  refine Opl.callc (impl_held.ev h_r6) rfl rfl rfl rfl ⟨(.lit _), trivial⟩ (by decide) (Opl.p1 (v := .fel ((.lit (.int .i64 a1_1)) :: [])) (n := Opl.ldp (.lit (.int .i64 a1_1)) rfl T3 rfl rfl rfl (Opl.p1 (v := .fel ((.lit (.int .i64 a2_0)) :: (.lit (.int .i64 a2_1)) :: [])) (n := Opl.ldp (.lit (.int .i64 a2_0)) rfl T3 rfl rfl rfl (Opl.mul (k := .i64) (a := a1_1) (b := a2_0) K3 rfl rfl rfl rfl ?_)))))
  obtain ⟨r7, h_r7, H⟩ := Option.bind_eq_some_iff.1 H
  refine Opl.callc (impl_held.ev h_r7) rfl rfl rfl rfl ⟨(.lit _), trivial⟩ (by decide) (Opl.p1 (v := .fel ((.lit (.int .i64 a1_1)) :: [])) (n := Opl.ldp (.lit (.int .i64 a1_1)) rfl T3 rfl rfl rfl (Opl.p1 (v := .fel ((.lit (.int .i64 a2_1)) :: [])) (n := Opl.ldp (.lit (.int .i64 a2_1)) rfl T3 rfl rfl rfl (Opl.mul (k := .i64) (a := a1_1) (b := a2_1) K3 rfl rfl rfl rfl ?_)))))
  obtain ⟨r8, h_r8, H⟩ := Option.bind_eq_some_iff.1 H
  refine Opl.callc (impl_held.ev h_r8) rfl rfl rfl rfl ⟨(.lit _), trivial⟩ (by decide) (Opl.lits (M := (cInt .i64)) (ys := [r5, r6, r7, r8]) [.tmp 46, .tmp 52, .tmp 58, .tmp 64] K27 T3 rfl rfl rfl (by exact ⟨rfl, rfl, rfl, rfl, trivial⟩) rfl (by decide) rfl rfl rfl ?_)
  rintro pv1 S h18 u12 w6
  have ap4 := w6.box h17
  have h19 := u12.box h17 ap4
  refine Opl.one (v := pv1) rfl rfl rfl (Opl.nil (Evr.sr rfl (Opl.one (v := pv1) rfl rfl rfl ?_)))
  obtain ⟨r9, h_r9, H⟩ := Option.bind_eq_some_iff.1 H
  obtain ⟨pv2, h20, -, h21⟩ := Out.vec h18
  refine Opl.callw (slices_Min_int_int.ev h21 h_r9) rfl rfl rfl (.cons h20 .nil) ⟨h21.plain, trivial⟩ (by decide) (Opl.one (v := pv1) rfl rfl rfl ?_)
  obtain ⟨r10, h_r10, H⟩ := Option.bind_eq_some_iff.1 H
  obtain ⟨pv3, h22, -, h23⟩ := Out.vec h18
  refine Opl.callw (slices_Max_int_int.ev h23 h_r10) rfl rfl rfl (.cons h22 .nil) ⟨h23.plain, trivial⟩ (by decide) (Opl.p1 (v := .agg [.lit (.int .i64 r9), .lit (.int .i64 r10)]) (n := Opl.stb (vs := [.lit (.int .i64 r9), .lit (.int .i64 r10)]) h19 rfl rfl Z130 rfl (Nat.le_of_ble_eq_true rfl) rfl rfl rfl rfl ?_))
  rintro S (h24 : Box (.ptr i3 0) [.lit (.int .i64 r9), .lit (.int .i64 r10)] _) u13
  have h25 := u13.vec h18 ap4.symm
  refine Opl.nil ?_
  obtain rfl := Option.some.inj H
  refine Evr.retb (v := .agg [.lit (.int .i64 r9), .lit (.int .i64 r10)]) Try.func120 rfl h24 rfl T130 rfl ?_
  show Out _ (.agg [.lit (.int .i64 r9), .lit (.int .i64 r10)]) _
  exact (.agg2 .lit .lit)
 rw [if_neg c3] at H
 have e6 : (a0 == 4) = false := by simpa using c3
 try rw [e6]
 refine Evr.condF rfl (Evr.sr rfl (Opl.p1 (n := Opl.p1 (n := Opl.nil ?_))))
 by_cases c4 : a0 = 5
 case pos =>
  rw [if_pos c4] at H
  have e7 : (a0 == 5) = true := by simpa using c4
  try rw [e7]
  refine Evr.condT rfl (Evr.seq (Evr.frzb 4 h5 rfl ?_))
  rintro S u14
  have h26 := u14.box h6 ap1.symm
  have h27 := u14.box h4 ap2.symm
  refine Evr.frzb 5 h26 rfl ?_
  rintro S u15
  have h28 := u15.box h27 ap3.symm
  refine Evr.regionL [(1, .p), (3, .p), (7, .p), (9, .p)] rfl (by kernel_rfl) (Opl.p1 (v := .fel ((.lit (.int .i64 a1_1)) :: [])) (n := Opl.ldp (.lit (.int .i64 a1_1)) rfl T3 rfl rfl rfl (Opl.p1 (v := .fel ((.lit (.int .i64 a2_0)) :: (.lit (.int .i64 a2_1)) :: [])) (n := Opl.ldp (.lit (.int .i64 a2_0)) rfl T3 rfl rfl rfl (Opl.p1 (n := ?_))))))
  obtain ⟨r11, h_r11, H⟩ := Option.bind_eq_some_iff.1 H
  refine Opl.callc (impl_bit.ev h_r11) rfl rfl rfl rfl ⟨(.lit _), trivial⟩ (by decide) (Opl.p1 (v := .fel ((.lit (.int .i64 a1_0)) :: (.lit (.int .i64 a1_1)) :: [])) (n := Opl.ldp (.lit (.int .i64 a1_0)) rfl T3 rfl rfl rfl (Opl.p1 (v := .fel ((.lit (.int .i64 a2_1)) :: [])) (n := Opl.ldp (.lit (.int .i64 a2_1)) rfl T3 rfl rfl rfl (Opl.p1 (n := ?_))))))
  obtain ⟨r12, h_r12, H⟩ := Option.bind_eq_some_iff.1 H
  refine Opl.callc (impl_bit.ev h_r12) rfl rfl rfl rfl ⟨(.lit _), trivial⟩ (by decide) (Opl.p1 (v := .agg [.lit (.int .i64 r11), .lit (.int .i64 r12)]) (n := Opl.stb (vs := [.lit (.int .i64 r11), .lit (.int .i64 r12)]) h28 rfl rfl Z130 rfl (Nat.le_of_ble_eq_true rfl) rfl rfl rfl rfl ?_))
  rintro S (h29 : Box (.ptr i3 0) [.lit (.int .i64 r11), .lit (.int .i64 r12)] _) u16
  refine Opl.nil ?_
  obtain rfl := Option.some.inj H
  refine Evr.retb (v := .agg [.lit (.int .i64 r11), .lit (.int .i64 r12)]) Try.func120 rfl h29 rfl T130 rfl ?_
  show Out _ (.agg [.lit (.int .i64 r11), .lit (.int .i64 r12)]) _
  exact (.agg2 .lit .lit)
 rw [if_neg c4] at H
 have e8 : (a0 == 5) = false := by simpa using c4
 try rw [e8]
 refine Evr.condF rfl (Evr.sr rfl (Opl.p1 (n := Opl.p1 (n := Opl.nil ?_))))
 by_cases c5 : a0 = 6
 case neg =>
  rw [if_neg c5] at H
  have e16 : (a0 == 6) = false := by simpa using c5
  try rw [e16]
  refine Evr.condF rfl (Evr.sr rfl (Opl.p1 (n := Opl.p1 (n := Opl.nil ?_))))
  by_cases c9 : a0 = 7
  case pos =>
   rw [if_pos c9] at H
   have e17 : (a0 == 7) = true := by simpa using c9
   try rw [e17]
   refine Evr.condT rfl (Evr.sr rfl (Opl.p1 (v := .ptr i1 1) (n := Opl.ldb (v := .lit (.int .i64 a1_1)) h5 rfl T3 rfl rfl rfl rfl (Opl.subi (k := .i64) (a := 1) (b := a1_1) K3 rfl rfl rfl rfl (Opl.p1 (v := .ptr i1 0) (n := Opl.ldb (v := .lit (.int .i64 a1_0)) h5 rfl T3 rfl rfl rfl rfl (Opl.subi (k := .i64) (a := 1) (b := a1_0) K3 rfl rfl rfl rfl (Opl.p1 (v := .agg [.lit (.int .i64 (wrap64 (1 - a1_1))), .lit (.int .i64 (wrap64 (1 - a1_0)))]) (n := Opl.stb (vs := [.lit (.int .i64 (wrap64 (1 - a1_1))), .lit (.int .i64 (wrap64 (1 - a1_0)))]) h4 rfl rfl Z130 rfl (Nat.le_of_ble_eq_true rfl) rfl rfl rfl rfl ?_)))))))))
   rintro S (h37 : Box (.ptr i3 0) [.lit (.int .i64 (wrap64 (1 - a1_1))), .lit (.int .i64 (wrap64 (1 - a1_0)))] _) u23
   have h38 := u23.box h5 ap2
   have h39 := u23.box h6 ap3
   refine Opl.nil ?_
   obtain rfl := Option.some.inj H
   refine Evr.retb (v := .agg [.lit (.int .i64 (wrap64 (1 - a1_1))), .lit (.int .i64 (wrap64 (1 - a1_0)))]) Try.func120 rfl h37 rfl T130 rfl ?_
   show Out _ (.agg [.lit (.int .i64 (wrap64 (1 - a1_1))), .lit (.int .i64 (wrap64 (1 - a1_0)))]) _
   exact (.agg2 .lit .lit)
  rw [if_neg c9] at H
  have e18 : (a0 == 7) = false := by simpa using c9
  try rw [e18]
  refine Evr.condF rfl (Evr.skip (Evr.inBlock (Evr.seq (Evr.frzb 4 h5 rfl ?_))))
  rintro S u24
  have h40 := u24.box h6 ap1.symm
  have h41 := u24.box h4 ap2.symm
  refine Evr.frzb 5 h40 rfl ?_
  rintro S u25
  have h42 := u25.box h41 ap3.symm
  refine Evr.regionL [(2, .p), (4, .p), (8, .p), (10, .p)] rfl (by kernel_rfl) (Opl.p1 (n := Opl.p1 (v := .fel ((.lit (.int .i64 a1_0)) :: (.lit (.int .i64 a1_1)) :: [])) (n := Opl.ldp (.lit (.int .i64 a1_0)) rfl T3 rfl rfl rfl (Opl.p1 (v := .fel ((.lit (.int .i64 a2_0)) :: (.lit (.int .i64 a2_1)) :: [])) (n := Opl.ldp (.lit (.int .i64 a2_0)) rfl T3 rfl rfl rfl ?_)))))
  obtain ⟨r19, h_r19, H⟩ := Option.bind_eq_some_iff.1 H
  refine Opl.callc (impl_do.ev h_r19) rfl rfl rfl rfl ⟨(.lit _), (.lit _), (.lit _), trivial⟩ (by decide) (Opl.p1 (n := Opl.p1 (v := .fel ((.lit (.int .i64 a1_1)) :: [])) (n := Opl.ldp (.lit (.int .i64 a1_1)) rfl T3 rfl rfl rfl (Opl.p1 (v := .fel ((.lit (.int .i64 a2_1)) :: [])) (n := Opl.ldp (.lit (.int .i64 a2_1)) rfl T3 rfl rfl rfl ?_)))))
  obtain ⟨r20, h_r20, H⟩ := Option.bind_eq_some_iff.1 H
  refine Opl.callc (impl_do.ev h_r20) rfl rfl rfl rfl ⟨(.lit _), (.lit _), (.lit _), trivial⟩ (by decide) (Opl.p1 (v := .agg [.lit (.int .i64 r19), .lit (.int .i64 r20)]) (n := Opl.stb (vs := [.lit (.int .i64 r19), .lit (.int .i64 r20)]) h42 rfl rfl Z130 rfl (Nat.le_of_ble_eq_true rfl) rfl rfl rfl rfl ?_))
  rintro S (h43 : Box (.ptr i3 0) [.lit (.int .i64 r19), .lit (.int .i64 r20)] _) u26
  refine Opl.nil ?_
  obtain rfl := Option.some.inj H
  refine Evr.retb (v := .agg [.lit (.int .i64 r19), .lit (.int .i64 r20)]) Try.func120 rfl h43 rfl T130 rfl ?_
  show Out _ (.agg [.lit (.int .i64 r19), .lit (.int .i64 r20)]) _
  exact (.agg2 .lit .lit)
 rw [if_pos c5] at H
 have e9 : (a0 == 6) = true := by simpa using c5
 try rw [e9]
 refine Evr.condT rfl (Evr.seq (Evr.frzb 4 h5 rfl ?_))
 rintro S u17
 have h30 := u17.box h6 ap1.symm
 have h31 := u17.box h4 ap2.symm
 refine Evr.frzb 5 h30 rfl ?_
 rintro S u18
 have h32 := u18.box h31 ap3.symm
 refine Evr.regionL [(1, .p), (3, .p), (6, .p), (7, .p), (12, .p), (14, .p), (18, .p), (20, .p)] rfl (by kernel_rfl) (Opl.p1 (v := .fel ((.lit (.int .i64 a1_0)) :: (.lit (.int .i64 a1_1)) :: [])) (n := Opl.ldp (.lit (.int .i64 a1_0)) rfl T3 rfl rfl rfl (Opl.p1 (v := .fel ((.lit (.int .i64 a1_1)) :: [])) (n := Opl.ldp (.lit (.int .i64 a1_1)) rfl T3 rfl rfl rfl (Opl.p1 (n := Opl.p1 (n := ?_)))))))
 by_cases c6 : a1_0 = a1_1
 case neg =>
  rw [if_neg c6] at H
  have e13 : (a1_0 == a1_1) = false := by simpa using c6
  try rw [e13]
  refine Opl.skp rfl (Opl.skp rfl (Opl.skp rfl (Opl.p1 (n := ?_))))
  obtain ⟨r16, h_r16, H⟩ := Option.bind_eq_some_iff.1 H
  refine Opl.callc (impl_bit.ev h_r16) rfl rfl rfl rfl ⟨(.lit _), trivial⟩ (by decide) (Opl.p1 (v := .fel ((.lit (.int .i64 a1_0)) :: (.lit (.int .i64 a1_1)) :: [])) (n := Opl.ldp (.lit (.int .i64 a1_0)) rfl T3 rfl rfl rfl (Opl.p1 (v := .fel ((.lit (.int .i64 a2_1)) :: [])) (n := Opl.ldp (.lit (.int .i64 a2_1)) rfl T3 rfl rfl rfl (Opl.p1 (n := Opl.p1 (n := ?_)))))))
  by_cases c8 : a1_0 ≤ a2_1
  case neg =>
   rw [if_neg c8] at H
   have e15 : (decide (a1_0 ≤ a2_1)) = false := by simpa using c8
   try rw [e15]
   refine Opl.skp rfl (Opl.skp rfl (Opl.skp rfl (Opl.skp rfl (Opl.skp rfl (Opl.p1 (n := ?_))))))
   obtain ⟨r18, h_r18, H⟩ := Option.bind_eq_some_iff.1 H
   refine Opl.callc (impl_bit.ev h_r18) rfl rfl rfl rfl ⟨(.lit _), trivial⟩ (by decide) (Opl.p1 (v := .agg [.lit (.int .i64 r16), .lit (.int .i64 r18)]) (n := ?_))
   obtain _ | k4 := k
   · simp [impl_spanOf.j1] at H
   simp only [impl_spanOf.j1] at H
   refine Opl.stb (vs := [.lit (.int .i64 r16), .lit (.int .i64 r18)]) h32 rfl rfl Z130 rfl (Nat.le_of_ble_eq_true rfl) rfl rfl rfl rfl ?_
   rintro S (h36 : Box (.ptr i3 0) [.lit (.int .i64 r16), .lit (.int .i64 r18)] _) u22
   refine Opl.nil ?_
   obtain rfl := Option.some.inj H
   refine Evr.retb (v := .agg [.lit (.int .i64 r16), .lit (.int .i64 r18)]) Try.func120 rfl h36 rfl T130 rfl ?_
   show Out _ (.agg [.lit (.int .i64 r16), .lit (.int .i64 r18)]) _
   exact (.agg2 .lit .lit)
  rw [if_pos c8] at H
  have e14 : (decide (a1_0 ≤ a2_1)) = true := by simpa using c8
  try rw [e14]
  refine Opl.p1 (v := .fel ((.lit (.int .i64 a2_0)) :: (.lit (.int .i64 a2_1)) :: [])) (n := Opl.ldp (.lit (.int .i64 a2_0)) rfl T3 rfl rfl rfl (Opl.p1 (v := .fel ((.lit (.int .i64 a1_1)) :: [])) (n := Opl.ldp (.lit (.int .i64 a1_1)) rfl T3 rfl rfl rfl (Opl.p1 (n := Opl.p1 (n := ?_))))))
  obtain ⟨r17, h_r17, H⟩ := Option.bind_eq_some_iff.1 H
  refine Opl.callc (impl_bit.ev h_r17) rfl rfl rfl rfl ⟨(.lit _), trivial⟩ (by decide) (Opl.p1 (v := .agg [.lit (.int .i64 r16), .lit (.int .i64 r17)]) (n := ?_))
  obtain _ | k3 := k
  · simp [impl_spanOf.j1] at H
  simp only [impl_spanOf.j1] at H
  refine Opl.stb (vs := [.lit (.int .i64 r16), .lit (.int .i64 r17)]) h32 rfl rfl Z130 rfl (Nat.le_of_ble_eq_true rfl) rfl rfl rfl rfl ?_
  rintro S (h35 : Box (.ptr i3 0) [.lit (.int .i64 r16), .lit (.int .i64 r17)] _) u21
  refine Opl.nil ?_
  obtain rfl := Option.some.inj H
  refine Evr.retb (v := .agg [.lit (.int .i64 r16), .lit (.int .i64 r17)]) Try.func120 rfl h35 rfl T130 rfl ?_
  show Out _ (.agg [.lit (.int .i64 r16), .lit (.int .i64 r17)]) _
  exact (.agg2 .lit .lit)
 rw [if_pos c6] at H
 have e10 : (a1_0 == a1_1) = true := by simpa using c6
 try rw [e10]
 refine Opl.ldp (.agg [.lit (.int .i64 a1_0), .lit (.int .i64 a1_1)]) rfl T130 rfl rfl rfl (Opl.ldp (.agg [.lit (.int .i64 a2_0), .lit (.int .i64 a2_1)]) rfl T130 rfl rfl rfl (Opl.eqs (b := (a1_0 == a2_0 && (a1_1 == a2_1 && true))) O130 K130 rfl rfl rfl rfl rfl (Opl.p1 (n := ?_))))
 obtain ⟨r13, h_r13, H⟩ := Option.bind_eq_some_iff.1 H
 refine Opl.callc (impl_bit.ev h_r13) rfl rfl rfl rfl ⟨(.lit _), trivial⟩ (by decide) (Opl.p1 (v := .fel ((.lit (.int .i64 a1_0)) :: (.lit (.int .i64 a1_1)) :: [])) (n := Opl.ldp (.lit (.int .i64 a1_0)) rfl T3 rfl rfl rfl (Opl.p1 (v := .fel ((.lit (.int .i64 a2_1)) :: [])) (n := Opl.ldp (.lit (.int .i64 a2_1)) rfl T3 rfl rfl rfl (Opl.p1 (n := Opl.p1 (n := ?_)))))))
 by_cases c7 : a1_0 ≤ a2_1
 case neg =>
  rw [if_neg c7] at H
  have e12 : (decide (a1_0 ≤ a2_1)) = false := by simpa using c7
  try rw [e12]
  refine Opl.skp rfl (Opl.skp rfl (Opl.skp rfl (Opl.skp rfl (Opl.skp rfl (Opl.p1 (n := ?_))))))
  obtain ⟨r15, h_r15, H⟩ := Option.bind_eq_some_iff.1 H
  refine Opl.callc (impl_bit.ev h_r15) rfl rfl rfl rfl ⟨(.lit _), trivial⟩ (by decide) (Opl.p1 (v := .agg [.lit (.int .i64 r13), .lit (.int .i64 r15)]) (n := ?_))
  obtain _ | k2 := k
  · simp [impl_spanOf.j1] at H
  simp only [impl_spanOf.j1] at H
  refine Opl.stb (vs := [.lit (.int .i64 r13), .lit (.int .i64 r15)]) h32 rfl rfl Z130 rfl (Nat.le_of_ble_eq_true rfl) rfl rfl rfl rfl ?_
  rintro S (h34 : Box (.ptr i3 0) [.lit (.int .i64 r13), .lit (.int .i64 r15)] _) u20
  refine Opl.nil ?_
  obtain rfl := Option.some.inj H
  refine Evr.retb (v := .agg [.lit (.int .i64 r13), .lit (.int .i64 r15)]) Try.func120 rfl h34 rfl T130 rfl ?_
  show Out _ (.agg [.lit (.int .i64 r13), .lit (.int .i64 r15)]) _
  exact (.agg2 .lit .lit)
 rw [if_pos c7] at H
 have e11 : (decide (a1_0 ≤ a2_1)) = true := by simpa using c7
 try rw [e11]
 refine Opl.p1 (v := .fel ((.lit (.int .i64 a2_0)) :: (.lit (.int .i64 a2_1)) :: [])) (n := Opl.ldp (.lit (.int .i64 a2_0)) rfl T3 rfl rfl rfl (Opl.p1 (v := .fel ((.lit (.int .i64 a1_1)) :: [])) (n := Opl.ldp (.lit (.int .i64 a1_1)) rfl T3 rfl rfl rfl (Opl.p1 (n := Opl.p1 (n := ?_))))))
 obtain ⟨r14, h_r14, H⟩ := Option.bind_eq_some_iff.1 H
 refine Opl.callc (impl_bit.ev h_r14) rfl rfl rfl rfl ⟨(.lit _), trivial⟩ (by decide) (Opl.p1 (v := .agg [.lit (.int .i64 r13), .lit (.int .i64 r14)]) (n := ?_))
 obtain _ | k1 := k
 · simp [impl_spanOf.j1] at H
 simp only [impl_spanOf.j1] at H
 refine Opl.stb (vs := [.lit (.int .i64 r13), .lit (.int .i64 r14)]) h32 rfl rfl Z130 rfl (Nat.le_of_ble_eq_true rfl) rfl rfl rfl rfl ?_
 rintro S (h33 : Box (.ptr i3 0) [.lit (.int .i64 r13), .lit (.int .i64 r14)] _) u19
 refine Opl.nil ?_
 obtain rfl := Option.some.inj H
 refine Evr.retb (v := .agg [.lit (.int .i64 r13), .lit (.int .i64 r14)]) Try.func120 rfl h33 rfl T130 rfl ?_
 show Out _ (.agg [.lit (.int .i64 r13), .lit (.int .i64 r14)]) _
 exact (.agg2 .lit .lit)
theorem impl_RangeOf.ev {k : Nat} {l0 : List ITerm} {v0 : PV} (hv0 : Sl cITerm l0 v0) {l1 : List Int} {v1 : PV} (hv1 : Sl (cInt .i64) l1 v1) {l2 : List Int} {v2 : PV} (hv2 : Sl (cInt .i64) l2 v2) {r : Int × Int × Bool} (H : impl_RangeOf.f k l0 l1 l2 = some r) : Ret Try.prog 45 [v0, v1, v2] fun v S => Out (fun q => ∃ q1 q2 q3, q = .tup [q1, q2, q3] ∧ q1 = .lit (.int .i64 r.1) ∧ q2 = .lit (.int .i64 r.2.1) ∧ q3 = .lit (.bool r.2.2)) v S := by
 unfold impl_RangeOf.f at H
 refine Ret.intro Try.func45 rfl (Nat.le_of_ble_eq_true rfl) rfl ?_
 rw [tm3]
 refine Evr.sr rfl (Opl.p1 (n := Opl.p1 (n := Opl.p1 (n := Opl.nil (Evr.seq (Evr.sr rfl (Opl.p1 (n := ?_))))))))
 obtain ⟨r1, h_r1, H⟩ := Option.bind_eq_some_iff.1 H
 refine Opl.callc (impl_stateOk.ev hv1 h_r1) rfl rfl rfl rfl ⟨hv1.plain, trivial⟩ (by decide) (Opl.p1 (n := Opl.p1 (n := ?_)))
 by_cases c1 : r1 = true
 case neg =>
  rw [if_neg c1] at H
  have e18 : (!r1) = true := by simpa using c1
  try rw [e18]
  refine Opl.skp rfl (Opl.skp rfl (Opl.skp rfl (Opl.p1 (n := Opl.p1 (n := Opl.skp rfl (Opl.skp rfl (Opl.skp rfl (Opl.skp rfl (Opl.skp rfl (Opl.p1 (n := Opl.p1 (n := Opl.skp rfl (Opl.skp rfl (Opl.skp rfl (Opl.skp rfl (Opl.skp rfl (Opl.p1 (n := Opl.nil (Evr.condT rfl (Evr.sr rfl (Opl.p1 (n := Opl.p1 (n := Opl.p1 (n := Opl.nil ?_))))))))))))))))))))))))
  obtain rfl := Option.some.inj H
  refine Evr.ret3 Try.func45 rfl ?_
  show Out _ (.tup [.lit (.int .i64 0), .lit (.int .i64 0), .lit (.bool false)]) _
  exact .tup3 .lit .lit .lit
 rw [if_pos c1] at H
 have e1 : (!r1) = false := by simpa using c1
 try rw [e1]
 refine Opl.p1 (n := ?_)
 obtain ⟨r2, h_r2, H⟩ := Option.bind_eq_some_iff.1 H
 refine Opl.callc (impl_stateOk.ev hv2 h_r2) rfl rfl rfl rfl ⟨hv2.plain, trivial⟩ (by decide) (Opl.p1 (n := Opl.p1 (n := Opl.p1 (n := ?_))))
 by_cases c2 : r2 = true
 case neg =>
  rw [if_neg c2] at H
  have e17 : (!r2) = true := by simpa using c2
  try rw [e17]
  refine Opl.skp rfl (Opl.skp rfl (Opl.skp rfl (Opl.skp rfl (Opl.skp rfl (Opl.p1 (n := Opl.p1 (n := Opl.skp rfl (Opl.skp rfl (Opl.skp rfl (Opl.skp rfl (Opl.skp rfl (Opl.p1 (n := Opl.nil (Evr.condT rfl (Evr.sr rfl (Opl.p1 (n := Opl.p1 (n := Opl.p1 (n := Opl.nil ?_)))))))))))))))))))
  obtain rfl := Option.some.inj H
  refine Evr.ret3 Try.func45 rfl ?_
  show Out _ (.tup [.lit (.int .i64 0), .lit (.int .i64 0), .lit (.bool false)]) _
  exact .tup3 .lit .lit .lit
 rw [if_pos c2] at H
 have e2 : (!r2) = false := by simpa using c2
 try rw [e2]
 refine Opl.p1 (n := Opl.len (xs := l1) (by exact hv1) K27 rfl rfl rfl rfl (Opl.p1 (n := Opl.len (xs := l2) (by exact hv2) K27 rfl rfl rfl rfl (Opl.p1 (n := Opl.p1 (n := Opl.p1 (n := ?_)))))))
 by_cases c3 : (l1.length : Int) ≠ (l2.length : Int)
 case pos =>
  rw [if_pos c3] at H
  have e3 : ((l1.length : Int) != (l2.length : Int)) = true := by simpa using c3
  try rw [e3]
  refine Opl.skp rfl (Opl.skp rfl (Opl.skp rfl (Opl.skp rfl (Opl.skp rfl (Opl.p1 (n := Opl.nil (Evr.condT rfl (Evr.sr rfl (Opl.p1 (n := Opl.p1 (n := Opl.p1 (n := Opl.nil ?_))))))))))))
  obtain rfl := Option.some.inj H
  refine Evr.ret3 Try.func45 rfl ?_
  show Out _ (.tup [.lit (.int .i64 0), .lit (.int .i64 0), .lit (.bool false)]) _
  exact .tup3 .lit .lit .lit
 rw [if_neg c3] at H
 have e4 : ((l1.length : Int) != (l2.length : Int)) = false := by simpa using c3
 try rw [e4]
 refine Opl.p1 (n := Opl.p1 (n := Opl.len (xs := l1) (by exact hv1) K27 rfl rfl rfl rfl ?_))
 obtain ⟨r3, h_r3, H⟩ := Option.bind_eq_some_iff.1 H
 refine Opl.callc (impl_TermsValid.ev hv0 h_r3) rfl rfl rfl rfl ⟨hv0.plain, (.lit _), trivial⟩ (by decide) (Opl.p1 (n := Opl.p1 (n := Opl.nil ?_)))
 by_cases c4 : r3 = true
 case neg =>
  rw [if_neg c4] at H
  have e16 : (!r3) = true := by simpa using c4
  try rw [e16]
  refine Evr.condT rfl (Evr.sr rfl (Opl.p1 (n := Opl.p1 (n := Opl.p1 (n := Opl.nil ?_)))))
  obtain rfl := Option.some.inj H
  refine Evr.ret3 Try.func45 rfl ?_
  show Out _ (.tup [.lit (.int .i64 0), .lit (.int .i64 0), .lit (.bool false)]) _
  exact .tup3 .lit .lit .lit
 rw [if_pos c4] at H
 have e5 : (!r3) = false := by simpa using c4
 try rw [e5]
 refine Evr.condF rfl (Evr.skip (Evr.seq (Evr.sr rfl (Opl.p1 (n := Opl.len (xs := l1) (by exact hv1) K27 rfl rfl rfl rfl (Opl.p1 (n := Opl.nil (Evr.block ?_))))))))
 refine Evr.loop (Evr.rounds (n := k) (Inv := fun n tm S => n ≤ k ∧ ∃ (x38_1 : Int), impl_RangeOf.l1 n x38_1 l0 l1 l2 = some r ∧ Has tm [(0, v0), (1, v1), (2, v2), (37, .lit (.int .i64 (l1.length : Int))), (38, .lit (.int .i64 x38_1))]) ?_ ?_ ?_)
 · exact ⟨Nat.le_refl _, _, H, ⟨rfl, rfl, rfl, rfl, rfl, trivial⟩⟩
 ·
  rintro tm S ⟨_, _, H, -⟩
  simp [impl_RangeOf.l1] at H
 ·
  rintro n1 ih1 tm S ⟨hle, x38_1, H, hh⟩
  simp only [impl_RangeOf.l1] at H
  rw [hh.eq]
  refine Evr.sr rfl (Opl.p1 (n := Opl.nil (Evr.seq ?_)))
  by_cases c5 : x38_1 < (l1.length : Int)
  case pos =>
   rw [if_pos c5] at H
   have e6 : (decide (x38_1 < (l1.length : Int))) = true := by simpa using c5
   try rw [e6]
   refine Evr.condT rfl (Evr.skip (Evr.seq (Evr.block (Evr.sr rfl (Opl.p1 (n := Opl.p1 (n := Opl.nil (Evr.seq (Evr.regionD rfl (by kernel_rfl) (Opl.p1 (n := Opl.p1 (n := ?_))))))))))))
   obtain ⟨c6, H⟩ := peel H
   obtain ⟨c7, H⟩ := peel H
   obtain ⟨c8, H⟩ := peel H
   obtain ⟨c9, H⟩ := peel H
   refine Opl.idx (M := (cInt .i64)) (xs := l1) (j := x38_1) (0 : Int) (by exact hv1) rfl (by omega) (by omega) K27 Z3 rfl rfl ?_
   rintro p1 q1 h1
   obtain rfl : p1 = [.lit (.int .i64 (rd l1 x38_1))] := h1
   refine Opl.lda (.lit (.int .i64 (rd l1 x38_1))) rfl T3 rfl rfl rfl rfl (Opl.p1 (n := Opl.p1 (n := Opl.idx (M := (cInt .i64)) (xs := l2) (j := x38_1) (0 : Int) (by exact hv2) rfl (by omega) (by omega) K27 Z3 rfl rfl ?_)))
   rintro p2 q2 h2
   obtain rfl : p2 = [.lit (.int .i64 (rd l2 x38_1))] := h2
   refine Opl.lda (.lit (.int .i64 (rd l2 x38_1))) rfl T3 rfl rfl rfl rfl (Opl.p1 (n := Opl.nil ?_))
   by_cases c10 : (rd l1 x38_1) > (rd l2 x38_1)
   case pos =>
    rw [if_pos c10] at H
    have e7 : (decide ((rd l1 x38_1) > (rd l2 x38_1))) = true := by simpa using c10
    try rw [e7]
    refine Evr.condT rfl (Evr.sr rfl (Opl.p1 (n := Opl.p1 (n := Opl.p1 (n := Opl.nil ?_)))))
    obtain rfl := Option.some.inj H
    refine Evr.ret3 Try.func45 rfl ?_
    show Out _ (.tup [.lit (.int .i64 0), .lit (.int .i64 0), .lit (.bool false)]) _
    exact .tup3 .lit .lit .lit
   rw [if_neg c10] at H
   have e8 : (decide ((rd l1 x38_1) > (rd l2 x38_1))) = false := by simpa using c10
   try rw [e8]
   refine Evr.condF rfl (Evr.skip (Evr.inBlock (Evr.regionN rfl (Opl.add (k := .i64) (a := x38_1) (b := 1) K3 rfl rfl rfl rfl (Opl.one (v := .lit (.int .i64 (wrap64 (x38_1 + 1)))) rfl rfl rfl (Opl.nil ?_))))))
   exact ih1 _ (by omega) _ _ ⟨by omega, _, H, ⟨rfl, rfl, rfl, rfl, rfl, trivial⟩⟩
  rw [if_neg c5] at H
  have e9 : (decide (x38_1 < (l1.length : Int))) = false := by simpa using c5
  try rw [e9]
  refine Evr.condF rfl (Evr.exit rfl (Evr.sr rfl (Opl.p1 (n := Opl.len (xs := l0) (by exact hv0) K66 rfl rfl rfl rfl ?_))))
  obtain ⟨c11, H⟩ := peel H
  obtain ⟨c12, H⟩ := peel H
  refine Opl.make (M := cIspan) (m := (l0.length : Int)) zIspan (by exact cIspan_z) rfl rfl K126 T130 rfl (by omega) (by show ((l0.length : Int)).toNat * 16 ≤ 281474976710656; omega) (by omega) rfl rfl rfl ?_
  rintro pv1 S h3 u1 w1
  refine Opl.p1 (n := Opl.nil (Evr.seq (Evr.sr rfl (Opl.p1 (n := Opl.len (xs := l0) (by exact hv0) K66 rfl rfl rfl rfl (Opl.p1 (n := Opl.nil (Evr.block ?_))))))))
  refine Evr.loop (Evr.rounds (n := n1) (Inv := fun n tm S => n ≤ n1 ∧ ∃ (x10q4_1 : List Ispan) (x56q4_1 : Int) (pv2 : PV), impl_RangeOf.l2 n x10q4_1 x56q4_1 l0 l1 l2 = some r ∧ Has tm [(1, v1), (2, v2), (10, pv2), (54, v0), (55, .lit (.int .i64 (l0.length : Int))), (56, .lit (.int .i64 x56q4_1))] ∧ Vec cIspan x10q4_1 pv2 S) ?_ ?_ ?_)
  · exact ⟨Nat.le_refl _, _, _, _, H, ⟨rfl, rfl, rfl, rfl, rfl, rfl, trivial⟩, h3⟩
  ·
   rintro tm S ⟨_, _, _, _, H, -⟩
   simp [impl_RangeOf.l2] at H
  ·
   rintro n2 ih2 tm S ⟨hle, x10q4_1, x56q4_1, pv2, H, hh, h4⟩
   simp only [impl_RangeOf.l2] at H
   rw [hh.eq]
   refine Evr.sr rfl (Opl.p1 (n := Opl.nil (Evr.seq ?_)))
   by_cases c13 : x56q4_1 < (l0.length : Int)
   case neg =>
    rw [if_neg c13] at H
    have e15 : (decide (x56q4_1 < (l0.length : Int))) = false := by simpa using c13
    try rw [e15]
    refine Evr.condF rfl (Evr.exit rfl (Evr.sr rfl (Opl.p1 (n := Opl.p1 (n := Opl.lenv (xs := x10q4_1) (by exact h4) K126 rfl rfl rfl rfl (Opl.subi (k := .i64) (a := (x10q4_1.length : Int)) (b := 1) K3 rfl rfl rfl rfl ?_))))))
    obtain ⟨c32, H⟩ := peel H
    obtain ⟨c33, H⟩ := peel H
    refine Opl.idv (M := cIspan) (xs := x10q4_1) (j := (wrap64 ((x10q4_1.length : Int) - 1))) (v := pv2) h4 rfl rfl (by omega) (by omega) K126 Z130 rfl rfl ?_
    rintro d6 z6 q13 h33 h34
    refine Opl.ldv (M := cIspan) (xs := x10q4_1) (j := (wrap64 ((x10q4_1.length : Int) - 1))) zIspan h33 h34 (by omega) (by omega) rfl T130 rfl rfl rfl ?_
    rintro p8 q14 h35
    obtain rfl := cIspan_R (x := (rd_Ispan x10q4_1 (wrap64 ((x10q4_1.length : Int) - 1)))) h35
    refine ⟨.agg [.lit (.int .i64 ((rd_Ispan x10q4_1 (wrap64 ((x10q4_1.length : Int) - 1))).f0)), .lit (.int .i64 ((rd_Ispan x10q4_1 (wrap64 ((x10q4_1.length : Int) - 1))).f1))], rfl, ?_⟩
    refine Opl.alloc T130 rfl rfl rfl ?_
    rintro i2 S h36 u9 w4
    have ap2 := w4.vec h4
    have h37 := u9.vec h4 ap2
    refine Opl.stb (vs := [.lit (.int .i64 ((rd_Ispan x10q4_1 (wrap64 ((x10q4_1.length : Int) - 1))).f0)), .lit (.int .i64 ((rd_Ispan x10q4_1 (wrap64 ((x10q4_1.length : Int) - 1))).f1))]) h36 rfl rfl Z130 rfl (Nat.le_of_ble_eq_true rfl) rfl rfl rfl rfl ?_
    rintro S (h38 : Box (.ptr i2 0) [.lit (.int .i64 ((rd_Ispan x10q4_1 (wrap64 ((x10q4_1.length : Int) - 1))).f0)), .lit (.int .i64 ((rd_Ispan x10q4_1 (wrap64 ((x10q4_1.length : Int) - 1))).f1))] _) u10
    have h39 := u10.vec h37 ap2
    refine Opl.nil (Evr.seq (Evr.regionD rfl (by kernel_rfl) (Opl.p1 (v := .ptr i2 0) (n := Opl.ldb (v := .lit (.int .i64 ((rd_Ispan x10q4_1 (wrap64 ((x10q4_1.length : Int) - 1))).f0))) h38 rfl T3 rfl rfl rfl rfl (Opl.p1 (v := .ptr i2 1) (n := Opl.ldb (v := .lit (.int .i64 ((rd_Ispan x10q4_1 (wrap64 ((x10q4_1.length : Int) - 1))).f1))) h38 rfl T3 rfl rfl rfl rfl (Opl.one (v := .lit (.int .i64 ((rd_Ispan x10q4_1 (wrap64 ((x10q4_1.length : Int) - 1))).f0))) rfl rfl rfl (Opl.one (v := .lit (.int .i64 ((rd_Ispan x10q4_1 (wrap64 ((x10q4_1.length : Int) - 1))).f1))) rfl rfl rfl (Opl.one (v := .lit (.bool true)) rfl rfl rfl (Opl.nil ?_))))))))))
    obtain rfl := Option.some.inj H
    refine Evr.ret3 Try.func45 rfl ?_
    show Out _ (.tup [.lit (.int .i64 ((rd_Ispan x10q4_1 (wrap64 ((x10q4_1.length : Int) - 1))).f0)), .lit (.int .i64 ((rd_Ispan x10q4_1 (wrap64 ((x10q4_1.length : Int) - 1))).f1)), .lit (.bool true)]) _
    exact .tup3 .lit .lit .lit
   rw [if_pos c13] at H
   have e10 : (decide (x56q4_1 < (l0.length : Int))) = true := by simpa using c13
   try rw [e10]
   refine Evr.condT rfl (Evr.skip (Evr.seq (Evr.block (Evr.sr rfl (Opl.p1 (n := ?_))))))
   obtain ⟨c14, H⟩ := peel H
   obtain ⟨c15, H⟩ := peel H
   refine Opl.idx (M := cITerm) (xs := l0) (j := x56q4_1) zITerm (by exact hv0) rfl (by omega) (by omega) K66 Z128 rfl rfl ?_
   rintro p3 q3 h5
   obtain rfl := cITerm_R (x := (rd_ITerm l0 x56q4_1)) h5
   refine Opl.lda (.agg [.lit (.int .i64 ((rd_ITerm l0 x56q4_1).f0)), .lit (.int .i64 ((rd_ITerm l0 x56q4_1).f1)), .lit (.int .i64 ((rd_ITerm l0 x56q4_1).f2)), .lit (.int .i64 ((rd_ITerm l0 x56q4_1).f3))]) rfl T128 rfl rfl rfl rfl (Opl.alloc T128 rfl rfl rfl ?_)
   rintro i1 S h6 u2 w2
   have ap1 := w2.vec h4
   have h7 := u2.vec h4 ap1
   refine Opl.p1 (n := Opl.stb (vs := [.lit (.int .i64 ((rd_ITerm l0 x56q4_1).f0)), .lit (.int .i64 ((rd_ITerm l0 x56q4_1).f1)), .lit (.int .i64 ((rd_ITerm l0 x56q4_1).f2)), .lit (.int .i64 ((rd_ITerm l0 x56q4_1).f3))]) h6 rfl rfl Z128 rfl (Nat.le_of_ble_eq_true rfl) rfl rfl rfl rfl ?_)
   rintro S (h8 : Box (.ptr i1 0) [.lit (.int .i64 ((rd_ITerm l0 x56q4_1).f0)), .lit (.int .i64 ((rd_ITerm l0 x56q4_1).f1)), .lit (.int .i64 ((rd_ITerm l0 x56q4_1).f2)), .lit (.int .i64 ((rd_ITerm l0 x56q4_1).f3))] _) u3
   have h9 := u3.vec h7 ap1
   refine Opl.nil (Evr.sr rfl (Opl.p1 (v := .ptr i1 0) (n := Opl.ldb (v := .lit (.int .i64 ((rd_ITerm l0 x56q4_1).f0))) h8 rfl T3 rfl rfl rfl rfl (Opl.nil (Evr.block (Evr.sr rfl (Opl.p1 (n := Opl.p1 (n := Opl.nil ?_)))))))))
   refine Evr.join (fun tm S => ∃ (kq1 : Nat) (x10q4_2 : List Ispan) (pv3 : PV), impl_RangeOf.l2 kq1 x10q4_2 (wrap64 (x56q4_1 + 1)) l0 l1 l2 = some r ∧ kq1 ≤ n2 ∧ Has tm [(1, v1), (2, v2), (10, pv3), (54, v0), (55, .lit (.int .i64 (l0.length : Int))), (56, .lit (.int .i64 x56q4_1))] ∧ Vec cIspan x10q4_2 pv3 S) ?_ fun hk1 => ?_
   ·
    rintro tm S ⟨kq1, x10q4_2, pv3, H, hle, hh, h10⟩
    rw [hh.eq]
    refine Evr.inBlock (Evr.inBlock (Evr.regionN rfl (Opl.add (k := .i64) (a := x56q4_1) (b := 1) K3 rfl rfl rfl rfl (Opl.one (v := .lit (.int .i64 (wrap64 (x56q4_1 + 1)))) rfl rfl rfl (Opl.nil ?_)))))
    exact ih2 _ (by omega) _ _ ⟨by omega, _, _, _, H, ⟨rfl, rfl, rfl, rfl, rfl, rfl, trivial⟩, h10⟩
   ·
    by_cases c16 : ((rd_ITerm l0 x56q4_1).f0) = 0
    case pos =>
     rw [if_pos c16] at H
     have e11 : (((rd_ITerm l0 x56q4_1).f0) == 0) = true := by simpa using c16
     try rw [e11]
     refine Evr.condT rfl (Evr.regionN rfl (Opl.p1 (n := Opl.p1 (n := Opl.p1 (v := .ptr i1 1) (n := Opl.ldb (v := .lit (.int .i64 ((rd_ITerm l0 x56q4_1).f1))) h8 rfl T3 rfl rfl rfl rfl (Opl.p1 (v := .ptr i1 1) (n := Opl.ldb (v := .lit (.int .i64 ((rd_ITerm l0 x56q4_1).f1))) h8 rfl T3 rfl rfl rfl rfl (Opl.p1 (v := .agg [.lit (.int .i64 ((rd_ITerm l0 x56q4_1).f1)), .lit (.int .i64 ((rd_ITerm l0 x56q4_1).f1))]) (n := ?_)))))))))
     obtain ⟨c17, H⟩ := peel H
     obtain ⟨c18, H⟩ := peel H
     refine Opl.idv (M := cIspan) (xs := x10q4_1) (j := x56q4_1) (v := pv2) h9 rfl rfl (by omega) (by omega) K126 Z130 rfl rfl ?_
     rintro d1 z1 q4 h11 h12
     refine Opl.stv (M := cIspan) (xs := x10q4_1) (j := x56q4_1) (y := (⟨((rd_ITerm l0 x56q4_1).f1), ((rd_ITerm l0 x56q4_1).f1)⟩ : Ispan)) (vs := [.lit (.int .i64 ((rd_ITerm l0 x56q4_1).f1)), .lit (.int .i64 ((rd_ITerm l0 x56q4_1).f1))]) h11 h12 (by omega) (by omega) rfl rfl (by exact cIspan_mk) Z130 rfl rfl rfl rfl ?_
     rw [← q4]
     rintro S h13 u4
     have h14 := u4.box h8 ap1.symm
     refine Opl.nil ?_
     exact hk1 _ _ ⟨_, _, _, H, by omega, ⟨rfl, rfl, rfl, rfl, rfl, rfl, trivial⟩, h13⟩
    rw [if_neg c16] at H
    have e12 : (((rd_ITerm l0 x56q4_1).f0) == 0) = false := by simpa using c16
    try rw [e12]
    refine Evr.condF rfl (Evr.sr rfl (Opl.p1 (n := Opl.p1 (n := Opl.nil ?_))))
    refine Evr.join (fun tm S => ∃ (kq2 : Nat) (x10q4_3 : List Ispan) (pv4 : PV), impl_RangeOf.l2 kq2 x10q4_3 (wrap64 (x56q4_1 + 1)) l0 l1 l2 = some r ∧ kq2 ≤ n2 ∧ Has tm [(1, v1), (2, v2), (10, pv4), (54, v0), (55, .lit (.int .i64 (l0.length : Int))), (56, .lit (.int .i64 x56q4_1))] ∧ Vec cIspan x10q4_3 pv4 S) ?_ fun hk2 => ?_
    ·
     rintro tm S ⟨kq2, x10q4_3, pv4, H, hle, hh, h15⟩
     rw [hh.eq]
     exact hk1 _ _ ⟨_, _, _, H, by omega, ⟨rfl, rfl, rfl, rfl, rfl, rfl, trivial⟩, h15⟩
    ·
     by_cases c19 : ((rd_ITerm l0 x56q4_1).f0) = 1
     case pos =>
      rw [if_pos c19] at H
      have e13 : (((rd_ITerm l0 x56q4_1).f0) == 1) = true := by simpa using c19
      try rw [e13]
      refine Evr.condT rfl (Evr.frzb 12 h8 rfl ?_)
      rintro S u5
      have h16 := u5.vec h9 ap1
      refine Evr.regionL [(4, .p), (9, .p), (6, .p), (11, .p)] rfl (by kernel_rfl) (Opl.p1 (n := Opl.p1 (n := Opl.p1 (n := Opl.p1 (v := .fel ((.lit (.int .i64 ((rd_ITerm l0 x56q4_1).f1))) :: (.lit (.int .i64 ((rd_ITerm l0 x56q4_1).f2))) :: (.lit (.int .i64 ((rd_ITerm l0 x56q4_1).f3))) :: [])) (n := Opl.ldp (.lit (.int .i64 ((rd_ITerm l0 x56q4_1).f1))) rfl T3 rfl rfl rfl ?_)))))
      obtain ⟨c20, H⟩ := peel H
      obtain ⟨c21, H⟩ := peel H
      obtain ⟨c22, H⟩ := peel H
      obtain ⟨c23, H⟩ := peel H
      obtain ⟨c24, H⟩ := peel H
      obtain ⟨c25, H⟩ := peel H
      refine Opl.idx (M := (cInt .i64)) (xs := l1) (j := ((rd_ITerm l0 x56q4_1).f1)) (0 : Int) (by exact hv1) rfl (by omega) (by omega) K27 Z3 rfl rfl ?_
      rintro p4 q5 h17
      obtain rfl : p4 = [.lit (.int .i64 (rd l1 ((rd_ITerm l0 x56q4_1).f1)))] := h17
      refine Opl.ldp (.lit (.int .i64 (rd l1 ((rd_ITerm l0 x56q4_1).f1)))) rfl T3 rfl rfl rfl (Opl.p1 (n := Opl.p1 (v := .fel ((.lit (.int .i64 ((rd_ITerm l0 x56q4_1).f1))) :: (.lit (.int .i64 ((rd_ITerm l0 x56q4_1).f2))) :: (.lit (.int .i64 ((rd_ITerm l0 x56q4_1).f3))) :: [])) (n := Opl.ldp (.lit (.int .i64 ((rd_ITerm l0 x56q4_1).f1))) rfl T3 rfl rfl rfl (Opl.idx (M := (cInt .i64)) (xs := l2) (j := ((rd_ITerm l0 x56q4_1).f1)) (0 : Int) (by exact hv2) rfl (by omega) (by omega) K27 Z3 rfl rfl ?_))))
      rintro p5 q6 h18
      obtain rfl : p5 = [.lit (.int .i64 (rd l2 ((rd_ITerm l0 x56q4_1).f1)))] := h18
      refine Opl.ldp (.lit (.int .i64 (rd l2 ((rd_ITerm l0 x56q4_1).f1)))) rfl T3 rfl rfl rfl (Opl.p1 (v := .agg [.lit (.int .i64 (rd l1 ((rd_ITerm l0 x56q4_1).f1))), .lit (.int .i64 (rd l2 ((rd_ITerm l0 x56q4_1).f1)))]) (n := Opl.idv (M := cIspan) (xs := x10q4_1) (j := x56q4_1) (v := pv2) h16 rfl rfl (by omega) (by omega) K126 Z130 rfl rfl ?_))
      rintro d2 z2 q7 h19 h20
      refine Opl.stv (M := cIspan) (xs := x10q4_1) (j := x56q4_1) (y := (⟨(rd l1 ((rd_ITerm l0 x56q4_1).f1)), (rd l2 ((rd_ITerm l0 x56q4_1).f1))⟩ : Ispan)) (vs := [.lit (.int .i64 (rd l1 ((rd_ITerm l0 x56q4_1).f1))), .lit (.int .i64 (rd l2 ((rd_ITerm l0 x56q4_1).f1)))]) h19 h20 (by omega) (by omega) rfl rfl (by exact cIspan_mk) Z130 rfl rfl rfl rfl ?_
      rw [← q7]
      rintro S h21 u6
      refine Opl.nil ?_
      exact hk2 _ _ ⟨_, _, _, H, by omega, ⟨rfl, rfl, rfl, rfl, rfl, rfl, trivial⟩, h21⟩
     rw [if_neg c19] at H
     have e14 : (((rd_ITerm l0 x56q4_1).f0) == 1) = false := by simpa using c19
     try rw [e14]
     refine Evr.condF rfl (Evr.frzb 12 h8 rfl ?_)
     rintro S u7
     have h22 := u7.vec h9 ap1
     refine Evr.regionL [(3, .p), (6, .p), (11, .p), (8, .q), (13, .q)] rfl (by kernel_rfl) (Opl.p1 (n := Opl.p1 (n := Opl.p1 (v := .fel ((.lit (.int .i64 ((rd_ITerm l0 x56q4_1).f0))) :: (.lit (.int .i64 ((rd_ITerm l0 x56q4_1).f1))) :: (.lit (.int .i64 ((rd_ITerm l0 x56q4_1).f2))) :: (.lit (.int .i64 ((rd_ITerm l0 x56q4_1).f3))) :: [])) (n := Opl.ldp (.lit (.int .i64 ((rd_ITerm l0 x56q4_1).f0))) rfl T3 rfl rfl rfl (Opl.p1 (n := Opl.p1 (v := .fel ((.lit (.int .i64 ((rd_ITerm l0 x56q4_1).f2))) :: (.lit (.int .i64 ((rd_ITerm l0 x56q4_1).f3))) :: [])) (n := Opl.ldp (.lit (.int .i64 ((rd_ITerm l0 x56q4_1).f2))) rfl T3 rfl rfl rfl ?_)))))))
     obtain ⟨c26, H⟩ := peel H
     obtain ⟨c27, H⟩ := peel H
     obtain ⟨c28, H⟩ := peel H
     obtain ⟨c29, H⟩ := peel H
     refine Opl.idv (M := cIspan) (xs := x10q4_1) (j := ((rd_ITerm l0 x56q4_1).f2)) (v := pv2) h22 rfl rfl (by omega) (by omega) K126 Z130 rfl rfl ?_
     rintro d3 z3 q8 h23 h24
     refine Opl.ldvk (M := cIspan) (xs := x10q4_1) (j := ((rd_ITerm l0 x56q4_1).f2)) 0 zIspan h23 h24 (by omega) (by omega) (by decide) rfl T130 rfl rfl rfl ?_
     rintro p6 q9 h25
     obtain rfl := cIspan_R (x := (rd_Ispan x10q4_1 ((rd_ITerm l0 x56q4_1).f2))) h25
     refine ⟨.agg [.lit (.int .i64 ((rd_Ispan x10q4_1 ((rd_ITerm l0 x56q4_1).f2)).f0)), .lit (.int .i64 ((rd_Ispan x10q4_1 ((rd_ITerm l0 x56q4_1).f2)).f1))], rfl, ?_⟩
     refine Opl.p1 (n := Opl.p1 (v := .fel ((.lit (.int .i64 ((rd_ITerm l0 x56q4_1).f3))) :: [])) (n := Opl.ldp (.lit (.int .i64 ((rd_ITerm l0 x56q4_1).f3))) rfl T3 rfl rfl rfl (Opl.idv (M := cIspan) (xs := x10q4_1) (j := ((rd_ITerm l0 x56q4_1).f3)) (v := pv2) h22 rfl rfl (by omega) (by omega) K126 Z130 rfl rfl ?_)))
     rintro d4 z4 q10 h26 h27
     refine Opl.ldvk (M := cIspan) (xs := x10q4_1) (j := ((rd_ITerm l0 x56q4_1).f3)) 0 zIspan h26 h27 (by omega) (by omega) (by decide) rfl T130 rfl rfl rfl ?_
     rintro p7 q11 h28
     obtain rfl := cIspan_R (x := (rd_Ispan x10q4_1 ((rd_ITerm l0 x56q4_1).f3))) h28
     refine ⟨.agg [.lit (.int .i64 ((rd_Ispan x10q4_1 ((rd_ITerm l0 x56q4_1).f3)).f0)), .lit (.int .i64 ((rd_Ispan x10q4_1 ((rd_ITerm l0 x56q4_1).f3)).f1))], rfl, ?_⟩
     obtain ⟨r4, h_r4, H⟩ := Option.bind_eq_some_iff.1 H
     refine Opl.call (impl_spanOf.ev h_r4) rfl rfl rfl rfl ⟨(.lit _), (.aggL ⟨(.lit _), (.lit _), trivial⟩), (.aggL ⟨(.lit _), (.lit _), trivial⟩), trivial⟩ (by decide) ?_
     rintro _ ⟨_, _, rfl, rfl, rfl⟩
     obtain ⟨c30, H⟩ := peel H
     obtain ⟨c31, H⟩ := peel H
     refine Opl.idv (M := cIspan) (xs := x10q4_1) (j := x56q4_1) (v := pv2) h22 rfl rfl (by omega) (by omega) K126 Z130 rfl rfl ?_
     rintro d5 z5 q12 h30 h31
     refine Opl.stv (M := cIspan) (xs := x10q4_1) (j := x56q4_1) (y := (⟨r4.1, r4.2⟩ : Ispan)) (vs := [.lit (.int .i64 r4.1), .lit (.int .i64 r4.2)]) h30 h31 (by omega) (by omega) rfl rfl (by exact cIspan_mk) Z130 rfl rfl rfl rfl ?_
     rw [← q12]
     rintro S h32 u8
     refine Opl.nil ?_
     exact hk2 _ _ ⟨_, _, _, H, by omega, ⟨rfl, rfl, rfl, rfl, rfl, rfl, trivial⟩, h32⟩
end Go.Proofs.Ytpjmiaooogephaa.PA
end
