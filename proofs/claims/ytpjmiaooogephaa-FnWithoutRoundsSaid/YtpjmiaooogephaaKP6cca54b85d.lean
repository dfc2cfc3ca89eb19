/- Walks of Go functions: each is shown to answer as the Lean function beside it tells, under the conditions that its theorem names. -/
import Derived.Test.YtpjmiaooogephaaProg
import Derived.KernelRfl
import Derived.Below
import Derived.Deep.Draws
import Derived.Deep.AppendLies
import Derived.Maps.AppendAt
import Derived.OwnWalk
import Derived.Laws.BytesArg
import Derived.Laws.MakeOwn
import Derived.Laws.OwnMore
import Derived.Deep.OwnRows
import Derived.Tactics
import Derived.Lib.ConvBytes
import Derived.Laws.Slices
import Derived.WalkKit
import Derived.RowKit3
import Derived.Deep.LoopGhost
import Derived.Deep.QuietTactic
import Derived.BigQuiet
import Derived.WideLaws
import Derived.Deep.DeepCutAuto
import Derived.Deep.CutBlock
import Derived.Deep.RegionHeld3
import Derived.Laws.Rows
import Derived.Lib.AppendStr
import Derived.ArgAppend
import Derived.Laws.IdiomCopy
import Derived.OrdersHeld
import Derived.Laws.BitsLemmas
import Derived.RowKit
import Derived.Laws.StructEq
import Derived.Lib.SliceRun
import Derived.WalkSpells
import Derived.ChangeArms
import Derived.ChangeSlices
import Derived.Deep.Slices
import Derived.Attr
import Derived.Laws.Append
import Derived.Laws.AppendOwn
import Derived.Laws.Entries
import Derived.Calls
import Derived.Laws.Sem
import Derived.Test.YtpjmiaooogephaaKW353788804a
import Derived.Test.YtpjmiaooogephaaKD5438592b15
section
namespace Go.Proofs.Ytpjmiaooogephaa.PA
open Go Go.Abs Go.RowKit Go.Proofs Go.Proofs.YtpjmiaooogephaaW.PrintWords Go.Proofs.YtpjmiaooogephaaW.PrintLast Go.Proofs.YtpjmiaooogephaaW.PrintMore
set_option maxRecDepth 100000
theorem K3 : tkAt Try.prog 3 = some (.int .i64) := by kernel_rfl
theorem Z3 : szAt Try.prog 3 = some 1 := by kernel_rfl
theorem T3 : tiOf Try.prog 3 = some ⟨(.int .i64), 1, 8, [.int .i64 0], []⟩ := by kernel_rfl
theorem K4 : tkAt Try.prog 4 = some .bool := by kernel_rfl
theorem Z4 : szAt Try.prog 4 = some 1 := by kernel_rfl
theorem T4 : tiOf Try.prog 4 = some ⟨.bool, 1, 1, [.bool false], []⟩ := by kernel_rfl
theorem K5 : tkAt Try.prog 5 = some (.int .u8) := by kernel_rfl
theorem Z5 : szAt Try.prog 5 = some 1 := by kernel_rfl
theorem T5 : tiOf Try.prog 5 = some ⟨(.int .u8), 1, 1, [.int .u8 0], []⟩ := by kernel_rfl
theorem K22 : tkAt Try.prog 22 = some (.slice 5) := by kernel_rfl
theorem Z22 : szAt Try.prog 22 = some 1 := by kernel_rfl
theorem T22 : tiOf Try.prog 22 = some ⟨(.slice 5), 1, 24, [.slice none 0 0], []⟩ := by kernel_rfl
theorem K23 : tkAt Try.prog 23 = some (.slice 101) := by kernel_rfl
theorem Z23 : szAt Try.prog 23 = some 1 := by kernel_rfl
theorem T23 : tiOf Try.prog 23 = some ⟨(.slice 101), 1, 24, [.slice none 0 0], []⟩ := by kernel_rfl
theorem K24 : tkAt Try.prog 24 = some (.slice 106) := by kernel_rfl
theorem Z24 : szAt Try.prog 24 = some 1 := by kernel_rfl
theorem T24 : tiOf Try.prog 24 = some ⟨(.slice 106), 1, 24, [.slice none 0 0], []⟩ := by kernel_rfl
theorem K26 : tkAt Try.prog 26 = some .strct := by kernel_rfl
theorem Z26 : szAt Try.prog 26 = some 2 := by kernel_rfl
theorem T26 : tiOf Try.prog 26 = some ⟨.strct, 2, 48, [.slice none 0 0, .slice none 0 0], [⟨0, 1, (.slice 101)⟩, ⟨1, 1, (.slice 106)⟩]⟩ := by kernel_rfl
theorem K27 : tkAt Try.prog 27 = some (.slice 3) := by kernel_rfl
theorem Z27 : szAt Try.prog 27 = some 1 := by kernel_rfl
theorem T27 : tiOf Try.prog 27 = some ⟨(.slice 3), 1, 24, [.slice none 0 0], []⟩ := by kernel_rfl
theorem K30 : tkAt Try.prog 30 = some (.slice 27) := by kernel_rfl
theorem Z30 : szAt Try.prog 30 = some 1 := by kernel_rfl
theorem T30 : tiOf Try.prog 30 = some ⟨(.slice 27), 1, 24, [.slice none 0 0], []⟩ := by kernel_rfl
theorem K42 : tkAt Try.prog 42 = some .strct := by kernel_rfl
theorem Z42 : szAt Try.prog 42 = some 2 := by kernel_rfl
theorem T42 : tiOf Try.prog 42 = some ⟨.strct, 2, 48, [.slice none 0 0, .slice none 0 0], [⟨0, 1, (.slice 27)⟩, ⟨1, 1, (.slice 3)⟩]⟩ := by kernel_rfl
theorem K53 : tkAt Try.prog 53 = some (.slice 153) := by kernel_rfl
theorem Z53 : szAt Try.prog 53 = some 1 := by kernel_rfl
theorem T53 : tiOf Try.prog 53 = some ⟨(.slice 153), 1, 24, [.slice none 0 0], []⟩ := by kernel_rfl
theorem K54 : tkAt Try.prog 54 = some (.slice 151) := by kernel_rfl
theorem Z54 : szAt Try.prog 54 = some 1 := by kernel_rfl
theorem T54 : tiOf Try.prog 54 = some ⟨(.slice 151), 1, 24, [.slice none 0 0], []⟩ := by kernel_rfl
theorem K56 : tkAt Try.prog 56 = some .strct := by kernel_rfl
theorem Z56 : szAt Try.prog 56 = some 2 := by kernel_rfl
theorem T56 : tiOf Try.prog 56 = some ⟨.strct, 2, 48, [.slice none 0 0, .slice none 0 0], [⟨0, 1, (.slice 153)⟩, ⟨1, 1, (.slice 151)⟩]⟩ := by kernel_rfl
theorem K66 : tkAt Try.prog 66 = some (.slice 128) := by kernel_rfl
theorem Z66 : szAt Try.prog 66 = some 1 := by kernel_rfl
theorem T66 : tiOf Try.prog 66 = some ⟨(.slice 128), 1, 24, [.slice none 0 0], []⟩ := by kernel_rfl
theorem K73 : tkAt Try.prog 73 = some (.ptr 135) := by kernel_rfl
theorem Z73 : szAt Try.prog 73 = some 1 := by kernel_rfl
theorem T73 : tiOf Try.prog 73 = some ⟨(.ptr 135), 1, 8, [.pointer none], []⟩ := by kernel_rfl
theorem K86 : tkAt Try.prog 86 = some .func := by kernel_rfl
theorem Z86 : szAt Try.prog 86 = some 1 := by kernel_rfl
theorem T86 : tiOf Try.prog 86 = some ⟨.func, 1, 8, [.nilFunc], []⟩ := by kernel_rfl
theorem K89 : tkAt Try.prog 89 = some .func := by kernel_rfl
theorem Z89 : szAt Try.prog 89 = some 1 := by kernel_rfl
theorem T89 : tiOf Try.prog 89 = some ⟨.func, 1, 8, [.nilFunc], []⟩ := by kernel_rfl
theorem K91 : tkAt Try.prog 91 = some (.slice 4) := by kernel_rfl
theorem Z91 : szAt Try.prog 91 = some 1 := by kernel_rfl
theorem T91 : tiOf Try.prog 91 = some ⟨(.slice 4), 1, 24, [.slice none 0 0], []⟩ := by kernel_rfl
theorem K101 : tkAt Try.prog 101 = some .strct := by kernel_rfl
theorem Z101 : szAt Try.prog 101 = some 3 := by kernel_rfl
theorem T101 : tiOf Try.prog 101 = some ⟨.strct, 3, 24, [.int .i64 0, .int .i64 0, .int .i64 0], [⟨0, 1, (.int .i64)⟩, ⟨1, 1, (.int .i64)⟩, ⟨2, 1, (.int .i64)⟩]⟩ := by kernel_rfl
theorem K102 : tkAt Try.prog 102 = some .func := by kernel_rfl
theorem Z102 : szAt Try.prog 102 = some 1 := by kernel_rfl
theorem T102 : tiOf Try.prog 102 = some ⟨.func, 1, 8, [.nilFunc], []⟩ := by kernel_rfl
theorem K104 : tkAt Try.prog 104 = some (.slice 66) := by kernel_rfl
theorem Z104 : szAt Try.prog 104 = some 1 := by kernel_rfl
theorem T104 : tiOf Try.prog 104 = some ⟨(.slice 66), 1, 24, [.slice none 0 0], []⟩ := by kernel_rfl
theorem K106 : tkAt Try.prog 106 = some .strct := by kernel_rfl
theorem Z106 : szAt Try.prog 106 = some 3 := by kernel_rfl
theorem T106 : tiOf Try.prog 106 = some ⟨.strct, 3, 72, [.slice none 0 0, .slice none 0 0, .slice none 0 0], [⟨0, 1, (.slice 128)⟩, ⟨1, 1, (.slice 3)⟩, ⟨2, 1, (.slice 66)⟩]⟩ := by kernel_rfl
theorem K108 : tkAt Try.prog 108 = some .func := by kernel_rfl
theorem Z108 : szAt Try.prog 108 = some 1 := by kernel_rfl
theorem T108 : tiOf Try.prog 108 = some ⟨.func, 1, 8, [.nilFunc], []⟩ := by kernel_rfl
theorem K124 : tkAt Try.prog 124 = some .func := by kernel_rfl
theorem Z124 : szAt Try.prog 124 = some 1 := by kernel_rfl
theorem T124 : tiOf Try.prog 124 = some ⟨.func, 1, 8, [.nilFunc], []⟩ := by kernel_rfl
theorem K126 : tkAt Try.prog 126 = some (.slice 130) := by kernel_rfl
theorem Z126 : szAt Try.prog 126 = some 1 := by kernel_rfl
theorem T126 : tiOf Try.prog 126 = some ⟨(.slice 130), 1, 24, [.slice none 0 0], []⟩ := by kernel_rfl
theorem K128 : tkAt Try.prog 128 = some .strct := by kernel_rfl
theorem Z128 : szAt Try.prog 128 = some 4 := by kernel_rfl
theorem T128 : tiOf Try.prog 128 = some ⟨.strct, 4, 32, [.int .i64 0, .int .i64 0, .int .i64 0, .int .i64 0], [⟨0, 1, (.int .i64)⟩, ⟨1, 1, (.int .i64)⟩, ⟨2, 1, (.int .i64)⟩, ⟨3, 1, (.int .i64)⟩]⟩ := by kernel_rfl
theorem K130 : tkAt Try.prog 130 = some .strct := by kernel_rfl
theorem Z130 : szAt Try.prog 130 = some 2 := by kernel_rfl
theorem T130 : tiOf Try.prog 130 = some ⟨.strct, 2, 16, [.int .i64 0, .int .i64 0], [⟨0, 1, (.int .i64)⟩, ⟨1, 1, (.int .i64)⟩]⟩ := by kernel_rfl
theorem K135 : tkAt Try.prog 135 = some .strct := by kernel_rfl
theorem Z135 : szAt Try.prog 135 = some 2 := by kernel_rfl
theorem T135 : tiOf Try.prog 135 = some ⟨.strct, 2, 32, [.slice none 0 0, .int .i64 0], [⟨0, 1, (.slice 5)⟩, ⟨1, 1, (.int .i64)⟩]⟩ := by kernel_rfl
theorem K148 : tkAt Try.prog 148 = some (.slice 180) := by kernel_rfl
theorem Z148 : szAt Try.prog 148 = some 1 := by kernel_rfl
theorem T148 : tiOf Try.prog 148 = some ⟨(.slice 180), 1, 24, [.slice none 0 0], []⟩ := by kernel_rfl
theorem K149 : tkAt Try.prog 149 = some (.slice 148) := by kernel_rfl
theorem Z149 : szAt Try.prog 149 = some 1 := by kernel_rfl
theorem T149 : tiOf Try.prog 149 = some ⟨(.slice 148), 1, 24, [.slice none 0 0], []⟩ := by kernel_rfl
theorem K151 : tkAt Try.prog 151 = some .strct := by kernel_rfl
theorem Z151 : szAt Try.prog 151 = some 3 := by kernel_rfl
theorem T151 : tiOf Try.prog 151 = some ⟨.strct, 3, 72, [.slice none 0 0, .slice none 0 0, .slice none 0 0], [⟨0, 1, (.slice 180)⟩, ⟨1, 1, (.slice 3)⟩, ⟨2, 1, (.slice 148)⟩]⟩ := by kernel_rfl
theorem K153 : tkAt Try.prog 153 = some .strct := by kernel_rfl
theorem Z153 : szAt Try.prog 153 = some 3 := by kernel_rfl
theorem T153 : tiOf Try.prog 153 = some ⟨.strct, 3, 24, [.int .i64 0, .int .i64 0, .int .i64 0], [⟨0, 1, (.int .i64)⟩, ⟨1, 1, (.int .i64)⟩, ⟨2, 1, (.int .i64)⟩]⟩ := by kernel_rfl
theorem K180 : tkAt Try.prog 180 = some .strct := by kernel_rfl
theorem Z180 : szAt Try.prog 180 = some 4 := by kernel_rfl
theorem T180 : tiOf Try.prog 180 = some ⟨.strct, 4, 32, [.int .i64 0, .int .i64 0, .int .i64 0, .int .i64 0], [⟨0, 1, (.int .i64)⟩, ⟨1, 1, (.int .i64)⟩, ⟨2, 1, (.int .i64)⟩, ⟨3, 1, (.int .i64)⟩]⟩ := by kernel_rfl
def cIVar : Cd IVar := cIso (cPair (cInt .i64) (cPair (cInt .i64) (cInt .i64))) (fun x => (x.f0, x.f1, x.f2))
theorem oIVar : cIVar.Ones := oIso (oPair (oInt .i64) (oPair (oInt .i64) (oInt .i64)))
theorem cIVar_R {x : IVar} {c : List PV} (h : cIVar.R x c) : c = [.lit (.int .i64 x.f0), .lit (.int .i64 x.f1), .lit (.int .i64 x.f2)] := by
  obtain ⟨p0, q0, e0, g0, r0⟩ := h
  obtain ⟨p1, q1, e1, g1, r1⟩ := r0
  have g0' : p0 = _ := g0
  have g1' : p1 = _ := g1
  have g2' : q1 = _ := r1
  rw [e0, g0', e1, g1', g2']; rfl
theorem cIVar_mk {a0 : Int} {a1 : Int} {a2 : Int}  : cIVar.R ⟨a0, a1, a2⟩ [.lit (.int .i64 a0), .lit (.int .i64 a1), .lit (.int .i64 a2)] := ⟨_, _, rfl, rfl, ⟨_, _, rfl, rfl, rfl⟩⟩
def cITerm : Cd ITerm := cIso (cPair (cInt .i64) (cPair (cInt .i64) (cPair (cInt .i64) (cInt .i64)))) (fun x => (x.f0, x.f1, x.f2, x.f3))
theorem oITerm : cITerm.Ones := oIso (oPair (oInt .i64) (oPair (oInt .i64) (oPair (oInt .i64) (oInt .i64))))
theorem cITerm_R {x : ITerm} {c : List PV} (h : cITerm.R x c) : c = [.lit (.int .i64 x.f0), .lit (.int .i64 x.f1), .lit (.int .i64 x.f2), .lit (.int .i64 x.f3)] := by
  obtain ⟨p0, q0, e0, g0, r0⟩ := h
  obtain ⟨p1, q1, e1, g1, r1⟩ := r0
  obtain ⟨p2, q2, e2, g2, r2⟩ := r1
  have g0' : p0 = _ := g0
  have g1' : p1 = _ := g1
  have g2' : p2 = _ := g2
  have g3' : q2 = _ := r2
  rw [e0, g0', e1, g1', e2, g2', g3']; rfl
theorem cITerm_mk {a0 : Int} {a1 : Int} {a2 : Int} {a3 : Int}  : cITerm.R ⟨a0, a1, a2, a3⟩ [.lit (.int .i64 a0), .lit (.int .i64 a1), .lit (.int .i64 a2), .lit (.int .i64 a3)] := ⟨_, _, rfl, rfl, ⟨_, _, rfl, rfl, ⟨_, _, rfl, rfl, rfl⟩⟩⟩
def cIRule : Cd IRule := cIso (cPair (cSl cITerm) (cPair (cSl (cInt .i64)) (cSl (cSl cITerm)))) (fun x => (x.f0, x.f1, x.f2))
theorem cIRule_R {x : IRule} {c : List PV} (h : cIRule.R x c) : ∃ v0 v1 v2, c = [v0, v1, v2] ∧ Sl cITerm x.f0 v0 ∧ Sl (cInt .i64) x.f1 v1 ∧ Sl (cSl cITerm) x.f2 v2 := by
  obtain ⟨p0, q0, e0, g0, r0⟩ := h
  obtain ⟨p1, q1, e1, g1, r1⟩ := r0
  obtain ⟨v0, g0', s0⟩ := g0
  obtain ⟨v1, g1', s1⟩ := g1
  obtain ⟨v2, g2', s2⟩ := r1
  exact ⟨v0, v1, v2, by rw [e0, g0', e1, g1', g2']; rfl, s0, s1, s2⟩
def odIRule : Od IRule := oIs (oPr (oPl (cSl cITerm) (oSl cITerm)) (oPr (oRow (oPl (cInt .i64) (oInt .i64))) (oRow (oPl (cSl cITerm) (oSl cITerm))))) (fun x => (x.f0, x.f1, x.f2))
theorem odIRule_mk {S : Sto} {l0 : List ITerm} {v0 : PV} (h0 : Sl cITerm l0 v0) {l1 : List Int} {v1 : PV} (h1 : Vec (cInt .i64) l1 v1 S) {l2 : List (List ITerm)} {v2 : PV} (h2 : Vec (cSl cITerm) l2 v2 S) (a : Ap v1 v2) : odIRule.R S ((PV.id? v1).toList ++ (PV.id? v2).toList) ⟨l0, l1, l2⟩ [v0, v1, v2] := ⟨[v0], [v1, v2], [], _, rfl, rfl, Apt.nil, ⟨rfl, _, rfl, h0⟩, [v1], [v2], _, _, rfl, rfl, a.apt, h1.tree _, h2.tree _⟩
attribute [go_sem] K3 Z3 T3 K4 Z4 T4 K5 Z5 T5 K22 Z22 T22 K23 Z23 T23 K24 Z24 T24 K26 Z26 T26 K27 Z27 T27 K30 Z30 T30 K42 Z42 T42 K53 Z53 T53 K54 Z54 T54 K56 Z56 T56 K66 Z66 T66 K73 Z73 T73 K86 Z86 T86 K89 Z89 T89 K91 Z91 T91 K101 Z101 T101 K102 Z102 T102 K104 Z104 T104 K106 Z106 T106 K108 Z108 T108 K124 Z124 T124 K126 Z126 T126 K128 Z128 T128 K130 Z130 T130 K135 Z135 T135 K148 Z148 T148 K149 Z149 T149 K151 Z151 T151 K153 Z153 T153 K180 Z180 T180
end Go.Proofs.Ytpjmiaooogephaa.PA
end
section
namespace Go.Proofs.Ytpjmiaooogephaa.PA
open Go Go.Abs Go.RowKit Go.Proofs Go.Proofs.YtpjmiaooogephaaW.PrintWords Go.Proofs.YtpjmiaooogephaaW.PrintLast Go.Proofs.YtpjmiaooogephaaW.PrintMore
set_option maxRecDepth 100000
set_option maxHeartbeats 4000000
set_option linter.unusedVariables false
set_option linter.unusedSimpArgs false
theorem impl_in.ev {a0 : Int} {a1 : Int} {a2 : Int} {r : Bool} (H : impl_in.f a0 a1 a2 = some r) : Ret Try.prog 85 [.lit (.int .i64 a0), .lit (.int .i64 a1), .lit (.int .i64 a2)] fun v S => v = .lit (.bool r) := by
 unfold impl_in.f at H
 refine Ret.intro Try.func85 rfl (Nat.le_of_ble_eq_true rfl) rfl ?_
 rw [tm3]
 refine Evr.sr rfl (Opl.p1 (n := Opl.nil (Evr.sr rfl (Opl.p1 (n := Opl.p1 (n := Opl.p1 (n := Opl.p1 (n := ?_))))))))
 by_cases c1 : a0 ≥ a1
 case neg =>
  rw [if_neg c1] at H
  have e2 : (decide (a0 ≥ a1)) = false := by simpa using c1
  try rw [e2]
  refine Opl.sk2 rfl rfl (Opl.skp rfl (Opl.p1 (n := Opl.p1 (n := Opl.nil ?_))))
  obtain rfl := sinj H
  refine Evr.ret1 Try.func85 rfl ?_
  show (.lit (.bool false) : PV) = _
  first | rfl | (simp only [go_sem]; rfl)
 rw [if_pos c1] at H
 have e1 : (decide (a0 ≥ a1)) = true := by simpa using c1
 try rw [e1]
 refine Opl.p1 (n := Opl.p1 (n := Opl.p1 (n := Opl.p1 (n := Opl.p1 (n := Opl.nil ?_)))))
 obtain rfl := sinj H
 refine Evr.ret1 Try.func85 rfl ?_
 show (.lit (.bool (decide (a0 ≤ a2))) : PV) = _
 first | rfl | (simp only [go_sem]; rfl)
theorem impl_size.ev {k : Nat} {l0 : List IVar} {v0 : PV} (hv0 : Sl cIVar l0 v0) {r : Int} (H : impl_size.f k l0 = some r) : Ret Try.prog 62 [v0] fun v S => v = .lit (.int .i64 r) := by
 unfold impl_size.f at H
 refine Ret.intro Try.func62 rfl (Nat.le_of_ble_eq_true rfl) rfl ?_
 rw [tm1]
 refine Evr.sr rfl (Opl.p1 (n := Opl.nil (Evr.sr rfl (Opl.p1 (n := Opl.nil (Evr.seq (Evr.sr rfl (Opl.p1 (n := Opl.len (xs := l0) (by exact hv0) K23 rfl rfl rfl rfl (Opl.p1 (n := Opl.nil (Evr.block ?_))))))))))))
 refine Evr.loop (Evr.rounds (n := k) (Inv := fun n tm S => n ≤ k ∧ ∃ (x3_1 : Int) (x8_1 : Int), impl_size.l0 n x3_1 l0 (l0.length : Int) x8_1 = some r ∧ Has tm [(3, .lit (.int .i64 x3_1)), (6, v0), (7, .lit (.int .i64 (l0.length : Int))), (8, .lit (.int .i64 x8_1))]) ?_ ?_ ?_)
 · exact ⟨Nat.le_refl _, _, _, H, ⟨rfl, rfl, rfl, rfl, trivial⟩⟩
 ·
  rintro tm S ⟨_, _, _, H, -⟩
  simp [impl_size.l0] at H
 ·
  rintro n1 ih1 tm S ⟨hle, x3_1, x8_1, H, hh⟩
  simp only [impl_size.l0] at H
  rw [hh.eq]
  refine Evr.sr rfl (Opl.p1 (n := Opl.nil (Evr.seq ?_)))
  by_cases c1 : x8_1 < (l0.length : Int)
  case neg =>
   rw [if_neg c1] at H
   have e2 : (decide (x8_1 < (l0.length : Int))) = false := by simpa using c1
   try rw [e2]
   refine Evr.condF rfl (Evr.exit rfl (Evr.sr rfl (Opl.p1 (n := Opl.p1 (n := Opl.nil ?_)))))
   obtain rfl := sinj H
   refine Evr.ret1 Try.func62 rfl ?_
   show (.lit (.int .i64 x3_1) : PV) = _
   first | rfl | (simp only [go_sem]; rfl)
  rw [if_pos c1] at H
  have e1 : (decide (x8_1 < (l0.length : Int))) = true := by simpa using c1
  try rw [e1]
  refine Evr.condT rfl (Evr.skip (Evr.seq (Evr.block (Evr.sr rfl ?_))))
  obtain ⟨c2, H⟩ := peel H
  obtain ⟨c3, H⟩ := peel H
  refine Opl.idx (M := cIVar) (xs := l0) (j := x8_1) zIVar (by exact hv0) rfl (by omega) (by omega) K23 Z101 rfl rfl ?_
  rintro p1 q1 h1
  obtain rfl := cIVar_R (x := (rd_IVar l0 x8_1)) h1
  refine Opl.lda (.agg [.lit (.int .i64 ((rd_IVar l0 x8_1).f0)), .lit (.int .i64 ((rd_IVar l0 x8_1).f1)), .lit (.int .i64 ((rd_IVar l0 x8_1).f2))]) rfl T101 rfl rfl rfl rfl (Opl.alloc T101 rfl rfl rfl ?_)
  rintro i1 S h2 u1 w1
  refine Opl.stb (vs := [.lit (.int .i64 ((rd_IVar l0 x8_1).f0)), .lit (.int .i64 ((rd_IVar l0 x8_1).f1)), .lit (.int .i64 ((rd_IVar l0 x8_1).f2))]) h2 rfl rfl Z101 rfl (Nat.le_of_ble_eq_true rfl) rfl rfl rfl rfl ?_
  rintro S (h3 : Box (.ptr i1 0) [.lit (.int .i64 ((rd_IVar l0 x8_1).f0)), .lit (.int .i64 ((rd_IVar l0 x8_1).f1)), .lit (.int .i64 ((rd_IVar l0 x8_1).f2))] _) u2
  refine Opl.nil (Evr.regionN rfl (Opl.p1 (n := Opl.p1 (v := .ptr i1 1) (n := Opl.ldb (v := .lit (.int .i64 ((rd_IVar l0 x8_1).f1))) h3 rfl T3 rfl rfl rfl rfl (Opl.p1 (v := .ptr i1 0) (n := Opl.ldb (v := .lit (.int .i64 ((rd_IVar l0 x8_1).f0))) h3 rfl T3 rfl rfl rfl rfl (Opl.subi (k := .i64) (a := ((rd_IVar l0 x8_1).f1)) (b := ((rd_IVar l0 x8_1).f0)) K3 rfl rfl rfl rfl (Opl.add (k := .i64) (a := (wrap64 (((rd_IVar l0 x8_1).f1) - ((rd_IVar l0 x8_1).f0)))) (b := 1) K3 rfl rfl rfl rfl (Opl.mul (k := .i64) (a := x3_1) (b := (wrap64 ((wrap64 (((rd_IVar l0 x8_1).f1) - ((rd_IVar l0 x8_1).f0))) + 1))) K3 rfl rfl rfl rfl (Opl.one (v := .lit (.int .i64 (wrap64 (x3_1 * (wrap64 ((wrap64 (((rd_IVar l0 x8_1).f1) - ((rd_IVar l0 x8_1).f0))) + 1)))))) rfl rfl rfl (Opl.nil (Evr.inBlock (Evr.regionN rfl (Opl.add (k := .i64) (a := x8_1) (b := 1) K3 rfl rfl rfl rfl (Opl.one (v := .lit (.int .i64 (wrap64 (x8_1 + 1)))) rfl rfl rfl (Opl.nil ?_))))))))))))))))
  exact ih1 _ (by omega) _ _ ⟨by omega, _, _, H, ⟨rfl, rfl, rfl, rfl, trivial⟩⟩
theorem impl_varOk.ev {a0_0 : Int} {a0_1 : Int} {a0_2 : Int} {r : Bool} (H : impl_varOk.f a0_0 a0_1 a0_2 = some r) : Ret Try.prog 90 [.agg [.lit (.int .i64 a0_0), .lit (.int .i64 a0_1), .lit (.int .i64 a0_2)]] fun v S => v = .lit (.bool r) := by
 unfold impl_varOk.f at H
 refine Ret.intro Try.func90 rfl (Nat.le_of_ble_eq_true rfl) rfl ?_
 rw [tm1]
 refine Evr.sr rfl (Opl.box (cs := [.lit (.int .i64 a0_0), .lit (.int .i64 a0_1), .lit (.int .i64 a0_2)]) rfl rfl rfl rfl ?_)
 rintro i1 S h1 u1 w1
 refine Opl.p1 (n := Opl.nil (Evr.sr rfl (Opl.p1 (v := .ptr i1 0) (n := Opl.ldb (v := .lit (.int .i64 a0_0)) h1 rfl T3 rfl rfl rfl rfl ?_))))
 obtain ⟨t480, h_t480, H⟩ := obs H
 refine Opl.callc (impl_in.ev h_t480) rfl rfl rfl rfl ⟨(.lit _), (.lit _), (.lit _), trivial⟩ (by decide) (Opl.p1 (n := ?_))
 by_cases c1 : t480 = true
 case neg =>
  rw [if_neg c1] at H
  obtain rfl : t480 = false := by simpa using c1
  refine Opl.sk4 rfl rfl rfl rfl (Opl.skp rfl (Opl.p1 (n := Opl.p1 (n := Opl.sk4 rfl rfl rfl rfl (Opl.sk2 rfl rfl (Opl.p1 (n := Opl.p1 (n := Opl.sk4 rfl rfl rfl rfl (Opl.sk2 rfl rfl (Opl.skp rfl (Opl.p1 (n := Opl.p1 (n := Opl.nil ?_)))))))))))))
  obtain rfl := sinj H
  refine Evr.ret1 Try.func90 rfl ?_
  show (.lit (.bool false) : PV) = _
  first | rfl | (simp only [go_sem]; rfl)
 rw [if_pos c1] at H
 obtain rfl : t480 = true := by simpa using c1
 refine Opl.p1 (v := .ptr i1 1) (n := Opl.ldb (v := .lit (.int .i64 a0_1)) h1 rfl T3 rfl rfl rfl rfl (Opl.p1 (v := .ptr i1 0) (n := Opl.ldb (v := .lit (.int .i64 a0_0)) h1 rfl T3 rfl rfl rfl rfl ?_)))
 obtain ⟨t481, h_t481, H⟩ := obs H
 refine Opl.callc (impl_in.ev h_t481) rfl rfl rfl rfl ⟨(.lit _), (.lit _), (.lit _), trivial⟩ (by decide) (Opl.p1 (n := Opl.p1 (n := ?_)))
 by_cases c2 : t481 = true
 case neg =>
  rw [if_neg c2] at H
  obtain rfl : t481 = false := by simpa using c2
  refine Opl.sk4 rfl rfl rfl rfl (Opl.sk2 rfl rfl (Opl.p1 (n := Opl.p1 (n := Opl.sk4 rfl rfl rfl rfl (Opl.sk2 rfl rfl (Opl.skp rfl (Opl.p1 (n := Opl.p1 (n := Opl.nil ?_)))))))))
  obtain rfl := sinj H
  refine Evr.ret1 Try.func90 rfl ?_
  show (.lit (.bool false) : PV) = _
  first | rfl | (simp only [go_sem]; rfl)
 rw [if_pos c2] at H
 obtain rfl : t481 = true := by simpa using c2
 refine Opl.p1 (v := .ptr i1 1) (n := Opl.ldb (v := .lit (.int .i64 a0_1)) h1 rfl T3 rfl rfl rfl rfl (Opl.p1 (v := .ptr i1 0) (n := Opl.ldb (v := .lit (.int .i64 a0_0)) h1 rfl T3 rfl rfl rfl rfl (Opl.subi (k := .i64) (a := a0_1) (b := a0_0) K3 rfl rfl rfl rfl (Opl.lss (a := (wrap64 (a0_1 - a0_0))) (b := 20) K3 rfl rfl rfl rfl (Opl.p1 (n := Opl.one (v := .lit (.bool (decide ((wrap64 (a0_1 - a0_0)) < 20)))) rfl rfl rfl ?_)))))))
 by_cases c3 : (wrap64 (a0_1 - a0_0)) < 20
 case neg =>
  rw [if_neg c3] at H
  have e2 : (decide ((wrap64 (a0_1 - a0_0)) < 20)) = false := by simpa using c3
  try rw [e2]
  refine Opl.sk4 rfl rfl rfl rfl (Opl.sk2 rfl rfl (Opl.skp rfl (Opl.p1 (n := Opl.one (v := .lit (.bool false)) rfl rfl rfl (Opl.nil ?_)))))
  obtain rfl := sinj H
  refine Evr.ret1 Try.func90 rfl ?_
  show (.lit (.bool false) : PV) = _
  first | rfl | (simp only [go_sem]; rfl)
 rw [if_pos c3] at H
 have e1 : (decide ((wrap64 (a0_1 - a0_0)) < 20)) = true := by simpa using c3
 try rw [e1]
 refine Opl.p1 (v := .ptr i1 2) (n := Opl.ldb (v := .lit (.int .i64 a0_2)) h1 rfl T3 rfl rfl rfl rfl (Opl.p1 (v := .ptr i1 0) (n := Opl.ldb (v := .lit (.int .i64 a0_0)) h1 rfl T3 rfl rfl rfl rfl (Opl.p1 (v := .ptr i1 1) (n := Opl.ldb (v := .lit (.int .i64 a0_1)) h1 rfl T3 rfl rfl rfl rfl ?_)))))
 obtain ⟨t482, h_t482, H⟩ := obs H
 refine Opl.callc (impl_in.ev h_t482) rfl rfl rfl rfl ⟨(.lit _), (.lit _), (.lit _), trivial⟩ (by decide) (Opl.p1 (n := Opl.one (v := .lit (.bool t482)) rfl rfl rfl (Opl.nil ?_)))
 obtain rfl := sinj H
 refine Evr.ret1 Try.func90 rfl ?_
 show (.lit (.bool t482) : PV) = _
 first | rfl | (simp only [go_sem]; rfl)
theorem impl_SystemValid_1.ev {a0_0 : Int} {a0_1 : Int} {a0_2 : Int} {r : Bool} (H : impl_SystemValid_1.f a0_0 a0_1 a0_2 = some r) : Ret Try.prog 89 [.agg [.lit (.int .i64 a0_0), .lit (.int .i64 a0_1), .lit (.int .i64 a0_2)]] fun v S => v = .lit (.bool r) := by
 unfold impl_SystemValid_1.f at H
 refine Ret.intro Try.func89 rfl (Nat.le_of_ble_eq_true rfl) rfl ?_
 rw [tm1]
 refine Evr.sr rfl (Opl.box (cs := [.lit (.int .i64 a0_0), .lit (.int .i64 a0_1), .lit (.int .i64 a0_2)]) rfl rfl rfl rfl ?_)
 rintro i1 S h1 u1 w1
 refine Opl.p1 (n := Opl.nil (Evr.sr rfl (Opl.ldb (v := .agg [.lit (.int .i64 a0_0), .lit (.int .i64 a0_1), .lit (.int .i64 a0_2)]) h1 rfl T101 rfl rfl rfl rfl ?_)))
 obtain ⟨t513, h_t513, H⟩ := obs H
 refine Opl.callc (impl_varOk.ev h_t513) rfl rfl rfl rfl ⟨(.aggL ⟨(.lit _), (.lit _), (.lit _), trivial⟩), trivial⟩ (by decide) (Opl.p1 (n := Opl.p1 (n := Opl.nil ?_)))
 obtain rfl := sinj H
 refine Evr.ret1 Try.func89 rfl ?_
 show (.lit (.bool (!t513)) : PV) = _
 first | rfl | (simp only [go_sem]; rfl)
theorem slices_IndexFunc_at_impl_SystemValid_1.ev {k : Nat} {l0 : List IVar} {v0 : PV} (hv0 : Sl cIVar l0 v0) {r : Int} (H : slices_IndexFunc_at_impl_SystemValid_1.f k l0 = some r) : Ret Try.prog 148 [v0, .lit (.func (.func 89) #[] #[])] fun v S => v = .lit (.int .i64 r) := by
 unfold slices_IndexFunc_at_impl_SystemValid_1.f at H
 refine Ret.intro Try.func148 rfl (Nat.le_of_ble_eq_true rfl) rfl ?_
 rw [tm2]
 refine Evr.sr rfl (Opl.p1 (n := Opl.nil (Evr.seq (Evr.sr rfl (Opl.p1 (n := Opl.len (xs := l0) (by exact hv0) K23 rfl rfl rfl rfl (Opl.p1 (n := Opl.nil (Evr.block ?_)))))))))
 refine Evr.loop (Evr.rounds (n := k) (Inv := fun n tm S => n ≤ k ∧ ∃ (x8_1 : Int), slices_IndexFunc_at_impl_SystemValid_1.l0 n l0 (l0.length : Int) x8_1 = some r ∧ Has tm [(0, v0), (1, .lit (.func (.func 89) #[] #[])), (7, .lit (.int .i64 (l0.length : Int))), (8, .lit (.int .i64 x8_1))]) ?_ ?_ ?_)
 · exact ⟨Nat.le_refl _, _, H, ⟨rfl, rfl, rfl, rfl, trivial⟩⟩
 ·
  rintro tm S ⟨_, _, H, -⟩
  simp [slices_IndexFunc_at_impl_SystemValid_1.l0] at H
 ·
  rintro n1 ih1 tm S ⟨hle, x8_1, H, hh⟩
  simp only [slices_IndexFunc_at_impl_SystemValid_1.l0] at H
  rw [hh.eq]
  refine Evr.sr rfl (Opl.p1 (n := Opl.nil (Evr.seq ?_)))
  by_cases c1 : x8_1 < (l0.length : Int)
  case neg =>
   rw [if_neg c1] at H
   have e2 : (decide (x8_1 < (l0.length : Int))) = false := by simpa using c1
   try rw [e2]
   refine Evr.condF rfl (Evr.exit rfl (Evr.sr rfl (Opl.p1 (n := Opl.nil ?_))))
   obtain rfl := sinj H
   refine Evr.ret1 Try.func148 rfl ?_
   show (.lit (.int .i64 (-1)) : PV) = _
   first | rfl | (simp only [go_sem]; rfl)
  rw [if_pos c1] at H
  have e1 : (decide (x8_1 < (l0.length : Int))) = true := by simpa using c1
  try rw [e1]
  refine Evr.condT rfl (Evr.skip (Evr.seq (Evr.block (Evr.sr rfl (Opl.p1 (n := Opl.p1 (n := Opl.nil (Evr.sr rfl (Opl.p1 (n := Opl.p1 (n := Opl.p1 (n := ?_))))))))))))
  obtain ⟨c2, H⟩ := peel H
  obtain ⟨c3, H⟩ := peel H
  refine Opl.idx (M := cIVar) (xs := l0) (j := x8_1) zIVar (by exact hv0) rfl (by omega) (by omega) K23 Z101 rfl rfl ?_
  rintro p1 q1 h1
  obtain rfl := cIVar_R (x := (rd_IVar l0 x8_1)) h1
  refine Opl.lda (.agg [.lit (.int .i64 ((rd_IVar l0 x8_1).f0)), .lit (.int .i64 ((rd_IVar l0 x8_1).f1)), .lit (.int .i64 ((rd_IVar l0 x8_1).f2))]) rfl T101 rfl rfl rfl rfl ?_
  obtain ⟨t515, h_t515, H⟩ := obs H
  refine Opl.callc (impl_SystemValid_1.ev h_t515) rfl rfl rfl rfl ⟨(.aggL ⟨(.lit _), (.lit _), (.lit _), trivial⟩), trivial⟩ (by decide) (Opl.nil ?_)
  by_cases c4 : t515 = true
  case pos =>
   rw [if_pos c4] at H
   obtain rfl : t515 = true := by simpa using c4
   refine Evr.condT rfl (Evr.sr rfl (Opl.p1 (n := Opl.p1 (n := Opl.nil ?_))))
   obtain rfl := sinj H
   refine Evr.ret1 Try.func148 rfl ?_
   show (.lit (.int .i64 x8_1) : PV) = _
   first | rfl | (simp only [go_sem]; rfl)
  rw [if_neg c4] at H
  obtain rfl : t515 = false := by simpa using c4
  refine Evr.condF rfl (Evr.skip (Evr.inBlock (Evr.regionN rfl (Opl.add (k := .i64) (a := x8_1) (b := 1) K3 rfl rfl rfl rfl (Opl.one (v := .lit (.int .i64 (wrap64 (x8_1 + 1)))) rfl rfl rfl (Opl.nil ?_))))))
  exact ih1 _ (by omega) _ _ ⟨by omega, _, H, ⟨rfl, rfl, rfl, rfl, trivial⟩⟩
theorem slices_ContainsFunc_at_impl_SystemValid_1.ev {k : Nat} {l0 : List IVar} {v0 : PV} (hv0 : Sl cIVar l0 v0) {r : Bool} (H : slices_ContainsFunc_at_impl_SystemValid_1.f k l0 = some r) : Ret Try.prog 88 [v0, .lit (.func (.func 89) #[] #[])] fun v S => v = .lit (.bool r) := by
 unfold slices_ContainsFunc_at_impl_SystemValid_1.f at H
 refine Ret.intro Try.func88 rfl (Nat.le_of_ble_eq_true rfl) rfl ?_
 rw [tm2]
 refine Evr.sr rfl (Opl.p1 (n := Opl.nil (Evr.sr rfl (Opl.p1 (n := Opl.p1 (n := ?_))))))
 obtain ⟨t516, h_t516, H⟩ := obs H
 refine Opl.callc (slices_IndexFunc_at_impl_SystemValid_1.ev hv0 h_t516) rfl rfl rfl rfl ⟨hv0.plain, (.lit _), trivial⟩ (by decide) (Opl.p1 (n := Opl.p1 (n := Opl.nil ?_)))
 obtain rfl := sinj H
 refine Evr.ret1 Try.func88 rfl ?_
 show (.lit (.bool (decide (t516 ≥ 0))) : PV) = _
 first | rfl | (simp only [go_sem]; rfl)
theorem impl_parts.ev {k : Nat} {a0 : Int} {r : Int × Int × Int} (H : impl_parts.f k a0 = some r) : Ret Try.prog 198 [.lit (.int .i64 a0)] fun v S => Out (fun q => ∃ q1 q2 q3, q = .tup [q1, q2, q3] ∧ q1 = .lit (.int .i64 r.1) ∧ q2 = .lit (.int .i64 r.2.1) ∧ q3 = .lit (.int .i64 r.2.2)) v S := by
 unfold impl_parts.f at H
 refine Ret.intro Try.func198 rfl (Nat.le_of_ble_eq_true rfl) rfl ?_
 rw [tm1]
 refine Evr.sr rfl (Opl.p1 (n := Opl.p1 (n := Opl.p1 (n := Opl.nil (Evr.seq (Evr.sr rfl (Opl.p1 (n := Opl.nil (Evr.block (Evr.seq (Evr.sr rfl (Opl.p1 (n := Opl.p1 (n := Opl.nil ?_))))))))))))))
 refine Evr.join (fun tm S => ∃ (kq1 : Nat) (x6_1 : Bool), impl_parts.j0 kq1 a0 x6_1 = some r ∧ Has tm [(5, .lit (.int .i64 a0)), (6, .lit (.bool x6_1))]) ?_ fun hk1 => ?_
 ·
  rintro tm S ⟨kq1, x6_1, H, hh⟩
  rw [hh.eq]
  obtain _ | k1 := kq1
  · simp [impl_parts.j0] at H
  simp only [impl_parts.j0] at H
  by_cases c1 : x6_1 = true
  case pos =>
   rw [if_pos c1] at H
   obtain rfl : x6_1 = true := by simpa using c1
   refine Evr.condT rfl (Evr.sr rfl (Opl.p1 (n := Opl.p1 (n := Opl.p1 (n := Opl.nil ?_)))))
   obtain rfl := sinj H
   refine Evr.ret3 Try.func198 rfl ?_
   show Out _ (.tup [.lit (.int .i64 2), .lit (.int .i64 1), .lit (.int .i64 1)]) _
   exact .tup3 .lit .lit .lit
  rw [if_neg c1] at H
  obtain rfl : x6_1 = false := by simpa using c1
  refine Evr.condF rfl (Evr.seq (Evr.sr rfl (Opl.p1 (n := Opl.p1 (n := Opl.nil ?_)))))
  refine Evr.join (fun tm S => ∃ (kq2 : Nat) (x10_1 : Bool), impl_parts.j1 kq2 a0 x10_1 = some r ∧ Has tm [(5, .lit (.int .i64 a0)), (10, .lit (.bool x10_1))]) ?_ fun hk2 => ?_
  ·
   rintro tm S ⟨kq2, x10_1, H, hh⟩
   rw [hh.eq]
   obtain _ | k2 := kq2
   · simp [impl_parts.j1] at H
   simp only [impl_parts.j1] at H
   by_cases c2 : x10_1 = true
   case pos =>
    rw [if_pos c2] at H
    obtain rfl : x10_1 = true := by simpa using c2
    refine Evr.condT rfl (Evr.sr rfl (Opl.p1 (n := Opl.p1 (n := Opl.p1 (n := Opl.nil ?_)))))
    obtain rfl := sinj H
    refine Evr.ret3 Try.func198 rfl ?_
    show Out _ (.tup [.lit (.int .i64 2), .lit (.int .i64 1), .lit (.int .i64 2)]) _
    exact .tup3 .lit .lit .lit
   rw [if_neg c2] at H
   obtain rfl : x10_1 = false := by simpa using c2
   refine Evr.condF rfl (Evr.sr rfl (Opl.p1 (n := Opl.p1 (n := Opl.nil ?_))))
   by_cases c3 : a0 = 7
   case pos =>
    rw [if_pos c3] at H
    have e1 : (a0 == 7) = true := by simpa using c3
    try rw [e1]
    refine Evr.condT rfl (Evr.sr rfl (Opl.p1 (n := Opl.p1 (n := Opl.p1 (n := Opl.nil ?_)))))
    obtain rfl := sinj H
    refine Evr.ret3 Try.func198 rfl ?_
    show Out _ (.tup [.lit (.int .i64 1), .lit (.int .i64 2), .lit (.int .i64 2)]) _
    exact .tup3 .lit .lit .lit
   rw [if_neg c3] at H
   have e2 : (a0 == 7) = false := by simpa using c3
   try rw [e2]
   refine Evr.condF rfl (Evr.seq (Evr.sr rfl (Opl.p1 (n := Opl.p1 (n := Opl.nil ?_)))))
   refine Evr.join (fun tm S => ∃ (kq3 : Nat) (x15_1 : Bool), impl_parts.j2 kq3 x15_1 = some r ∧ Has tm [(15, .lit (.bool x15_1))]) ?_ fun hk3 => ?_
   ·
    rintro tm S ⟨kq3, x15_1, H, hh⟩
    rw [hh.eq]
    obtain _ | k3 := kq3
    · simp [impl_parts.j2] at H
    simp only [impl_parts.j2] at H
    by_cases c4 : x15_1 = true
    case pos =>
     rw [if_pos c4] at H
     obtain rfl : x15_1 = true := by simpa using c4
     refine Evr.condT rfl (Evr.sr rfl (Opl.p1 (n := Opl.p1 (n := Opl.p1 (n := Opl.nil ?_)))))
     obtain rfl := sinj H
     refine Evr.ret3 Try.func198 rfl ?_
     show Out _ (.tup [.lit (.int .i64 2), .lit (.int .i64 2), .lit (.int .i64 2)]) _
     exact .tup3 .lit .lit .lit
    rw [if_neg c4] at H
    obtain rfl : x15_1 = false := by simpa using c4
    refine Evr.condF rfl (Evr.skip (Evr.inBlock (Evr.sr rfl (Opl.p1 (n := Opl.p1 (n := Opl.p1 (n := Opl.nil ?_)))))))
    obtain rfl := sinj H
    refine Evr.ret3 Try.func198 rfl ?_
    show Out _ (.tup [.lit (.int .i64 0), .lit (.int .i64 0), .lit (.int .i64 1)]) _
    exact .tup3 .lit .lit .lit
   ·
    by_cases c5 : a0 = 8
    case pos =>
     rw [if_pos c5] at H
     have e3 : (a0 == 8) = true := by simpa using c5
     try rw [e3]
     refine Evr.condT rfl (Evr.skip ?_)
     exact hk3 _ _ ⟨_, _, H, ⟨(by first | rfl | (show PV.lit (.bool _) = _; congr 2; simp_all)), trivial⟩⟩
    rw [if_neg c5] at H
    have e4 : (a0 == 8) = false := by simpa using c5
    try rw [e4]
    refine Evr.condF rfl (Evr.regionN rfl (Opl.p1 (n := Opl.p1 (n := Opl.nil ?_))))
    exact hk3 _ _ ⟨_, _, H, ⟨(by first | rfl | (show PV.lit (.bool _) = _; congr 2; simp_all)), trivial⟩⟩
  ·
   by_cases c6 : a0 = 5
   case pos =>
    rw [if_pos c6] at H
    have e5 : (a0 == 5) = true := by simpa using c6
    try rw [e5]
    refine Evr.condT rfl (Evr.skip ?_)
    exact hk2 _ _ ⟨_, _, H, ⟨rfl, (by first | rfl | (show PV.lit (.bool _) = _; congr 2; simp_all)), trivial⟩⟩
   rw [if_neg c6] at H
   have e6 : (a0 == 5) = false := by simpa using c6
   try rw [e6]
   refine Evr.condF rfl (Evr.regionN rfl (Opl.p1 (n := Opl.p1 (n := Opl.nil ?_))))
   exact hk2 _ _ ⟨_, _, H, ⟨rfl, (by first | rfl | (show PV.lit (.bool _) = _; congr 2; simp_all)), trivial⟩⟩
 ·
  by_cases c7 : a0 = 2
  case pos =>
   rw [if_pos c7] at H
   have e7 : (a0 == 2) = true := by simpa using c7
   try rw [e7]
   refine Evr.condT rfl (Evr.skip ?_)
   exact hk1 _ _ ⟨_, _, H, ⟨rfl, (by first | rfl | (show PV.lit (.bool _) = _; congr 2; simp_all)), trivial⟩⟩
  rw [if_neg c7] at H
  have e8 : (a0 == 2) = false := by simpa using c7
  try rw [e8]
  refine Evr.condF rfl (Evr.sr rfl (Opl.p1 (n := Opl.p1 (n := Opl.nil ?_))))
  refine Evr.join (fun tm S => ∃ (kq4 : Nat) (x6_2 : Bool), impl_parts.j0 kq4 a0 x6_2 = some r ∧ Has tm [(5, .lit (.int .i64 a0)), (6, .lit (.bool x6_2))]) ?_ fun hk4 => ?_
  ·
   rintro tm S ⟨kq4, x6_2, H, hh⟩
   rw [hh.eq]
   exact hk1 _ _ ⟨_, _, H, ⟨rfl, (by first | rfl | (show PV.lit (.bool _) = _; congr 2; simp_all)), trivial⟩⟩
  ·
   by_cases c8 : a0 = 3
   case pos =>
    rw [if_pos c8] at H
    have e9 : (a0 == 3) = true := by simpa using c8
    try rw [e9]
    refine Evr.condT rfl (Evr.skip ?_)
    exact hk4 _ _ ⟨_, _, H, ⟨rfl, (by first | rfl | (show PV.lit (.bool _) = _; congr 2; simp_all)), trivial⟩⟩
   rw [if_neg c8] at H
   have e10 : (a0 == 3) = false := by simpa using c8
   try rw [e10]
   refine Evr.condF rfl (Evr.regionN rfl (Opl.p1 (n := Opl.p1 (n := Opl.nil ?_))))
   exact hk4 _ _ ⟨_, _, H, ⟨rfl, (by first | rfl | (show PV.lit (.bool _) = _; congr 2; simp_all)), trivial⟩⟩
theorem impl_kindsOf.ev {k : Nat} {l0 : List ITerm} {v0 : PV} (hv0 : Sl cITerm l0 v0) {a1 : Int} {r : (List Int)} (H : impl_kindsOf.f k l0 a1 = some r) : Ret Try.prog 166 [v0, .lit (.int .i64 a1)] fun v S => Vec (cInt .i64) r v S ∧ (r = [] → v = .lit (.slice none 0 0)) := by
 unfold impl_kindsOf.f at H
 refine Ret.intro Try.func166 rfl (Nat.le_of_ble_eq_true rfl) rfl ?_
 rw [tm2]
 refine Evr.sr rfl (Opl.p1 (n := Opl.nil (Evr.seq (Evr.seq ?_))))
 refine Evr.join (fun tm S => ∃ (kq1 : Nat) (x20_1 : Bool), impl_kindsOf.j0 kq1 l0 a1 x20_1 = some r ∧ Has tm [(0, v0), (1, .lit (.int .i64 a1)), (20, .lit (.bool x20_1))]) ?_ fun hk1 => ?_
 ·
  rintro tm S ⟨kq1, x20_1, H, hh⟩
  rw [hh.eq]
  obtain _ | k1 := kq1
  · simp [impl_kindsOf.j0] at H
  simp only [impl_kindsOf.j0] at H
  by_cases c1 : x20_1 = true
  case pos =>
   rw [if_pos c1] at H
   obtain rfl : x20_1 = true := by simpa using c1
   refine Evr.condT rfl (Evr.sr rfl (Opl.p1 (n := Opl.nil ?_)))
   obtain rfl := sinj H
   refine Evr.ret1 Try.func166 rfl ?_
   show Vec _ _ (.lit (.slice none 0 0)) _ ∧ _
   exact ⟨.nil, by intro e; first | rfl | (have := congrArg List.length e; simp only [List.length_nil] at this; omega)⟩
  rw [if_neg c1] at H
  obtain rfl : x20_1 = false := by simpa using c1
  refine Evr.condF rfl (Evr.skip (Evr.sr rfl (Opl.p1 (n := Opl.len (xs := l0) (by exact hv0) K66 rfl rfl rfl rfl ?_))))
  obtain ⟨c2, H⟩ := peel H
  obtain ⟨c3, H⟩ := peel H
  refine Opl.make0 (M := (cInt .i64)) (m := (l0.length : Int)) rfl rfl K27 T3 rfl rfl (by omega) (by show ((l0.length : Int)).toNat * 8 ≤ 281474976710656; omega) (by omega) rfl rfl rfl ?_
  rintro pv2 S h1 u1 w1
  refine Opl.p1 (n := Opl.nil (Evr.seq (Evr.sr rfl (Opl.p1 (n := Opl.len (xs := l0) (by exact hv0) K66 rfl rfl rfl rfl (Opl.p1 (n := Opl.nil (Evr.block ?_))))))))
  refine Evr.loop (Evr.rounds (n := k1) (Inv := fun n tm S => n ≤ k1 ∧ ∃ (x5_1 : List Int) (x26_1 : Int) (pv3 : PV), impl_kindsOf.l0 n a1 x5_1 l0 (l0.length : Int) x26_1 = some r ∧ Has tm [(1, .lit (.int .i64 a1)), (5, pv3), (24, v0), (25, .lit (.int .i64 (l0.length : Int))), (26, .lit (.int .i64 x26_1))] ∧ Vec (cInt .i64) x5_1 pv3 S) ?_ ?_ ?_)
  · exact ⟨Nat.le_refl _, _, _, _, H, ⟨rfl, rfl, rfl, rfl, rfl, trivial⟩, h1⟩
  ·
   rintro tm S ⟨_, _, _, _, H, -⟩
   simp [impl_kindsOf.l0] at H
  ·
   rintro n1 ih1 tm S ⟨hle, x5_1, x26_1, pv3, H, hh, h2⟩
   simp only [impl_kindsOf.l0] at H
   rw [hh.eq]
   refine Evr.sr rfl (Opl.p1 (n := Opl.nil (Evr.seq ?_)))
   by_cases c4 : x26_1 < (l0.length : Int)
   case neg =>
    rw [if_neg c4] at H
    have e20 : (decide (x26_1 < (l0.length : Int))) = false := by simpa using c4
    try rw [e20]
    refine Evr.condF rfl (Evr.exit rfl (Evr.sr rfl (Opl.p1 (n := Opl.p1 (n := Opl.nil ?_)))))
    obtain ⟨c26, H⟩ := peel H
    obtain rfl := sinj H
    refine Evr.ret1 Try.func166 rfl ?_
    show Vec _ _ pv3 _ ∧ _
    exact ⟨h2, by intro e; first | rfl | (have := congrArg List.length e; simp only [List.length_nil] at this; omega)⟩
   rw [if_pos c4] at H
   have e1 : (decide (x26_1 < (l0.length : Int))) = true := by simpa using c4
   try rw [e1]
   refine Evr.condT rfl (Evr.skip (Evr.seq (Evr.block (Evr.sr rfl (Opl.p1 (n := ?_))))))
   obtain ⟨c5, H⟩ := peel H
   obtain ⟨c6, H⟩ := peel H
   refine Opl.idx (M := cITerm) (xs := l0) (j := x26_1) zITerm (by exact hv0) rfl (by omega) (by omega) K66 Z128 rfl rfl ?_
   rintro p1 q1 h3
   obtain rfl := cITerm_R (x := (rd_ITerm l0 x26_1)) h3
   refine Opl.lda (.agg [.lit (.int .i64 ((rd_ITerm l0 x26_1).f0)), .lit (.int .i64 ((rd_ITerm l0 x26_1).f1)), .lit (.int .i64 ((rd_ITerm l0 x26_1).f2)), .lit (.int .i64 ((rd_ITerm l0 x26_1).f3))]) rfl T128 rfl rfl rfl rfl (Opl.alloc T128 rfl rfl rfl ?_)
   rintro i1 S h4 u2 w2
   have ap1 := w2.vec h2
   have h5 := u2.vec h2 ap1
   refine Opl.p1 (n := Opl.stb (vs := [.lit (.int .i64 ((rd_ITerm l0 x26_1).f0)), .lit (.int .i64 ((rd_ITerm l0 x26_1).f1)), .lit (.int .i64 ((rd_ITerm l0 x26_1).f2)), .lit (.int .i64 ((rd_ITerm l0 x26_1).f3))]) h4 rfl rfl Z128 rfl (Nat.le_of_ble_eq_true rfl) rfl rfl rfl rfl ?_)
   rintro S (h6 : Box (.ptr i1 0) [.lit (.int .i64 ((rd_ITerm l0 x26_1).f0)), .lit (.int .i64 ((rd_ITerm l0 x26_1).f1)), .lit (.int .i64 ((rd_ITerm l0 x26_1).f2)), .lit (.int .i64 ((rd_ITerm l0 x26_1).f3))] _) u3
   have h7 := u3.vec h5 ap1
   refine Opl.nil (Evr.sr rfl (Opl.p1 (v := .ptr i1 0) (n := Opl.ldb (v := .lit (.int .i64 ((rd_ITerm l0 x26_1).f0))) h6 rfl T3 rfl rfl rfl rfl ?_)))
   obtain ⟨bt490, h_bt490, H⟩ := obs H
   refine Opl.call (impl_parts.ev h_bt490) rfl rfl rfl rfl ⟨(.lit _), trivial⟩ (by decide) ?_
   rintro _ ⟨_, _, _, rfl, rfl, rfl, rfl⟩
   refine Opl.p1 (n := Opl.p1 (v := .lit (.int .i64 bt490.1)) (n := Opl.p1 (v := .lit (.int .i64 bt490.2.1)) (n := Opl.p1 (v := .lit (.int .i64 bt490.2.2)) (n := Opl.p1 (n := Opl.p1 (n := Opl.p1 (n := Opl.nil (Evr.sr rfl (Opl.p1 (v := .ptr i1 0) (n := Opl.ldb (v := .lit (.int .i64 ((rd_ITerm l0 x26_1).f0))) h6 rfl T3 rfl rfl rfl rfl ?_))))))))))
   obtain ⟨t493, h_t493, H⟩ := obs H
   refine Opl.callc (impl_in.ev h_t493) rfl rfl rfl rfl ⟨(.lit _), (.lit _), (.lit _), trivial⟩ (by decide) (Opl.p1 (n := Opl.nil (Evr.seq (Evr.block (Evr.sr rfl (Opl.p1 (v := .ptr i1 0) (n := Opl.ldb (v := .lit (.int .i64 ((rd_ITerm l0 x26_1).f0))) h6 rfl T3 rfl rfl rfl rfl (Opl.p1 (n := Opl.p1 (n := Opl.nil ?_))))))))))
   refine Evr.join (fun tm S => ∃ (kq2 : Nat) (x11_1 : Bool) (pv5 : PV), impl_kindsOf.j2 kq2 a1 x5_1 bt490.2.2 x11_1 l0 (l0.length : Int) x26_1 = some r ∧ kq2 ≤ n1 ∧ Has tm [(1, .lit (.int .i64 a1)), (5, pv5), (10, .lit (.int .i64 bt490.2.2)), (11, .lit (.bool x11_1)), (24, v0), (25, .lit (.int .i64 (l0.length : Int))), (26, .lit (.int .i64 x26_1))] ∧ Vec (cInt .i64) x5_1 pv5 S) ?_ fun hk2 => ?_
   ·
    rintro tm S ⟨kq2, x11_1, pv5, H, hle, hh, h9⟩
    rw [hh.eq]
    refine Evr.inBlock (Evr.seq (Evr.sr rfl (Opl.p1 (n := Opl.p1 (n := Opl.nil ?_)))))
    obtain _ | k2 := kq2
    · simp [impl_kindsOf.j2] at H
    simp only [impl_kindsOf.j2] at H
    by_cases c7 : x11_1 = true
    case neg =>
     rw [if_neg c7] at H
     have e3 : (!x11_1) = true := by simpa using c7
     try rw [e3]
     refine Evr.condT rfl (Evr.sr rfl (Opl.p1 (n := Opl.nil ?_)))
     obtain rfl := sinj H
     refine Evr.ret1 Try.func166 rfl ?_
     show Vec _ _ (.lit (.slice none 0 0)) _ ∧ _
     exact ⟨.nil, by intro e; first | rfl | (have := congrArg List.length e; simp only [List.length_nil] at this; omega)⟩
    rw [if_pos c7] at H
    have e2 : (!x11_1) = false := by simpa using c7
    try rw [e2]
    refine Evr.condF rfl (Evr.skip (Evr.regionN rfl (Opl.p1 (n := Opl.p1 (n := Opl.lits (M := (cInt .i64)) (ys := [bt490.2.2]) [.tmp 128] K27 T3 rfl rfl rfl (by exact ⟨rfl, trivial⟩) rfl (by decide) rfl rfl rfl ?_)))))
    rintro pv6 S h10 u4 w4
    have ap2 := w4.vec h9
    have h11 := u4.vec h9 ap2
    obtain ⟨c8, H⟩ := peel H
    refine Opl.app (M := (cInt .i64)) (xs := x5_1) (ys := [bt490.2.2]) (v := pv5) h11 (.vec h10) (oInt .i64) rfl rfl K27 T3 rfl rfl (by (try simp only [List.length_cons, List.length_nil]); omega) (by show (_ + _) * 8 ≤ 140737488355328; (try simp only [List.length_cons, List.length_nil]); omega) rfl rfl rfl rfl rfl ?_
    rintro pv7 S h12 u5 w5
    have ap3 := w5.vec h10
    have h13 := u5.vec h10 ap2.symm
    refine Opl.p1 (n := Opl.nil (Evr.inBlock (Evr.regionN rfl (Opl.add (k := .i64) (a := x26_1) (b := 1) K3 rfl rfl rfl rfl (Opl.one (v := .lit (.int .i64 (wrap64 (x26_1 + 1)))) rfl rfl rfl (Opl.nil ?_))))))
    exact ih1 _ (by omega) _ _ ⟨by omega, _, _, _, H, ⟨rfl, rfl, rfl, rfl, rfl, trivial⟩, h12⟩
   ·
    by_cases c9 : ((rd_ITerm l0 x26_1).f0) = 0
    case pos =>
     rw [if_pos c9] at H
     have e4 : (((rd_ITerm l0 x26_1).f0) == 0) = true := by simpa using c9
     try rw [e4]
     refine Evr.condT rfl ?_
     refine Evr.join (fun tm S => ∃ (kq3 : Nat) (x11_2 : Bool) (pv8 : PV), impl_kindsOf.j2 kq3 a1 x5_1 bt490.2.2 x11_2 l0 (l0.length : Int) x26_1 = some r ∧ kq3 ≤ n1 ∧ Has tm [(1, .lit (.int .i64 a1)), (5, pv8), (10, .lit (.int .i64 bt490.2.2)), (11, .lit (.bool x11_2)), (24, v0), (25, .lit (.int .i64 (l0.length : Int))), (26, .lit (.int .i64 x26_1))] ∧ Vec (cInt .i64) x5_1 pv8 S) ?_ fun hk3 => ?_
     ·
      rintro tm S ⟨kq3, x11_2, pv8, H, hle, hh, h14⟩
      rw [hh.eq]
      exact hk2 _ _ ⟨_, _, _, H, by omega, ⟨rfl, rfl, rfl, (by first | rfl | (show PV.lit (.bool _) = _; congr 2; simp_all)), rfl, rfl, rfl, trivial⟩, h14⟩
     ·
      refine Evr.regionN rfl (Opl.p1 (v := .ptr i1 1) (n := Opl.ldb (v := .lit (.int .i64 ((rd_ITerm l0 x26_1).f1))) h6 rfl T3 rfl rfl rfl rfl ?_))
      obtain ⟨t494, h_t494, H⟩ := obs H
      refine Opl.callc (impl_in.ev h_t494) rfl rfl rfl rfl ⟨(.lit _), (.lit _), (.lit _), trivial⟩ (by decide) (Opl.p1 (n := ?_))
      by_cases c10 : t494 = true
      case neg =>
       rw [if_neg c10] at H
       obtain rfl : t494 = false := by simpa using c10
       refine Opl.sk2 rfl rfl (Opl.skp rfl (Opl.p1 (n := Opl.p1 (n := Opl.sk2 rfl rfl (Opl.skp rfl (Opl.p1 (n := Opl.p1 (n := Opl.nil ?_))))))))
       exact hk3 _ _ ⟨_, _, _, H, by omega, ⟨rfl, rfl, rfl, (by first | rfl | (show PV.lit (.bool _) = _; congr 2; simp_all)), rfl, rfl, rfl, trivial⟩, h7⟩
      rw [if_pos c10] at H
      obtain rfl : t494 = true := by simpa using c10
      refine Opl.p1 (v := .ptr i1 2) (n := Opl.ldb (v := .lit (.int .i64 ((rd_ITerm l0 x26_1).f2))) h6 rfl T3 rfl rfl rfl rfl (Opl.p1 (n := Opl.p1 (n := Opl.p1 (n := ?_)))))
      by_cases c11 : ((rd_ITerm l0 x26_1).f2) = 0
      case neg =>
       rw [if_neg c11] at H
       have e6 : (((rd_ITerm l0 x26_1).f2) == 0) = false := by simpa using c11
       try rw [e6]
       refine Opl.sk2 rfl rfl (Opl.skp rfl (Opl.p1 (n := Opl.p1 (n := Opl.nil ?_))))
       exact hk3 _ _ ⟨_, _, _, H, by omega, ⟨rfl, rfl, rfl, (by first | rfl | (show PV.lit (.bool _) = _; congr 2; simp_all)), rfl, rfl, rfl, trivial⟩, h7⟩
      rw [if_pos c11] at H
      have e5 : (((rd_ITerm l0 x26_1).f2) == 0) = true := by simpa using c11
      try rw [e5]
      refine Opl.p1 (v := .ptr i1 3) (n := Opl.ldb (v := .lit (.int .i64 ((rd_ITerm l0 x26_1).f3))) h6 rfl T3 rfl rfl rfl rfl (Opl.p1 (n := Opl.p1 (n := Opl.p1 (n := Opl.nil ?_)))))
      exact hk3 _ _ ⟨_, _, _, H, by omega, ⟨rfl, rfl, rfl, (by first | rfl | (show PV.lit (.bool _) = _; congr 2; simp_all)), rfl, rfl, rfl, trivial⟩, h7⟩
    rw [if_neg c9] at H
    have e7 : (((rd_ITerm l0 x26_1).f0) == 0) = false := by simpa using c9
    try rw [e7]
    refine Evr.condF rfl (Evr.sr rfl (Opl.p1 (v := .ptr i1 0) (n := Opl.ldb (v := .lit (.int .i64 ((rd_ITerm l0 x26_1).f0))) h6 rfl T3 rfl rfl rfl rfl (Opl.p1 (n := Opl.p1 (n := Opl.nil ?_))))))
    refine Evr.join (fun tm S => ∃ (kq4 : Nat) (x11_3 : Bool) (pv9 : PV), impl_kindsOf.j2 kq4 a1 x5_1 bt490.2.2 x11_3 l0 (l0.length : Int) x26_1 = some r ∧ kq4 ≤ n1 ∧ Has tm [(1, .lit (.int .i64 a1)), (5, pv9), (10, .lit (.int .i64 bt490.2.2)), (11, .lit (.bool x11_3)), (24, v0), (25, .lit (.int .i64 (l0.length : Int))), (26, .lit (.int .i64 x26_1))] ∧ Vec (cInt .i64) x5_1 pv9 S) ?_ fun hk4 => ?_
    ·
     rintro tm S ⟨kq4, x11_3, pv9, H, hle, hh, h15⟩
     rw [hh.eq]
     exact hk2 _ _ ⟨_, _, _, H, by omega, ⟨rfl, rfl, rfl, (by first | rfl | (show PV.lit (.bool _) = _; congr 2; simp_all)), rfl, rfl, rfl, trivial⟩, h15⟩
    ·
     by_cases c12 : ((rd_ITerm l0 x26_1).f0) = 1
     case pos =>
      rw [if_pos c12] at H
      have e8 : (((rd_ITerm l0 x26_1).f0) == 1) = true := by simpa using c12
      try rw [e8]
      refine Evr.condT rfl ?_
      refine Evr.join (fun tm S => ∃ (kq5 : Nat) (x11_4 : Bool) (pv10 : PV), impl_kindsOf.j2 kq5 a1 x5_1 bt490.2.2 x11_4 l0 (l0.length : Int) x26_1 = some r ∧ kq5 ≤ n1 ∧ Has tm [(1, .lit (.int .i64 a1)), (5, pv10), (10, .lit (.int .i64 bt490.2.2)), (11, .lit (.bool x11_4)), (24, v0), (25, .lit (.int .i64 (l0.length : Int))), (26, .lit (.int .i64 x26_1))] ∧ Vec (cInt .i64) x5_1 pv10 S) ?_ fun hk5 => ?_
      ·
       rintro tm S ⟨kq5, x11_4, pv10, H, hle, hh, h16⟩
       rw [hh.eq]
       exact hk4 _ _ ⟨_, _, _, H, by omega, ⟨rfl, rfl, rfl, (by first | rfl | (show PV.lit (.bool _) = _; congr 2; simp_all)), rfl, rfl, rfl, trivial⟩, h16⟩
      ·
       refine Evr.regionN rfl (Opl.p1 (v := .ptr i1 1) (n := Opl.ldb (v := .lit (.int .i64 ((rd_ITerm l0 x26_1).f1))) h6 rfl T3 rfl rfl rfl rfl (Opl.p1 (n := Opl.subi (k := .i64) (a := a1) (b := 1) K3 rfl rfl rfl rfl ?_))))
       obtain ⟨t495, h_t495, H⟩ := obs H
       refine Opl.callc (impl_in.ev h_t495) rfl rfl rfl rfl ⟨(.lit _), (.lit _), (.lit _), trivial⟩ (by decide) (Opl.one (v := .lit (.bool t495)) rfl rfl rfl ?_)
       by_cases c13 : t495 = true
       case neg =>
        rw [if_neg c13] at H
        obtain rfl : t495 = false := by simpa using c13
        refine Opl.sk2 rfl rfl (Opl.skp rfl (Opl.p1 (n := Opl.one (v := .lit (.bool false)) rfl rfl rfl (Opl.sk2 rfl rfl (Opl.skp rfl (Opl.p1 (n := Opl.one (v := .lit (.bool false)) rfl rfl rfl (Opl.nil ?_))))))))
        exact hk5 _ _ ⟨_, _, _, H, by omega, ⟨rfl, rfl, rfl, (by first | rfl | (show PV.lit (.bool _) = _; congr 2; simp_all)), rfl, rfl, rfl, trivial⟩, h7⟩
       rw [if_pos c13] at H
       obtain rfl : t495 = true := by simpa using c13
       refine Opl.p1 (v := .ptr i1 2) (n := Opl.ldb (v := .lit (.int .i64 ((rd_ITerm l0 x26_1).f2))) h6 rfl T3 rfl rfl rfl rfl (Opl.p1 (n := Opl.p1 (n := Opl.one (v := .lit (.bool (((rd_ITerm l0 x26_1).f2) == 0))) rfl rfl rfl ?_))))
       by_cases c14 : ((rd_ITerm l0 x26_1).f2) = 0
       case neg =>
        rw [if_neg c14] at H
        have e10 : (((rd_ITerm l0 x26_1).f2) == 0) = false := by simpa using c14
        try rw [e10]
        refine Opl.sk2 rfl rfl (Opl.skp rfl (Opl.p1 (n := Opl.one (v := .lit (.bool false)) rfl rfl rfl (Opl.nil ?_))))
        exact hk5 _ _ ⟨_, _, _, H, by omega, ⟨rfl, rfl, rfl, (by first | rfl | (show PV.lit (.bool _) = _; congr 2; simp_all)), rfl, rfl, rfl, trivial⟩, h7⟩
       rw [if_pos c14] at H
       have e9 : (((rd_ITerm l0 x26_1).f2) == 0) = true := by simpa using c14
       try rw [e9]
       refine Opl.p1 (v := .ptr i1 3) (n := Opl.ldb (v := .lit (.int .i64 ((rd_ITerm l0 x26_1).f3))) h6 rfl T3 rfl rfl rfl rfl (Opl.p1 (n := Opl.p1 (n := Opl.one (v := .lit (.bool (((rd_ITerm l0 x26_1).f3) == 0))) rfl rfl rfl (Opl.nil ?_)))))
       exact hk5 _ _ ⟨_, _, _, H, by omega, ⟨rfl, rfl, rfl, (by first | rfl | (show PV.lit (.bool _) = _; congr 2; simp_all)), rfl, rfl, rfl, trivial⟩, h7⟩
     rw [if_neg c12] at H
     have e11 : (((rd_ITerm l0 x26_1).f0) == 1) = false := by simpa using c12
     try rw [e11]
     refine Evr.condF rfl (Evr.sr rfl (Opl.p1 (n := Opl.p1 (n := Opl.nil ?_))))
     refine Evr.join (fun tm S => ∃ (kq6 : Nat) (x11_5 : Bool) (pv11 : PV), impl_kindsOf.j2 kq6 a1 x5_1 bt490.2.2 x11_5 l0 (l0.length : Int) x26_1 = some r ∧ kq6 ≤ n1 ∧ Has tm [(1, .lit (.int .i64 a1)), (5, pv11), (10, .lit (.int .i64 bt490.2.2)), (11, .lit (.bool x11_5)), (24, v0), (25, .lit (.int .i64 (l0.length : Int))), (26, .lit (.int .i64 x26_1))] ∧ Vec (cInt .i64) x5_1 pv11 S) ?_ fun hk6 => ?_
     ·
      rintro tm S ⟨kq6, x11_5, pv11, H, hle, hh, h17⟩
      rw [hh.eq]
      exact hk4 _ _ ⟨_, _, _, H, by omega, ⟨rfl, rfl, rfl, (by first | rfl | (show PV.lit (.bool _) = _; congr 2; simp_all)), rfl, rfl, rfl, trivial⟩, h17⟩
     ·
      by_cases c15 : t493 = true
      case neg =>
       rw [if_neg c15] at H
       obtain rfl : t493 = false := by simpa using c15
       refine Evr.condF rfl (Evr.skip ?_)
       exact hk6 _ _ ⟨_, _, _, H, by omega, ⟨rfl, rfl, rfl, (by first | rfl | (show PV.lit (.bool _) = _; congr 2; simp_all)), rfl, rfl, rfl, trivial⟩, h7⟩
      rw [if_pos c15] at H
      obtain rfl : t493 = true := by simpa using c15
      refine Evr.condT rfl ?_
      refine Evr.join (fun tm S => ∃ (kq7 : Nat) (x11_6 : Bool) (pv12 : PV), impl_kindsOf.j2 kq7 a1 x5_1 bt490.2.2 x11_6 l0 (l0.length : Int) x26_1 = some r ∧ kq7 ≤ n1 ∧ Has tm [(1, .lit (.int .i64 a1)), (5, pv12), (10, .lit (.int .i64 bt490.2.2)), (11, .lit (.bool x11_6)), (24, v0), (25, .lit (.int .i64 (l0.length : Int))), (26, .lit (.int .i64 x26_1))] ∧ Vec (cInt .i64) x5_1 pv12 S) ?_ fun hk7 => ?_
      ·
       rintro tm S ⟨kq7, x11_6, pv12, H, hle, hh, h18⟩
       rw [hh.eq]
       exact hk6 _ _ ⟨_, _, _, H, by omega, ⟨rfl, rfl, rfl, (by first | rfl | (show PV.lit (.bool _) = _; congr 2; simp_all)), rfl, rfl, rfl, trivial⟩, h18⟩
      ·
       refine Evr.regionN rfl (Opl.p1 (v := .ptr i1 1) (n := Opl.ldb (v := .lit (.int .i64 ((rd_ITerm l0 x26_1).f1))) h6 rfl T3 rfl rfl rfl rfl (Opl.p1 (n := Opl.p1 (n := ?_)))))
       by_cases c16 : ((rd_ITerm l0 x26_1).f1) = 0
       case neg =>
        rw [if_neg c16] at H
        have e19 : (((rd_ITerm l0 x26_1).f1) == 0) = false := by simpa using c16
        try rw [e19]
        refine Opl.sk4 rfl rfl rfl rfl (Opl.skp rfl (Opl.p1 (n := Opl.p1 (n := Opl.sk4 rfl rfl rfl rfl (Opl.skp rfl (Opl.p1 (n := Opl.p1 (n := Opl.sk4 rfl rfl rfl rfl (Opl.sk2 rfl rfl (Opl.skp rfl (Opl.p1 (n := Opl.p1 (n := Opl.sk4 rfl rfl rfl rfl (Opl.sk2 rfl rfl (Opl.skp rfl (Opl.p1 (n := Opl.p1 (n := Opl.sk8 rfl rfl rfl rfl rfl rfl rfl rfl (Opl.skp rfl (Opl.p1 (n := Opl.p1 (n := Opl.nil ?_))))))))))))))))))))))
        exact hk7 _ _ ⟨_, _, _, H, by omega, ⟨rfl, rfl, rfl, (by first | rfl | (show PV.lit (.bool _) = _; congr 2; simp_all)), rfl, rfl, rfl, trivial⟩, h7⟩
       rw [if_pos c16] at H
       have e12 : (((rd_ITerm l0 x26_1).f1) == 0) = true := by simpa using c16
       try rw [e12]
       refine Opl.p1 (v := .ptr i1 2) (n := Opl.ldb (v := .lit (.int .i64 ((rd_ITerm l0 x26_1).f2))) h6 rfl T3 rfl rfl rfl rfl (Opl.p1 (n := Opl.subi (k := .i64) (a := x26_1) (b := 1) K3 rfl rfl rfl rfl ?_)))
       obtain ⟨t496, h_t496, H⟩ := obs H
       refine Opl.callc (impl_in.ev h_t496) rfl rfl rfl rfl ⟨(.lit _), (.lit _), (.lit _), trivial⟩ (by decide) (Opl.p1 (n := Opl.one (v := .lit (.bool t496)) rfl rfl rfl ?_))
       by_cases c17 : t496 = true
       case neg =>
        rw [if_neg c17] at H
        obtain rfl : t496 = false := by simpa using c17
        refine Opl.sk4 rfl rfl rfl rfl (Opl.skp rfl (Opl.p1 (n := Opl.one (v := .lit (.bool false)) rfl rfl rfl (Opl.sk4 rfl rfl rfl rfl (Opl.sk2 rfl rfl (Opl.skp rfl (Opl.p1 (n := Opl.one (v := .lit (.bool false)) rfl rfl rfl (Opl.sk4 rfl rfl rfl rfl (Opl.sk2 rfl rfl (Opl.skp rfl (Opl.p1 (n := Opl.one (v := .lit (.bool false)) rfl rfl rfl (Opl.sk8 rfl rfl rfl rfl rfl rfl rfl rfl (Opl.skp rfl (Opl.p1 (n := Opl.one (v := .lit (.bool false)) rfl rfl rfl (Opl.nil ?_))))))))))))))))))
        exact hk7 _ _ ⟨_, _, _, H, by omega, ⟨rfl, rfl, rfl, (by first | rfl | (show PV.lit (.bool _) = _; congr 2; simp_all)), rfl, rfl, rfl, trivial⟩, h7⟩
       rw [if_pos c17] at H
       obtain rfl : t496 = true := by simpa using c17
       refine Opl.p1 (v := .ptr i1 3) (n := Opl.ldb (v := .lit (.int .i64 ((rd_ITerm l0 x26_1).f3))) h6 rfl T3 rfl rfl rfl rfl (Opl.one (v := .lit (.int .i64 x26_1)) rfl rfl rfl (Opl.subi (k := .i64) (a := x26_1) (b := 1) K3 rfl rfl rfl rfl ?_)))
       obtain ⟨t497, h_t497, H⟩ := obs H
       refine Opl.callc (impl_in.ev h_t497) rfl rfl rfl rfl ⟨(.lit _), (.lit _), (.lit _), trivial⟩ (by decide) (Opl.p1 (n := Opl.one (v := .lit (.bool t497)) rfl rfl rfl ?_))
       by_cases c18 : t497 = true
       case neg =>
        rw [if_neg c18] at H
        obtain rfl : t497 = false := by simpa using c18
        refine Opl.sk4 rfl rfl rfl rfl (Opl.sk2 rfl rfl (Opl.skp rfl (Opl.p1 (n := Opl.one (v := .lit (.bool false)) rfl rfl rfl (Opl.sk4 rfl rfl rfl rfl (Opl.sk2 rfl rfl (Opl.skp rfl (Opl.p1 (n := Opl.one (v := .lit (.bool false)) rfl rfl rfl (Opl.sk8 rfl rfl rfl rfl rfl rfl rfl rfl (Opl.skp rfl (Opl.p1 (n := Opl.one (v := .lit (.bool false)) rfl rfl rfl (Opl.nil ?_))))))))))))))
        exact hk7 _ _ ⟨_, _, _, H, by omega, ⟨rfl, rfl, rfl, (by first | rfl | (show PV.lit (.bool _) = _; congr 2; simp_all)), rfl, rfl, rfl, trivial⟩, h7⟩
       rw [if_pos c18] at H
       obtain rfl : t497 = true := by simpa using c18
       refine Opl.one (v := pv3) rfl rfl rfl (Opl.p1 (v := .ptr i1 2) (n := Opl.ldb (v := .lit (.int .i64 ((rd_ITerm l0 x26_1).f2))) h6 rfl T3 rfl rfl rfl rfl ?_))
       obtain ⟨c19, H⟩ := peel H
       obtain ⟨c20, H⟩ := peel H
       refine Opl.idv (M := (cInt .i64)) (xs := x5_1) (j := ((rd_ITerm l0 x26_1).f2)) (v := pv3) h7 rfl rfl (by omega) (by omega) K27 Z3 rfl rfl ?_
       rintro d1 z1 q2 h19 h20
       refine Opl.ldv (M := (cInt .i64)) (xs := x5_1) (j := ((rd_ITerm l0 x26_1).f2)) (0 : Int) h19 h20 (by omega) (by omega) rfl T3 rfl rfl rfl ?_
       rintro p2 q3 h21
       obtain rfl : p2 = [.lit (.int .i64 (rd x5_1 ((rd_ITerm l0 x26_1).f2)))] := h21
       refine ⟨.lit (.int .i64 (rd x5_1 ((rd_ITerm l0 x26_1).f2))), rfl, ?_⟩
       refine Opl.one (v := .lit (.int .i64 bt490.2.1)) rfl rfl rfl (Opl.p1 (n := Opl.p1 (n := Opl.one (v := .lit (.bool ((rd x5_1 ((rd_ITerm l0 x26_1).f2)) == bt490.2.1))) rfl rfl rfl ?_)))
       by_cases c21 : (rd x5_1 ((rd_ITerm l0 x26_1).f2)) = bt490.2.1
       case neg =>
        rw [if_neg c21] at H
        have e18 : ((rd x5_1 ((rd_ITerm l0 x26_1).f2)) == bt490.2.1) = false := by simpa using c21
        try rw [e18]
        refine Opl.sk4 rfl rfl rfl rfl (Opl.sk2 rfl rfl (Opl.skp rfl (Opl.p1 (n := Opl.one (v := .lit (.bool false)) rfl rfl rfl (Opl.sk8 rfl rfl rfl rfl rfl rfl rfl rfl (Opl.skp rfl (Opl.p1 (n := Opl.one (v := .lit (.bool false)) rfl rfl rfl (Opl.nil ?_)))))))))
        exact hk7 _ _ ⟨_, _, _, H, by omega, ⟨rfl, rfl, rfl, (by first | rfl | (show PV.lit (.bool _) = _; congr 2; simp_all)), rfl, rfl, rfl, trivial⟩, h7⟩
       rw [if_pos c21] at H
       have e13 : ((rd x5_1 ((rd_ITerm l0 x26_1).f2)) == bt490.2.1) = true := by simpa using c21
       try rw [e13]
       refine Opl.one (v := pv3) rfl rfl rfl (Opl.p1 (v := .ptr i1 3) (n := Opl.ldb (v := .lit (.int .i64 ((rd_ITerm l0 x26_1).f3))) h6 rfl T3 rfl rfl rfl rfl ?_))
       obtain ⟨c22, H⟩ := peel H
       obtain ⟨c23, H⟩ := peel H
       refine Opl.idv (M := (cInt .i64)) (xs := x5_1) (j := ((rd_ITerm l0 x26_1).f3)) (v := pv3) h7 rfl rfl (by omega) (by omega) K27 Z3 rfl rfl ?_
       rintro d2 z2 q4 h22 h23
       refine Opl.ldv (M := (cInt .i64)) (xs := x5_1) (j := ((rd_ITerm l0 x26_1).f3)) (0 : Int) h22 h23 (by omega) (by omega) rfl T3 rfl rfl rfl ?_
       rintro p3 q5 h24
       obtain rfl : p3 = [.lit (.int .i64 (rd x5_1 ((rd_ITerm l0 x26_1).f3)))] := h24
       refine ⟨.lit (.int .i64 (rd x5_1 ((rd_ITerm l0 x26_1).f3))), rfl, ?_⟩
       refine Opl.one (v := .lit (.int .i64 bt490.2.1)) rfl rfl rfl (Opl.p1 (n := Opl.p1 (n := Opl.one (v := .lit (.bool ((rd x5_1 ((rd_ITerm l0 x26_1).f3)) == bt490.2.1))) rfl rfl rfl ?_)))
       by_cases c24 : (rd x5_1 ((rd_ITerm l0 x26_1).f3)) = bt490.2.1
       case neg =>
        rw [if_neg c24] at H
        have e17 : ((rd x5_1 ((rd_ITerm l0 x26_1).f3)) == bt490.2.1) = false := by simpa using c24
        try rw [e17]
        refine Opl.sk8 rfl rfl rfl rfl rfl rfl rfl rfl (Opl.skp rfl (Opl.p1 (n := Opl.one (v := .lit (.bool false)) rfl rfl rfl (Opl.nil ?_))))
        exact hk7 _ _ ⟨_, _, _, H, by omega, ⟨rfl, rfl, rfl, (by first | rfl | (show PV.lit (.bool _) = _; congr 2; simp_all)), rfl, rfl, rfl, trivial⟩, h7⟩
       rw [if_pos c24] at H
       have e14 : ((rd x5_1 ((rd_ITerm l0 x26_1).f3)) == bt490.2.1) = true := by simpa using c24
       try rw [e14]
       refine Opl.one (v := .lit (.int .i64 bt490.1)) rfl rfl rfl (Opl.p1 (n := Opl.one (v := .lit (.bool (bt490.1 == 2))) rfl rfl rfl ?_))
       by_cases c25 : bt490.1 = 2
       case pos =>
        rw [if_pos c25] at H
        have e15 : (bt490.1 == 2) = true := by simpa using c25
        try rw [e15]
        refine Opl.sk4 rfl rfl rfl rfl (Opl.skp rfl (Opl.p1 (n := Opl.p1 (n := Opl.one (v := .lit (.bool true)) rfl rfl rfl (Opl.nil ?_)))))
        exact hk7 _ _ ⟨_, _, _, H, by omega, ⟨rfl, rfl, rfl, (by first | rfl | (show PV.lit (.bool _) = _; congr 2; simp_all)), rfl, rfl, rfl, trivial⟩, h7⟩
       rw [if_neg c25] at H
       have e16 : (bt490.1 == 2) = false := by simpa using c25
       try rw [e16]
       refine Opl.p1 (v := .ptr i1 2) (n := Opl.ldb (v := .lit (.int .i64 ((rd_ITerm l0 x26_1).f2))) h6 rfl T3 rfl rfl rfl rfl (Opl.p1 (v := .ptr i1 3) (n := Opl.ldb (v := .lit (.int .i64 ((rd_ITerm l0 x26_1).f3))) h6 rfl T3 rfl rfl rfl rfl (Opl.p1 (n := Opl.p1 (n := Opl.p1 (n := Opl.one (v := .lit (.bool (((rd_ITerm l0 x26_1).f2) == ((rd_ITerm l0 x26_1).f3)))) rfl rfl rfl (Opl.nil ?_))))))))
       exact hk7 _ _ ⟨_, _, _, H, by omega, ⟨rfl, rfl, rfl, (by first | rfl | (show PV.lit (.bool _) = _; congr 2; simp_all)), rfl, rfl, rfl, trivial⟩, h7⟩
 ·
  refine Evr.regionN rfl (Opl.p1 (n := ?_))
  obtain ⟨t483, h_t483, H⟩ := obs H
  refine Opl.callc (impl_in.ev h_t483) rfl rfl rfl rfl ⟨(.lit _), (.lit _), (.lit _), trivial⟩ (by decide) (Opl.p1 (n := Opl.p1 (n := ?_)))
  by_cases c27 : t483 = true
  case neg =>
   rw [if_neg c27] at H
   have e22 : (!t483) = true := by simpa using c27
   try rw [e22]
   refine Opl.sk4 rfl rfl rfl rfl (Opl.p1 (n := Opl.nil ?_))
   exact hk1 _ _ ⟨_, _, H, ⟨rfl, rfl, (by first | rfl | (show PV.lit (.bool _) = _; congr 2; simp_all)), trivial⟩⟩
  rw [if_pos c27] at H
  have e21 : (!t483) = false := by simpa using c27
  try rw [e21]
  refine Opl.p1 (n := Opl.len (xs := l0) (by exact hv0) K66 rfl rfl rfl rfl ?_)
  obtain ⟨t484, h_t484, H⟩ := obs H
  refine Opl.callc (impl_in.ev h_t484) rfl rfl rfl rfl ⟨(.lit _), (.lit _), (.lit _), trivial⟩ (by decide) (Opl.p1 (n := Opl.p1 (n := Opl.nil ?_)))
  exact hk1 _ _ ⟨_, _, H, ⟨rfl, rfl, (by first | rfl | (show PV.lit (.bool _) = _; congr 2; simp_all)), trivial⟩⟩
theorem impl_kindOf.ev {k : Nat} {l0 : List ITerm} {v0 : PV} (hv0 : Sl cITerm l0 v0) {a1 : Int} {r : Int} (H : impl_kindOf.f k l0 a1 = some r) : Ret Try.prog 150 [v0, .lit (.int .i64 a1)] fun v S => v = .lit (.int .i64 r) := by
 unfold impl_kindOf.f at H
 refine Ret.intro Try.func150 rfl (Nat.le_of_ble_eq_true rfl) rfl ?_
 rw [tm2]
 refine Evr.sr rfl (Opl.p1 (n := Opl.nil (Evr.sr rfl (Opl.p1 (n := Opl.p1 (n := ?_))))))
 obtain ⟨t, h_t, H⟩ := obs H
 refine Opl.call ((impl_kindsOf.ev hv0 h_t).mono fun _ _ h => Out.vecn h) rfl rfl rfl rfl ⟨hv0.plain, (.lit _), trivial⟩ (by decide) ?_
 rintro pv1 ⟨h1, h2⟩
 refine Opl.p1 (n := Opl.nil (Evr.seq (Evr.sr rfl (Opl.p1 (n := ?_)))))
 by_cases c1 : t = []
 case pos =>
  rw [if_pos c1] at H
  refine Opl.eqnil (by exact h2 c1) K27 rfl rfl (Opl.nil (Evr.condT rfl (Evr.sr rfl (Opl.p1 (n := Opl.nil ?_)))))
  obtain rfl := sinj H
  refine Evr.ret1 Try.func150 rfl ?_
  show (.lit (.int .i64 0) : PV) = _
  first | rfl | (simp only [go_sem]; rfl)
 rw [if_neg c1] at H
 refine Opl.eqsome (by exact h1) c1 K27 rfl rfl (Opl.nil (Evr.condF rfl (Evr.skip (Evr.sr rfl (Opl.p1 (n := Opl.p1 (n := Opl.len (xs := t) (by exact h1) K27 rfl rfl rfl rfl (Opl.subi (k := .i64) (a := (t.length : Int)) (b := 1) K3 rfl rfl rfl rfl ?_))))))))
 obtain ⟨c2, H⟩ := peel H
 obtain ⟨c3, H⟩ := peel H
 refine Opl.idx (M := (cInt .i64)) (xs := t) (j := (wrap64 ((t.length : Int) - 1))) (0 : Int) (by exact h1) rfl (by omega) (by omega) K27 Z3 rfl rfl ?_
 rintro p1 q1 h3
 obtain rfl : p1 = [.lit (.int .i64 (rd t (wrap64 ((t.length : Int) - 1))))] := h3
 refine Opl.lda (.lit (.int .i64 (rd t (wrap64 ((t.length : Int) - 1))))) rfl T3 rfl rfl rfl rfl (Opl.one (v := .lit (.int .i64 (rd t (wrap64 ((t.length : Int) - 1))))) rfl rfl rfl (Opl.nil ?_))
 obtain rfl := sinj H
 refine Evr.ret1 Try.func150 rfl ?_
 show (.lit (.int .i64 (rd t (wrap64 ((t.length : Int) - 1)))) : PV) = _
 first | rfl | (simp only [go_sem]; rfl)
theorem impl_ruleOk.ev {k : Nat} {l0_0 : List ITerm} {v0_0 : PV} (hv0_0 : Sl cITerm l0_0 v0_0) {l0_1 : List Int} {v0_1 : PV} (hv0_1 : Sl (cInt .i64) l0_1 v0_1) {l0_2 : List (List ITerm)} {v0_2 : PV} (hv0_2 : Sl (cSl cITerm) l0_2 v0_2) {a1 : Int} {r : Bool} (H : impl_ruleOk.f k l0_0 l0_1 l0_2 a1 = some r) : Ret Try.prog 93 [.agg [v0_0, v0_1, v0_2], .lit (.int .i64 a1)] fun v S => v = .lit (.bool r) := by
 unfold impl_ruleOk.f at H
 refine Ret.intro Try.func93 rfl (Nat.le_of_ble_eq_true rfl) rfl ?_
 rw [tm2]
 refine Evr.sr rfl (Opl.box (cs := [v0_0, v0_1, v0_2]) rfl rfl rfl rfl ?_)
 rintro i1 S h1 u1 w1
 refine Opl.p1 (n := Opl.nil (Evr.seq (Evr.seq ?_)))
 refine Evr.join (fun tm S => ∃ (kq1 : Nat) (x20_1 : Bool) (i2 : Abs.Id), impl_ruleOk.j0 kq1 a1 x20_1 l0_0 l0_1 l0_2 = some r ∧ Has tm [(1, .lit (.int .i64 a1)), (2, .ptr i2 0), (20, .lit (.bool x20_1))] ∧ Box (.ptr i2 0) [v0_0, v0_1, v0_2] S) ?_ fun hk1 => ?_
 ·
  rintro tm S ⟨kq1, x20_1, i2, H, hh, h2⟩
  rw [hh.eq]
  obtain _ | k1 := kq1
  · simp [impl_ruleOk.j0] at H
  simp only [impl_ruleOk.j0] at H
  by_cases c1 : x20_1 = true
  case pos =>
   rw [if_pos c1] at H
   obtain rfl : x20_1 = true := by simpa using c1
   refine Evr.condT rfl (Evr.sr rfl (Opl.p1 (n := Opl.nil ?_)))
   obtain rfl := sinj H
   refine Evr.ret1 Try.func93 rfl ?_
   show (.lit (.bool false) : PV) = _
   first | rfl | (simp only [go_sem]; rfl)
  rw [if_neg c1] at H
  obtain rfl : x20_1 = false := by simpa using c1
  refine Evr.condF rfl (Evr.skip (Evr.seq (Evr.sr rfl (Opl.p1 (v := .ptr i2 1) (n := Opl.ldb (v := v0_1) h2 rfl T27 rfl rfl rfl rfl (Opl.len (xs := l0_1) (by exact hv0_1) K27 rfl rfl rfl rfl (Opl.p1 (n := Opl.nil (Evr.block ?_)))))))))
  refine Evr.loop (Evr.rounds (n := k1) (Inv := fun n tm S => n ≤ k1 ∧ ∃ (x24_1 : Int) (i3 : Abs.Id), impl_ruleOk.l0 n a1 l0_1 (l0_1.length : Int) x24_1 l0_0 l0_1 l0_2 = some r ∧ Has tm [(1, .lit (.int .i64 a1)), (2, .ptr i3 0), (22, v0_1), (23, .lit (.int .i64 (l0_1.length : Int))), (24, .lit (.int .i64 x24_1))] ∧ Box (.ptr i3 0) [v0_0, v0_1, v0_2] S) ?_ ?_ ?_)
  · exact ⟨Nat.le_refl _, _, _, H, ⟨rfl, rfl, rfl, rfl, rfl, trivial⟩, h2⟩
  ·
   rintro tm S ⟨_, _, _, H, -⟩
   simp [impl_ruleOk.l0] at H
  ·
   rintro n1 ih1 tm S ⟨hle, x24_1, i3, H, hh, h3⟩
   simp only [impl_ruleOk.l0] at H
   rw [hh.eq]
   refine Evr.sr rfl (Opl.p1 (n := Opl.nil (Evr.seq ?_)))
   by_cases c2 : x24_1 < (l0_1.length : Int)
   case neg =>
    rw [if_neg c2] at H
    have e8 : (decide (x24_1 < (l0_1.length : Int))) = false := by simpa using c2
    try rw [e8]
    refine Evr.condF rfl (Evr.exit rfl (Evr.sr rfl (Opl.p1 (n := Opl.nil ?_))))
    obtain rfl := sinj H
    refine Evr.ret1 Try.func93 rfl ?_
    show (.lit (.bool true) : PV) = _
    first | rfl | (simp only [go_sem]; rfl)
   rw [if_pos c2] at H
   have e1 : (decide (x24_1 < (l0_1.length : Int))) = true := by simpa using c2
   try rw [e1]
   refine Evr.condT rfl (Evr.skip (Evr.seq (Evr.block (Evr.sr rfl (Opl.p1 (n := ?_))))))
   obtain ⟨c3, H⟩ := peel H
   obtain ⟨c4, H⟩ := peel H
   refine Opl.idx (M := (cInt .i64)) (xs := l0_1) (j := x24_1) (0 : Int) (by exact hv0_1) rfl (by omega) (by omega) K27 Z3 rfl rfl ?_
   rintro p1 q1 h4
   obtain rfl : p1 = [.lit (.int .i64 (rd l0_1 x24_1))] := h4
   refine Opl.lda (.lit (.int .i64 (rd l0_1 x24_1))) rfl T3 rfl rfl rfl rfl (Opl.p1 (n := Opl.p1 (n := Opl.nil (Evr.seq ?_))))
   refine Evr.join (fun tm S => ∃ (kq2 : Nat) (x57_1 : Bool) (i4 : Abs.Id), impl_ruleOk.j2 kq2 a1 l0_1 (l0_1.length : Int) x24_1 x57_1 l0_0 l0_1 l0_2 = some r ∧ kq2 ≤ n1 ∧ Has tm [(1, .lit (.int .i64 a1)), (2, .ptr i4 0), (22, v0_1), (23, .lit (.int .i64 (l0_1.length : Int))), (24, .lit (.int .i64 x24_1)), (57, .lit (.bool x57_1))] ∧ Box (.ptr i4 0) [v0_0, v0_1, v0_2] S) ?_ fun hk2 => ?_
   ·
    rintro tm S ⟨kq2, x57_1, i4, H, hle, hh, h5⟩
    rw [hh.eq]
    obtain _ | k2 := kq2
    · simp [impl_ruleOk.j2] at H
    simp only [impl_ruleOk.j2] at H
    by_cases c5 : x57_1 = true
    case pos =>
     rw [if_pos c5] at H
     obtain rfl : x57_1 = true := by simpa using c5
     refine Evr.condT rfl (Evr.sr rfl (Opl.p1 (n := Opl.nil ?_)))
     obtain rfl := sinj H
     refine Evr.ret1 Try.func93 rfl ?_
     show (.lit (.bool false) : PV) = _
     first | rfl | (simp only [go_sem]; rfl)
    rw [if_neg c5] at H
    obtain rfl : x57_1 = false := by simpa using c5
    refine Evr.condF rfl (Evr.skip (Evr.inBlock (Evr.regionN rfl (Opl.add (k := .i64) (a := x24_1) (b := 1) K3 rfl rfl rfl rfl (Opl.one (v := .lit (.int .i64 (wrap64 (x24_1 + 1)))) rfl rfl rfl (Opl.nil ?_))))))
    exact ih1 _ (by omega) _ _ ⟨by omega, _, _, H, ⟨rfl, rfl, rfl, rfl, rfl, trivial⟩, h5⟩
   ·
    refine Evr.regionN rfl (Opl.p1 (n := Opl.p1 (n := Opl.subi (k := .i64) (a := a1) (b := 1) K3 rfl rfl rfl rfl ?_)))
    obtain ⟨t506, h_t506, H⟩ := obs H
    refine Opl.callc (impl_in.ev h_t506) rfl rfl rfl rfl ⟨(.lit _), (.lit _), (.lit _), trivial⟩ (by decide) (Opl.p1 (n := Opl.one (v := .lit (.bool (!t506))) rfl rfl rfl ?_))
    by_cases c6 : t506 = true
    case neg =>
     rw [if_neg c6] at H
     have e7 : (!t506) = true := by simpa using c6
     try rw [e7]
     refine Opl.sk8 rfl rfl rfl rfl rfl rfl rfl rfl (Opl.sk4 rfl rfl rfl rfl (Opl.p1 (n := Opl.one (v := .lit (.bool true)) rfl rfl rfl (Opl.sk8 rfl rfl rfl rfl rfl rfl rfl rfl (Opl.p1 (n := Opl.nil ?_))))))
     exact hk2 _ _ ⟨_, _, _, H, by omega, ⟨rfl, rfl, rfl, rfl, rfl, (by first | rfl | (show PV.lit (.bool _) = _; congr 2; simp_all)), trivial⟩, h3⟩
    rw [if_pos c6] at H
    have e2 : (!t506) = false := by simpa using c6
    try rw [e2]
    refine Opl.one (v := .lit (.int .i64 x24_1)) rfl rfl rfl (Opl.p1 (n := Opl.one (v := .lit (.bool (decide (x24_1 > 0)))) rfl rfl rfl ?_))
    by_cases c7 : x24_1 > 0
    case neg =>
     rw [if_neg c7] at H
     have e6 : (decide (x24_1 > 0)) = false := by simpa using c7
     try rw [e6]
     refine Opl.sk8 rfl rfl rfl rfl rfl rfl rfl rfl (Opl.p1 (n := Opl.p1 (n := Opl.one (v := .lit (.bool false)) rfl rfl rfl (Opl.p1 (v := .ptr i3 2) (n := Opl.ldb (v := v0_2) h3 rfl T104 rfl rfl rfl rfl (Opl.one (v := .lit (.int .i64 x24_1)) rfl rfl rfl ?_))))))
     obtain ⟨c12, H⟩ := peel H
     refine Opl.idx (M := (cSl cITerm)) (xs := l0_2) (j := x24_1) ([] : List ITerm) (by exact hv0_2) rfl (by omega) (by omega) K104 Z66 rfl rfl ?_
     rintro p4 q4 h9
     obtain ⟨pv2, rfl, h10⟩ := h9
     refine Opl.lda (pv2) rfl T66 rfl rfl rfl rfl (Opl.one (v := .lit (.int .i64 a1)) rfl rfl rfl ?_)
     obtain ⟨t511, h_t511, H⟩ := obs H
     refine Opl.callc (impl_kindOf.ev h10 h_t511) rfl rfl rfl rfl ⟨h10.plain, (.lit _), trivial⟩ (by decide) (Opl.p1 (n := Opl.p1 (n := Opl.nil ?_)))
     exact hk2 _ _ ⟨_, _, _, H, by omega, ⟨rfl, rfl, rfl, rfl, rfl, (by first | rfl | (show PV.lit (.bool _) = _; congr 2; simp_all)), trivial⟩, h3⟩
    rw [if_pos c7] at H
    have e3 : (decide (x24_1 > 0)) = true := by simpa using c7
    try rw [e3]
    refine Opl.p1 (v := .ptr i3 1) (n := Opl.ldb (v := v0_1) h3 rfl T27 rfl rfl rfl rfl (Opl.one (v := .lit (.int .i64 x24_1)) rfl rfl rfl (Opl.subi (k := .i64) (a := x24_1) (b := 1) K3 rfl rfl rfl rfl ?_)))
    obtain ⟨c8, H⟩ := peel H
    obtain ⟨c9, H⟩ := peel H
    refine Opl.idx (M := (cInt .i64)) (xs := l0_1) (j := (wrap64 (x24_1 - 1))) (0 : Int) (by exact hv0_1) rfl (by omega) (by omega) K27 Z3 rfl rfl ?_
    rintro p2 q2 h6
    obtain rfl : p2 = [.lit (.int .i64 (rd l0_1 (wrap64 (x24_1 - 1))))] := h6
    refine Opl.lda (.lit (.int .i64 (rd l0_1 (wrap64 (x24_1 - 1))))) rfl T3 rfl rfl rfl rfl (Opl.one (v := .lit (.int .i64 (rd l0_1 x24_1))) rfl rfl rfl (Opl.geq (a := (rd l0_1 (wrap64 (x24_1 - 1)))) (b := (rd l0_1 x24_1)) K3 rfl rfl rfl rfl (Opl.p1 (n := Opl.p1 (n := Opl.one (v := .lit (.bool (decide ((rd l0_1 (wrap64 (x24_1 - 1))) ≥ (rd l0_1 x24_1))))) rfl rfl rfl ?_)))))
    by_cases c10 : (rd l0_1 (wrap64 (x24_1 - 1))) ≥ (rd l0_1 x24_1)
    case pos =>
     rw [if_pos c10] at H
     have e4 : (decide ((rd l0_1 (wrap64 (x24_1 - 1))) ≥ (rd l0_1 x24_1))) = true := by simpa using c10
     try rw [e4]
     refine Opl.sk8 rfl rfl rfl rfl rfl rfl rfl rfl (Opl.p1 (n := Opl.nil ?_))
     exact hk2 _ _ ⟨_, _, _, H, by omega, ⟨rfl, rfl, rfl, rfl, rfl, (by first | rfl | (show PV.lit (.bool _) = _; congr 2; simp_all)), trivial⟩, h3⟩
    rw [if_neg c10] at H
    have e5 : (decide ((rd l0_1 (wrap64 (x24_1 - 1))) ≥ (rd l0_1 x24_1))) = false := by simpa using c10
    try rw [e5]
    refine Opl.p1 (v := .ptr i3 2) (n := Opl.ldb (v := v0_2) h3 rfl T104 rfl rfl rfl rfl (Opl.one (v := .lit (.int .i64 x24_1)) rfl rfl rfl ?_))
    obtain ⟨c11, H⟩ := peel H
    refine Opl.idx (M := (cSl cITerm)) (xs := l0_2) (j := x24_1) ([] : List ITerm) (by exact hv0_2) rfl (by omega) (by omega) K104 Z66 rfl rfl ?_
    rintro p3 q3 h7
    obtain ⟨pv1, rfl, h8⟩ := h7
    refine Opl.lda (pv1) rfl T66 rfl rfl rfl rfl (Opl.one (v := .lit (.int .i64 a1)) rfl rfl rfl ?_)
    obtain ⟨t509, h_t509, H⟩ := obs H
    refine Opl.callc (impl_kindOf.ev h8 h_t509) rfl rfl rfl rfl ⟨h8.plain, (.lit _), trivial⟩ (by decide) (Opl.p1 (n := Opl.p1 (n := Opl.nil ?_)))
    exact hk2 _ _ ⟨_, _, _, H, by omega, ⟨rfl, rfl, rfl, rfl, rfl, (by first | rfl | (show PV.lit (.bool _) = _; congr 2; simp_all)), trivial⟩, h3⟩
 ·
  refine Evr.regionN rfl (Opl.p1 (v := .ptr i1 0) (n := Opl.ldb (v := v0_0) h1 rfl T66 rfl rfl rfl rfl (Opl.p1 (n := ?_))))
  obtain ⟨t504, h_t504, H⟩ := obs H
  refine Opl.callc (impl_kindOf.ev hv0_0 h_t504) rfl rfl rfl rfl ⟨hv0_0.plain, (.lit _), trivial⟩ (by decide) (Opl.p1 (n := Opl.p1 (n := ?_)))
  by_cases c13 : t504 = 2
  case neg =>
   rw [if_neg c13] at H
   have e10 : (t504 != 2) = true := by simpa using c13
   try rw [e10]
   refine Opl.sk4 rfl rfl rfl rfl (Opl.sk2 rfl rfl (Opl.skp rfl (Opl.p1 (n := Opl.nil ?_))))
   exact hk1 _ _ ⟨_, _, _, H, ⟨rfl, rfl, (by first | rfl | (show PV.lit (.bool _) = _; congr 2; simp_all)), trivial⟩, h1⟩
  rw [if_pos c13] at H
  have e9 : (t504 != 2) = false := by simpa using c13
  try rw [e9]
  refine Opl.p1 (v := .ptr i1 1) (n := Opl.ldb (v := v0_1) h1 rfl T27 rfl rfl rfl rfl (Opl.len (xs := l0_1) (by exact hv0_1) K27 rfl rfl rfl rfl (Opl.p1 (v := .ptr i1 2) (n := Opl.ldb (v := v0_2) h1 rfl T104 rfl rfl rfl rfl (Opl.len (xs := l0_2) (by exact hv0_2) K104 rfl rfl rfl rfl (Opl.p1 (n := Opl.p1 (n := Opl.nil ?_))))))))
  exact hk1 _ _ ⟨_, _, _, H, ⟨rfl, rfl, (by first | rfl | (show PV.lit (.bool _) = _; congr 2; simp_all)), trivial⟩, h1⟩
theorem impl_SystemValid_2.ev {k : Nat} {l0_0 : List ITerm} {v0_0 : PV} (hv0_0 : Sl cITerm l0_0 v0_0) {l0_1 : List Int} {v0_1 : PV} (hv0_1 : Sl (cInt .i64) l0_1 v0_1) {l0_2 : List (List ITerm)} {v0_2 : PV} (hv0_2 : Sl (cSl cITerm) l0_2 v0_2) {l1_0 : List IVar} {v1_0 : PV} (hv1_0 : Sl cIVar l1_0 v1_0) {l1_1 : List IRule} {v1_1 : PV} (hv1_1 : Sl cIRule l1_1 v1_1) {r : Bool} (H : impl_SystemValid_2.f k l0_0 l0_1 l0_2 l1_0 l1_1 = some r) : Ret Try.prog 92 [.agg [v0_0, v0_1, v0_2], .fel (v1_0 :: v1_1 :: [])] fun v S => v = .lit (.bool r) := by
 unfold impl_SystemValid_2.f at H
 refine Ret.intro Try.func92 rfl (Nat.le_of_ble_eq_true rfl) rfl ?_
 rw [tm2]
 refine Evr.sr rfl (Opl.box (cs := [v0_0, v0_1, v0_2]) rfl rfl rfl rfl ?_)
 rintro i1 S h1 u1 w1
 refine Opl.p1 (n := Opl.nil (Evr.sr rfl (Opl.ldb (v := .agg [v0_0, v0_1, v0_2]) h1 rfl T106 rfl rfl rfl rfl (Opl.p1 (v := .fel (v1_0 :: v1_1 :: [])) (n := Opl.lda (v1_0) rfl T23 rfl rfl rfl rfl (Opl.len (xs := l1_0) (by exact hv1_0) K23 rfl rfl rfl rfl ?_))))))
 obtain ⟨t519, h_t519, H⟩ := obs H
 refine Opl.callc (impl_ruleOk.ev hv0_0 hv0_1 hv0_2 h_t519) rfl rfl rfl rfl ⟨(.aggL ⟨hv0_0.plain, hv0_1.plain, hv0_2.plain, trivial⟩), (.lit _), trivial⟩ (by decide) (Opl.p1 (n := Opl.p1 (n := Opl.nil ?_)))
 obtain rfl := sinj H
 refine Evr.ret1 Try.func92 rfl ?_
 show (.lit (.bool (!t519)) : PV) = _
 first | rfl | (simp only [go_sem]; rfl)
theorem slices_IndexFunc_at_impl_SystemValid_2.ev {k : Nat} {l0 : List IRule} {v0 : PV} (hv0 : Sl cIRule l0 v0) {l2_0 : List IVar} {v2_0 : PV} (hv2_0 : Sl cIVar l2_0 v2_0) {l2_1 : List IRule} {v2_1 : PV} (hv2_1 : Sl cIRule l2_1 v2_1) {r : Int} (H : slices_IndexFunc_at_impl_SystemValid_2.f k l0 l2_0 l2_1 = some r) : Ret Try.prog 149 [v0, .fn 92 [.fel (v2_0 :: v2_1 :: [])]] fun v S => v = .lit (.int .i64 r) := by
 unfold slices_IndexFunc_at_impl_SystemValid_2.f at H
 refine Ret.intro Try.func149 rfl (Nat.le_of_ble_eq_true rfl) rfl ?_
 rw [tm2]
 refine Evr.sr rfl (Opl.p1 (n := Opl.nil (Evr.seq (Evr.sr rfl (Opl.p1 (n := Opl.len (xs := l0) (by exact hv0) K24 rfl rfl rfl rfl (Opl.p1 (n := Opl.nil (Evr.block ?_)))))))))
 refine Evr.loop (Evr.rounds (n := k) (Inv := fun n tm S => n ≤ k ∧ ∃ (x8_1 : Int), slices_IndexFunc_at_impl_SystemValid_2.l0 n l0 (l0.length : Int) x8_1 l2_0 l2_1 = some r ∧ Has tm [(0, v0), (1, .fn 92 [.fel (v2_0 :: v2_1 :: [])]), (7, .lit (.int .i64 (l0.length : Int))), (8, .lit (.int .i64 x8_1))]) ?_ ?_ ?_)
 · exact ⟨Nat.le_refl _, _, H, ⟨rfl, rfl, rfl, rfl, trivial⟩⟩
 ·
  rintro tm S ⟨_, _, H, -⟩
  simp [slices_IndexFunc_at_impl_SystemValid_2.l0] at H
 ·
  rintro n1 ih1 tm S ⟨hle, x8_1, H, hh⟩
  simp only [slices_IndexFunc_at_impl_SystemValid_2.l0] at H
  rw [hh.eq]
  refine Evr.sr rfl (Opl.p1 (n := Opl.nil (Evr.seq ?_)))
  by_cases c1 : x8_1 < (l0.length : Int)
  case neg =>
   rw [if_neg c1] at H
   have e2 : (decide (x8_1 < (l0.length : Int))) = false := by simpa using c1
   try rw [e2]
   refine Evr.condF rfl (Evr.exit rfl (Evr.sr rfl (Opl.p1 (n := Opl.nil ?_))))
   obtain rfl := sinj H
   refine Evr.ret1 Try.func149 rfl ?_
   show (.lit (.int .i64 (-1)) : PV) = _
   first | rfl | (simp only [go_sem]; rfl)
  rw [if_pos c1] at H
  have e1 : (decide (x8_1 < (l0.length : Int))) = true := by simpa using c1
  try rw [e1]
  refine Evr.condT rfl (Evr.skip (Evr.seq (Evr.block (Evr.sr rfl (Opl.p1 (n := Opl.p1 (n := Opl.nil (Evr.sr rfl (Opl.p1 (n := Opl.p1 (n := Opl.p1 (n := ?_))))))))))))
  obtain ⟨c2, H⟩ := peel H
  obtain ⟨c3, H⟩ := peel H
  refine Opl.idx (M := cIRule) (xs := l0) (j := x8_1) zIRule (by exact hv0) rfl (by omega) (by omega) K24 Z106 rfl rfl ?_
  rintro p1 q1 h1
  obtain ⟨pv1, pv2, pv3, rfl, h2, h3, h4⟩ := cIRule_R (x := (rd_IRule l0 x8_1)) h1
  refine Opl.lda (.agg [pv1, pv2, pv3]) rfl T106 rfl rfl rfl rfl ?_
  obtain ⟨t522, h_t522, H⟩ := obs H
  refine Opl.callc (impl_SystemValid_2.ev h2 h3 h4 hv2_0 hv2_1 h_t522) rfl rfl rfl rfl ⟨(.aggL ⟨h2.plain, h3.plain, h4.plain, trivial⟩), (.felL ⟨hv2_0.plain, hv2_1.plain, trivial⟩), trivial⟩ (by decide) (Opl.nil ?_)
  by_cases c4 : t522 = true
  case pos =>
   rw [if_pos c4] at H
   obtain rfl : t522 = true := by simpa using c4
   refine Evr.condT rfl (Evr.sr rfl (Opl.p1 (n := Opl.p1 (n := Opl.nil ?_))))
   obtain rfl := sinj H
   refine Evr.ret1 Try.func149 rfl ?_
   show (.lit (.int .i64 x8_1) : PV) = _
   first | rfl | (simp only [go_sem]; rfl)
  rw [if_neg c4] at H
  obtain rfl : t522 = false := by simpa using c4
  refine Evr.condF rfl (Evr.skip (Evr.inBlock (Evr.regionN rfl (Opl.add (k := .i64) (a := x8_1) (b := 1) K3 rfl rfl rfl rfl (Opl.one (v := .lit (.int .i64 (wrap64 (x8_1 + 1)))) rfl rfl rfl (Opl.nil ?_))))))
  exact ih1 _ (by omega) _ _ ⟨by omega, _, H, ⟨rfl, rfl, rfl, rfl, trivial⟩⟩
theorem slices_ContainsFunc_at_impl_SystemValid_2.ev {k : Nat} {l0 : List IRule} {v0 : PV} (hv0 : Sl cIRule l0 v0) {l2_0 : List IVar} {v2_0 : PV} (hv2_0 : Sl cIVar l2_0 v2_0) {l2_1 : List IRule} {v2_1 : PV} (hv2_1 : Sl cIRule l2_1 v2_1) {r : Bool} (H : slices_ContainsFunc_at_impl_SystemValid_2.f k l0 l2_0 l2_1 = some r) : Ret Try.prog 91 [v0, .fn 92 [.fel (v2_0 :: v2_1 :: [])]] fun v S => v = .lit (.bool r) := by
 unfold slices_ContainsFunc_at_impl_SystemValid_2.f at H
 refine Ret.intro Try.func91 rfl (Nat.le_of_ble_eq_true rfl) rfl ?_
 rw [tm2]
 refine Evr.sr rfl (Opl.p1 (n := Opl.nil (Evr.sr rfl (Opl.p1 (n := Opl.p1 (n := ?_))))))
 obtain ⟨t524, h_t524, H⟩ := obs H
 refine Opl.callc (slices_IndexFunc_at_impl_SystemValid_2.ev hv0 hv2_0 hv2_1 h_t524) rfl rfl rfl rfl ⟨hv0.plain, (.fnL ⟨(.felL ⟨hv2_0.plain, hv2_1.plain, trivial⟩), trivial⟩), trivial⟩ (by decide) (Opl.p1 (n := Opl.p1 (n := Opl.nil ?_)))
 obtain rfl := sinj H
 refine Evr.ret1 Try.func91 rfl ?_
 show (.lit (.bool (decide (t524 ≥ 0))) : PV) = _
 first | rfl | (simp only [go_sem]; rfl)
theorem impl_SystemValid.ev {k : Nat} {l0_0 : List IVar} {v0_0 : PV} (hv0_0 : Sl cIVar l0_0 v0_0) {l0_1 : List IRule} {v0_1 : PV} (hv0_1 : Sl cIRule l0_1 v0_1) {r : Bool} (H : impl_SystemValid.f k l0_0 l0_1 = some r) : Ret Try.prog 26 [.agg [v0_0, v0_1]] fun v S => v = .lit (.bool r) := by
 unfold impl_SystemValid.f at H
 refine Ret.intro Try.func26 rfl (Nat.le_of_ble_eq_true rfl) rfl ?_
 rw [tm1]
 refine Evr.sr rfl (Opl.box (cs := [v0_0, v0_1]) rfl rfl rfl rfl ?_)
 rintro i1 S h1 u1 w1
 refine Opl.p1 (n := Opl.nil (Evr.seq (Evr.seq ?_)))
 refine Evr.join (fun tm S => ∃ (kq1 : Nat) (x24_1 : Bool) (i2 : Abs.Id), impl_SystemValid.j0 kq1 x24_1 l0_0 l0_1 = some r ∧ Has tm [(1, .ptr i2 0), (24, .lit (.bool x24_1))] ∧ Box (.ptr i2 0) [v0_0, v0_1] S) ?_ fun hk1 => ?_
 ·
  rintro tm S ⟨kq1, x24_1, i2, H, hh, h2⟩
  rw [hh.eq]
  obtain _ | k1 := kq1
  · simp [impl_SystemValid.j0] at H
  simp only [impl_SystemValid.j0] at H
  by_cases c1 : x24_1 = true
  case pos =>
   rw [if_pos c1] at H
   obtain rfl : x24_1 = true := by simpa using c1
   refine Evr.condT rfl (Evr.sr rfl (Opl.p1 (n := Opl.nil ?_)))
   obtain rfl := sinj H
   refine Evr.ret1 Try.func26 rfl ?_
   show (.lit (.bool false) : PV) = _
   first | rfl | (simp only [go_sem]; rfl)
  rw [if_neg c1] at H
  obtain rfl : x24_1 = false := by simpa using c1
  refine Evr.condF rfl (Evr.skip (Evr.sr rfl (Opl.p1 (v := .ptr i2 1) (n := Opl.ldb (v := v0_1) h2 rfl T24 rfl rfl rfl rfl (Opl.p1 (n := ?_))))))
  obtain ⟨t529, h_t529, H⟩ := obs H
  refine Opl.callw (slices_ContainsFunc_at_impl_SystemValid_2.ev hv0_1 hv0_0 hv0_1 h_t529) rfl rfl rfl (.cons (.refl _) (.cons (View.fnV (.cons (View.boxV h2 (.cons (.refl _) (.cons (.refl _) .nil))) .nil)) .nil)) ⟨hv0_1.plain, (.fnL ⟨(.felL ⟨hv0_0.plain, hv0_1.plain, trivial⟩), trivial⟩), trivial⟩ (by decide) (Opl.p1 (n := Opl.p1 (n := Opl.nil ?_)))
  obtain rfl := sinj H
  refine Evr.ret1 Try.func26 rfl ?_
  show (.lit (.bool (!t529)) : PV) = _
  first | rfl | (simp only [go_sem]; rfl)
 ·
  refine Evr.regionN rfl (Opl.p1 (v := .ptr i1 0) (n := Opl.ldb (v := v0_0) h1 rfl T23 rfl rfl rfl rfl (Opl.len (xs := l0_0) (by exact hv0_0) K23 rfl rfl rfl rfl ?_)))
  obtain ⟨t526, h_t526, H⟩ := obs H
  refine Opl.callc (impl_in.ev h_t526) rfl rfl rfl rfl ⟨(.lit _), (.lit _), (.lit _), trivial⟩ (by decide) (Opl.p1 (n := Opl.p1 (n := ?_)))
  by_cases c2 : t526 = true
  case neg =>
   rw [if_neg c2] at H
   have e4 : (!t526) = true := by simpa using c2
   try rw [e4]
   refine Opl.sk4 rfl rfl rfl rfl (Opl.p1 (n := Opl.p1 (n := Opl.sk2 rfl rfl (Opl.skp rfl (Opl.p1 (n := Opl.p1 (n := Opl.sk4 rfl rfl rfl rfl (Opl.p1 (n := Opl.nil ?_)))))))))
   exact hk1 _ _ ⟨_, _, _, H, ⟨rfl, (by first | rfl | (show PV.lit (.bool _) = _; congr 2; simp_all)), trivial⟩, h1⟩
  rw [if_pos c2] at H
  have e1 : (!t526) = false := by simpa using c2
  try rw [e1]
  refine Opl.p1 (v := .ptr i1 1) (n := Opl.ldb (v := v0_1) h1 rfl T24 rfl rfl rfl rfl (Opl.len (xs := l0_1) (by exact hv0_1) K24 rfl rfl rfl rfl (Opl.p1 (n := Opl.p1 (n := Opl.p1 (n := ?_))))))
  by_cases c3 : (l0_1.length : Int) > 8
  case pos =>
   rw [if_pos c3] at H
   have e2 : (decide ((l0_1.length : Int) > 8)) = true := by simpa using c3
   try rw [e2]
   refine Opl.sk2 rfl rfl (Opl.skp rfl (Opl.p1 (n := Opl.p1 (n := Opl.sk4 rfl rfl rfl rfl (Opl.p1 (n := Opl.nil ?_))))))
   exact hk1 _ _ ⟨_, _, _, H, ⟨rfl, (by first | rfl | (show PV.lit (.bool _) = _; congr 2; simp_all)), trivial⟩, h1⟩
  rw [if_neg c3] at H
  have e3 : (decide ((l0_1.length : Int) > 8)) = false := by simpa using c3
  try rw [e3]
  refine Opl.p1 (v := .ptr i1 0) (n := Opl.ldb (v := v0_0) h1 rfl T23 rfl rfl rfl rfl ?_)
  obtain ⟨t527, h_t527, H⟩ := obs H
  refine Opl.callc (slices_ContainsFunc_at_impl_SystemValid_1.ev hv0_0 h_t527) rfl rfl rfl rfl ⟨hv0_0.plain, (.lit _), trivial⟩ (by decide) (Opl.p1 (n := Opl.p1 (n := ?_)))
  by_cases c4 : t527 = true
  case pos =>
   rw [if_pos c4] at H
   obtain rfl : t527 = true := by simpa using c4
   refine Opl.sk4 rfl rfl rfl rfl (Opl.p1 (n := Opl.nil ?_))
   exact hk1 _ _ ⟨_, _, _, H, ⟨rfl, (by first | rfl | (show PV.lit (.bool _) = _; congr 2; simp_all)), trivial⟩, h1⟩
  rw [if_neg c4] at H
  obtain rfl : t527 = false := by simpa using c4
  refine Opl.p1 (v := .ptr i1 0) (n := Opl.ldb (v := v0_0) h1 rfl T23 rfl rfl rfl rfl ?_)
  obtain ⟨t528, h_t528, H⟩ := obs H
  refine Opl.callc (impl_size.ev hv0_0 h_t528) rfl rfl rfl rfl ⟨hv0_0.plain, trivial⟩ (by decide) (Opl.p1 (n := Opl.p1 (n := Opl.nil ?_)))
  exact hk1 _ _ ⟨_, _, _, H, ⟨rfl, (by first | rfl | (show PV.lit (.bool _) = _; congr 2; simp_all)), trivial⟩, h1⟩
theorem impl_clone_int.ev {l0 : List Int} {v0 : PV} (hv0 : Sl (cInt .i64) l0 v0) {r : List Int} (H : impl_clone_int.f l0 = some r) : Ret Try.prog 81 [v0] fun v S => Vec (cInt .i64) r v S := by
 unfold impl_clone_int.f at H
 refine Ret.intro Try.func81 rfl (Nat.le_of_ble_eq_true rfl) rfl ?_
 rw [tm1]
 obtain ⟨c1, H⟩ := peel H
 obtain rfl := sinj H
 refine Evr.seq (Evr.regionN rfl (Opl.p1 (n := Opl.nil (Evr.seq (Evr.seq (Evr.regionN rfl (Opl.p1 (n := Opl.len (by exact hv0) K27 rfl rfl rfl rfl (Opl.p1 (n := Opl.nil ?_))))))))))
 by_cases c2 : (l0.length : Int) = 0
 · have e1 : ((l0.length : Int) == 0) = true := by simpa using c2
   try rw [e1]
   refine Evr.condT rfl (Evr.seq (Evr.regionN rfl (Opl.p1 (n := Opl.nil ?_))))
   obtain rfl : l0 = [] := List.eq_nil_of_length_eq_zero (by omega)
   refine Evr.ret1 Try.func81 rfl ?_
   exact .nil
 · have e1 : ((l0.length : Int) == 0) = false := by simpa using c2
   try rw [e1]
   refine Evr.condF rfl (Evr.skip (Evr.seq (Evr.regionN rfl (Opl.p1 (n := Opl.len (by exact hv0) K27 rfl rfl rfl rfl ?_)))))
   refine Opl.make (M := (cInt .i64)) (m := (l0.length : Int)) (0 : Int) (by exact rfl) rfl rfl K27 T3 rfl (by omega) (by show (_ : Nat) * 8 ≤ 281474976710656; omega) (by omega) rfl rfl rfl ?_
   rintro pv1 S h1 u1 w1
   refine Opl.p1 (n := Opl.nil (Evr.seq (Evr.regionN rfl (Opl.p1 (n := Opl.p1 (n := ?_))))))
   refine Opl.copy (M := (cInt .i64)) (ys := l0) h1 (by exact hv0) (oInt .i64) rfl (by simp) (by simp; omega) K27 Z3 rfl rfl rfl rfl rfl ?_
   rintro S h2 u2
   refine Opl.nil (Evr.seq (Evr.regionN rfl (Opl.p1 (n := Opl.p1 (n := Opl.nil ?_)))))
   refine Evr.ret1 Try.func81 rfl ?_
   exact h2
theorem impl_first.ev {k : Nat} {l0_0 : List IVar} {v0_0 : PV} (hv0_0 : Sl cIVar l0_0 v0_0) {l0_1 : List IRule} {v0_1 : PV} (hv0_1 : Sl cIRule l0_1 v0_1) {r : (List Int)} (H : impl_first.f k l0_0 l0_1 = some r) : Ret Try.prog 86 [.agg [v0_0, v0_1]] fun v S => Vec (cInt .i64) r v S := by
 unfold impl_first.f at H
 refine Ret.intro Try.func86 rfl (Nat.le_of_ble_eq_true rfl) rfl ?_
 rw [tm1]
 refine Evr.sr rfl (Opl.box (cs := [v0_0, v0_1]) rfl rfl rfl rfl ?_)
 rintro i1 S h1 u1 w1
 refine Opl.p1 (n := Opl.nil (Evr.sr rfl (Opl.p1 (n := Opl.nil (Evr.seq (Evr.sr rfl (Opl.p1 (v := .ptr i1 0) (n := Opl.ldb (v := v0_0) h1 rfl T23 rfl rfl rfl rfl (Opl.len (xs := l0_0) (by exact hv0_0) K23 rfl rfl rfl rfl (Opl.p1 (n := Opl.nil (Evr.block ?_))))))))))))
 refine Evr.loop (Evr.rounds (n := k) (Inv := fun n tm S => n ≤ k ∧ ∃ (x3_1 : List Int) (x9_1 : Int) (pv1 : PV), impl_first.l0 n x3_1 l0_0 (l0_0.length : Int) x9_1 = some r ∧ Has tm [(3, pv1), (7, v0_0), (8, .lit (.int .i64 (l0_0.length : Int))), (9, .lit (.int .i64 x9_1))] ∧ Vec (cInt .i64) x3_1 pv1 S) ?_ ?_ ?_)
 · exact ⟨Nat.le_refl _, _, _, _, H, ⟨rfl, rfl, rfl, rfl, trivial⟩, .nil⟩
 ·
  rintro tm S ⟨_, _, _, _, H, -⟩
  simp [impl_first.l0] at H
 ·
  rintro n1 ih1 tm S ⟨hle, x3_1, x9_1, pv1, H, hh, h2⟩
  simp only [impl_first.l0] at H
  rw [hh.eq]
  refine Evr.sr rfl (Opl.p1 (n := Opl.nil (Evr.seq ?_)))
  by_cases c1 : x9_1 < (l0_0.length : Int)
  case neg =>
   rw [if_neg c1] at H
   have e2 : (decide (x9_1 < (l0_0.length : Int))) = false := by simpa using c1
   try rw [e2]
   refine Evr.condF rfl (Evr.exit rfl (Evr.sr rfl (Opl.p1 (n := ?_))))
   obtain ⟨t1079, h_t1079, H⟩ := obs H
   obtain ⟨pv4, h14, -, h15⟩ := Out.vec h2
   refine Opl.callav (sInt .i64) (impl_clone_int.ev h15 h_t1079) rfl rfl rfl (.cons h14 .nil) ⟨h15.plain, trivial⟩ rfl ?_
   rintro pv5 S h16 u6 w6
   have ap6 := w6.vec h2
   have h17 := u6.vec h2 ap6
   refine Opl.p1 (n := Opl.nil ?_)
   obtain rfl := sinj H
   refine Evr.ret1 Try.func86 rfl ?_
   show Vec _ _ pv5 _
   exact h16
  rw [if_pos c1] at H
  have e1 : (decide (x9_1 < (l0_0.length : Int))) = true := by simpa using c1
  try rw [e1]
  refine Evr.condT rfl (Evr.skip (Evr.seq (Evr.block (Evr.sr rfl ?_))))
  obtain ⟨c2, H⟩ := peel H
  obtain ⟨c3, H⟩ := peel H
  obtain ⟨c4, H⟩ := peel H
  refine Opl.idx (M := cIVar) (xs := l0_0) (j := x9_1) zIVar (by exact hv0_0) rfl (by omega) (by omega) K23 Z101 rfl rfl ?_
  rintro p1 q1 h3
  obtain rfl := cIVar_R (x := (rd_IVar l0_0 x9_1)) h3
  refine Opl.lda (.agg [.lit (.int .i64 ((rd_IVar l0_0 x9_1).f0)), .lit (.int .i64 ((rd_IVar l0_0 x9_1).f1)), .lit (.int .i64 ((rd_IVar l0_0 x9_1).f2))]) rfl T101 rfl rfl rfl rfl (Opl.alloc T101 rfl rfl rfl ?_)
  rintro i2 S h4 u2 w2
  have ap1 := w2.vec h2
  have h5 := u2.vec h2 ap1
  refine Opl.stb (vs := [.lit (.int .i64 ((rd_IVar l0_0 x9_1).f0)), .lit (.int .i64 ((rd_IVar l0_0 x9_1).f1)), .lit (.int .i64 ((rd_IVar l0_0 x9_1).f2))]) h4 rfl rfl Z101 rfl (Nat.le_of_ble_eq_true rfl) rfl rfl rfl rfl ?_
  rintro S (h6 : Box (.ptr i2 0) [.lit (.int .i64 ((rd_IVar l0_0 x9_1).f0)), .lit (.int .i64 ((rd_IVar l0_0 x9_1).f1)), .lit (.int .i64 ((rd_IVar l0_0 x9_1).f2))] _) u3
  have h7 := u3.vec h5 ap1
  refine Opl.nil (Evr.regionN rfl (Opl.p1 (n := Opl.p1 (v := .ptr i2 2) (n := Opl.ldb (v := .lit (.int .i64 ((rd_IVar l0_0 x9_1).f2))) h6 rfl T3 rfl rfl rfl rfl (Opl.lits (M := (cInt .i64)) (ys := [((rd_IVar l0_0 x9_1).f2)]) [.tmp 15] K27 T3 rfl rfl rfl (by exact ⟨rfl, trivial⟩) rfl (by decide) rfl rfl rfl ?_)))))
  rintro pv2 S h8 u4 w4
  have ap2 := w4.vec h7
  have h9 := u4.vec h7 ap2
  have ap3 := w4.box h6
  have h10 := u4.box h6 ap3
  refine Opl.app (M := (cInt .i64)) (xs := x3_1) (ys := [((rd_IVar l0_0 x9_1).f2)]) (v := pv1) h9 (.vec h8) (oInt .i64) rfl rfl K27 T3 rfl rfl (by (try simp only [List.length_cons, List.length_nil]); omega) (by show (_ + _) * 8 ≤ 140737488355328; (try simp only [List.length_cons, List.length_nil]); omega) rfl rfl rfl rfl rfl ?_
  rintro pv3 S h11 u5 w5
  have ap4 := w5.box h10
  have h12 := u5.box h10 ap1.symm
  have ap5 := w5.vec h8
  have h13 := u5.vec h8 ap2.symm
  refine Opl.p1 (n := Opl.nil (Evr.inBlock (Evr.regionN rfl (Opl.add (k := .i64) (a := x9_1) (b := 1) K3 rfl rfl rfl rfl (Opl.one (v := .lit (.int .i64 (wrap64 (x9_1 + 1)))) rfl rfl rfl (Opl.nil ?_))))))
  exact ih1 _ (by omega) _ _ ⟨by omega, _, _, _, H, ⟨rfl, rfl, rfl, rfl, trivial⟩, h11⟩
theorem impl_bit.ev {a0 : Bool} {r : Int} (H : impl_bit.f a0 = some r) : Ret Try.prog 170 [.lit (.bool a0)] fun v S => v = .lit (.int .i64 r) := by
 unfold impl_bit.f at H
 refine Ret.intro Try.func170 rfl (Nat.le_of_ble_eq_true rfl) rfl ?_
 rw [tm1]
 refine Evr.sr rfl (Opl.p1 (n := Opl.nil (Evr.seq (Evr.sr rfl (Opl.p1 (n := Opl.nil ?_))))))
 by_cases c1 : a0 = true
 case pos =>
  rw [if_pos c1] at H
  obtain rfl : a0 = true := by simpa using c1
  refine Evr.condT rfl (Evr.sr rfl (Opl.p1 (n := Opl.nil ?_)))
  obtain rfl := sinj H
  refine Evr.ret1 Try.func170 rfl ?_
  show (.lit (.int .i64 1) : PV) = _
  first | rfl | (simp only [go_sem]; rfl)
 rw [if_neg c1] at H
 obtain rfl : a0 = false := by simpa using c1
 refine Evr.condF rfl (Evr.skip (Evr.sr rfl (Opl.p1 (n := Opl.nil ?_))))
 obtain rfl := sinj H
 refine Evr.ret1 Try.func170 rfl ?_
 show (.lit (.int .i64 0) : PV) = _
 first | rfl | (simp only [go_sem]; rfl)
theorem impl_held.ev {a0 : Int} {r : Int} (H : impl_held.f a0 = some r) : Ret Try.prog 167 [.lit (.int .i64 a0)] fun v S => v = .lit (.int .i64 r) := by
 unfold impl_held.f at H
 refine Ret.intro Try.func167 rfl (Nat.le_of_ble_eq_true rfl) rfl ?_
 rw [tm1]
 refine Evr.sr rfl (Opl.p1 (n := Opl.nil (Evr.sr rfl (Opl.p1 (n := Opl.one rfl rfl (by simp only [go_sem, minFn, maxFn]; rfl) (Opl.one rfl rfl (by simp only [go_sem, minFn, maxFn]; rfl) (Opl.p1 (n := Opl.nil ?_))))))))
 obtain rfl := sinj H
 refine Evr.ret1 Try.func167 rfl ?_
 show (.lit (.int .i64 (if (if a0 < 9999 then a0 else 9999) > (-9999) then (if a0 < 9999 then a0 else 9999) else (-9999))) : PV) = _
 first | rfl | (simp only [go_sem]; rfl)
theorem impl_do.ev {a0 : Int} {a1 : Int} {a2 : Int} {r : Int} (H : impl_do.f a0 a1 a2 = some r) : Ret Try.prog 171 [.lit (.int .i64 a0), .lit (.int .i64 a1), .lit (.int .i64 a2)] fun v S => v = .lit (.int .i64 r) := by
 unfold impl_do.f at H
 refine Ret.intro Try.func171 rfl (Nat.le_of_ble_eq_true rfl) rfl ?_
 rw [tm3]
 refine Evr.sr rfl (Opl.p1 (n := Opl.nil (Evr.seq (Evr.sr rfl (Opl.p1 (n := Opl.nil (Evr.block (Evr.sr rfl (Opl.p1 (n := Opl.p1 (n := Opl.nil ?_)))))))))))
 by_cases c1 : a0 = 2
 case pos =>
  rw [if_pos c1] at H
  have e1 : (a0 == 2) = true := by simpa using c1
  try rw [e1]
  refine Evr.condT rfl (Evr.sr rfl (Opl.p1 (n := Opl.p1 (n := Opl.add (k := .i64) (a := a1) (b := a2) K3 rfl rfl rfl rfl ?_))))
  obtain ⟨t1087, h_t1087, H⟩ := obs H
  refine Opl.callc (impl_held.ev h_t1087) rfl rfl rfl rfl ⟨(.lit _), trivial⟩ (by decide) (Opl.one (v := .lit (.int .i64 t1087)) rfl rfl rfl (Opl.nil ?_))
  obtain rfl := sinj H
  refine Evr.ret1 Try.func171 rfl ?_
  show (.lit (.int .i64 t1087) : PV) = _
  first | rfl | (simp only [go_sem]; rfl)
 rw [if_neg c1] at H
 have e2 : (a0 == 2) = false := by simpa using c1
 try rw [e2]
 refine Evr.condF rfl (Evr.sr rfl (Opl.p1 (n := Opl.p1 (n := Opl.nil ?_))))
 by_cases c2 : a0 = 3
 case pos =>
  rw [if_pos c2] at H
  have e3 : (a0 == 3) = true := by simpa using c2
  try rw [e3]
  refine Evr.condT rfl (Evr.sr rfl (Opl.p1 (n := Opl.p1 (n := Opl.subi (k := .i64) (a := a1) (b := a2) K3 rfl rfl rfl rfl ?_))))
  obtain ⟨t1088, h_t1088, H⟩ := obs H
  refine Opl.callc (impl_held.ev h_t1088) rfl rfl rfl rfl ⟨(.lit _), trivial⟩ (by decide) (Opl.one (v := .lit (.int .i64 t1088)) rfl rfl rfl (Opl.nil ?_))
  obtain rfl := sinj H
  refine Evr.ret1 Try.func171 rfl ?_
  show (.lit (.int .i64 t1088) : PV) = _
  first | rfl | (simp only [go_sem]; rfl)
 rw [if_neg c2] at H
 have e4 : (a0 == 3) = false := by simpa using c2
 try rw [e4]
 refine Evr.condF rfl (Evr.sr rfl (Opl.p1 (n := Opl.p1 (n := Opl.nil ?_))))
 by_cases c3 : a0 = 4
 case pos =>
  rw [if_pos c3] at H
  have e5 : (a0 == 4) = true := by simpa using c3
  try rw [e5]
  refine Evr.condT rfl (Evr.sr rfl (Opl.p1 (n := Opl.p1 (n := Opl.mul (k := .i64) (a := a1) (b := a2) K3 rfl rfl rfl rfl ?_))))
  obtain ⟨t1089, h_t1089, H⟩ := obs H
  refine Opl.callc (impl_held.ev h_t1089) rfl rfl rfl rfl ⟨(.lit _), trivial⟩ (by decide) (Opl.one (v := .lit (.int .i64 t1089)) rfl rfl rfl (Opl.nil ?_))
  obtain rfl := sinj H
  refine Evr.ret1 Try.func171 rfl ?_
  show (.lit (.int .i64 t1089) : PV) = _
  first | rfl | (simp only [go_sem]; rfl)
 rw [if_neg c3] at H
 have e6 : (a0 == 4) = false := by simpa using c3
 try rw [e6]
 refine Evr.condF rfl (Evr.sr rfl (Opl.p1 (n := Opl.p1 (n := Opl.nil ?_))))
 by_cases c4 : a0 = 5
 case pos =>
  rw [if_pos c4] at H
  have e7 : (a0 == 5) = true := by simpa using c4
  try rw [e7]
  refine Evr.condT rfl (Evr.sr rfl (Opl.p1 (n := Opl.p1 (n := Opl.p1 (n := ?_)))))
  obtain ⟨t1090, h_t1090, H⟩ := obs H
  refine Opl.callc (impl_bit.ev h_t1090) rfl rfl rfl rfl ⟨(.lit _), trivial⟩ (by decide) (Opl.p1 (n := Opl.nil ?_))
  obtain rfl := sinj H
  refine Evr.ret1 Try.func171 rfl ?_
  show (.lit (.int .i64 t1090) : PV) = _
  first | rfl | (simp only [go_sem]; rfl)
 rw [if_neg c4] at H
 have e8 : (a0 == 5) = false := by simpa using c4
 try rw [e8]
 refine Evr.condF rfl (Evr.sr rfl (Opl.p1 (n := Opl.p1 (n := Opl.nil ?_))))
 by_cases c5 : a0 = 6
 case pos =>
  rw [if_pos c5] at H
  have e9 : (a0 == 6) = true := by simpa using c5
  try rw [e9]
  refine Evr.condT rfl (Evr.sr rfl (Opl.p1 (n := Opl.p1 (n := Opl.p1 (n := ?_)))))
  obtain ⟨t1091, h_t1091, H⟩ := obs H
  refine Opl.callc (impl_bit.ev h_t1091) rfl rfl rfl rfl ⟨(.lit _), trivial⟩ (by decide) (Opl.p1 (n := Opl.nil ?_))
  obtain rfl := sinj H
  refine Evr.ret1 Try.func171 rfl ?_
  show (.lit (.int .i64 t1091) : PV) = _
  first | rfl | (simp only [go_sem]; rfl)
 rw [if_neg c5] at H
 have e10 : (a0 == 6) = false := by simpa using c5
 try rw [e10]
 refine Evr.condF rfl (Evr.sr rfl (Opl.p1 (n := Opl.p1 (n := Opl.nil ?_))))
 by_cases c6 : a0 = 7
 case pos =>
  rw [if_pos c6] at H
  have e11 : (a0 == 7) = true := by simpa using c6
  try rw [e11]
  refine Evr.condT rfl (Evr.sr rfl (Opl.p1 (n := Opl.subi (k := .i64) (a := 1) (b := a1) K3 rfl rfl rfl rfl (Opl.one (v := .lit (.int .i64 (wrap64 (1 - a1)))) rfl rfl rfl (Opl.nil ?_)))))
  obtain rfl := sinj H
  refine Evr.ret1 Try.func171 rfl ?_
  show (.lit (.int .i64 (wrap64 (1 - a1))) : PV) = _
  first | rfl | (simp only [go_sem]; rfl)
 rw [if_neg c6] at H
 have e12 : (a0 == 7) = false := by simpa using c6
 try rw [e12]
 refine Evr.condF rfl (Evr.sr rfl (Opl.p1 (n := Opl.p1 (n := Opl.nil ?_))))
 by_cases c7 : a0 = 8
 case pos =>
  rw [if_pos c7] at H
  have e13 : (a0 == 8) = true := by simpa using c7
  try rw [e13]
  refine Evr.condT rfl (Evr.sr rfl (Opl.p1 (n := Opl.p1 (n := Opl.one rfl rfl (by simp only [go_sem, minFn, maxFn]; rfl) (Opl.p1 (n := Opl.nil ?_))))))
  obtain rfl := sinj H
  refine Evr.ret1 Try.func171 rfl ?_
  show (.lit (.int .i64 (if a2 < a1 then a2 else a1)) : PV) = _
  first | rfl | (simp only [go_sem]; rfl)
 rw [if_neg c7] at H
 have e14 : (a0 == 8) = false := by simpa using c7
 try rw [e14]
 refine Evr.condF rfl (Evr.skip (Evr.inBlock (Evr.sr rfl (Opl.p1 (n := Opl.p1 (n := Opl.one rfl rfl (by simp only [go_sem, minFn, maxFn]; rfl) (Opl.p1 (n := Opl.nil ?_))))))))
 obtain rfl := sinj H
 refine Evr.ret1 Try.func171 rfl ?_
 show (.lit (.int .i64 (if a2 > a1 then a2 else a1)) : PV) = _
 first | rfl | (simp only [go_sem]; rfl)
theorem impl_eval.ev {k : Nat} {l0 : List ITerm} {v0 : PV} (hv0 : Sl cITerm l0 v0) {l1 : List Int} {v1 : PV} (hv1 : Sl (cInt .i64) l1 v1) {r : Int} (H : impl_eval.f k l0 l1 = some r) : Ret Try.prog 124 [v0, v1] fun v S => v = .lit (.int .i64 r) := by
 unfold impl_eval.f at H
 refine Ret.intro Try.func124 rfl (Nat.le_of_ble_eq_true rfl) rfl ?_
 rw [tm2]
 refine Evr.sr rfl (Opl.p1 (n := Opl.nil (Evr.sr rfl (Opl.p1 (n := Opl.len (xs := l0) (by exact hv0) K66 rfl rfl rfl rfl ?_)))))
 obtain ⟨c1, H⟩ := peel H
 obtain ⟨c2, H⟩ := peel H
 refine Opl.make (M := (cInt .i64)) (m := (l0.length : Int)) (0 : Int) (by exact rfl) rfl rfl K27 T3 rfl (by omega) (by show ((l0.length : Int)).toNat * 8 ≤ 281474976710656; omega) (by omega) rfl rfl rfl ?_
 rintro pv1 S h1 u1 w1
 refine Opl.p1 (n := Opl.nil (Evr.seq (Evr.sr rfl (Opl.p1 (n := Opl.len (xs := l0) (by exact hv0) K66 rfl rfl rfl rfl (Opl.p1 (n := Opl.nil (Evr.block ?_))))))))
 refine Evr.loop (Evr.rounds (n := k) (Inv := fun n tm S => n ≤ k ∧ ∃ (x5_1 : List Int) (x13_1 : Int) (pv2 : PV), impl_eval.l0 n l1 x5_1 l0 (l0.length : Int) x13_1 = some r ∧ Has tm [(1, v1), (5, pv2), (11, v0), (12, .lit (.int .i64 (l0.length : Int))), (13, .lit (.int .i64 x13_1))] ∧ Vec (cInt .i64) x5_1 pv2 S) ?_ ?_ ?_)
 · exact ⟨Nat.le_refl _, _, _, _, H, ⟨rfl, rfl, rfl, rfl, rfl, trivial⟩, h1⟩
 ·
  rintro tm S ⟨_, _, _, _, H, -⟩
  simp [impl_eval.l0] at H
 ·
  rintro n1 ih1 tm S ⟨hle, x5_1, x13_1, pv2, H, hh, h2⟩
  simp only [impl_eval.l0] at H
  rw [hh.eq]
  refine Evr.sr rfl (Opl.p1 (n := Opl.nil (Evr.seq ?_)))
  by_cases c3 : x13_1 < (l0.length : Int)
  case neg =>
   rw [if_neg c3] at H
   have e6 : (decide (x13_1 < (l0.length : Int))) = false := by simpa using c3
   try rw [e6]
   refine Evr.condF rfl (Evr.exit rfl (Evr.sr rfl (Opl.p1 (n := Opl.p1 (n := Opl.lenv (xs := x5_1) (by exact h2) K27 rfl rfl rfl rfl (Opl.subi (k := .i64) (a := (x5_1.length : Int)) (b := 1) K3 rfl rfl rfl rfl ?_))))))
   obtain ⟨c17, H⟩ := peel H
   obtain ⟨c18, H⟩ := peel H
   refine Opl.idv (M := (cInt .i64)) (xs := x5_1) (j := (wrap64 ((x5_1.length : Int) - 1))) (v := pv2) h2 rfl rfl (by omega) (by omega) K27 Z3 rfl rfl ?_
   rintro d6 z6 q10 h29 h30
   refine Opl.ldv (M := (cInt .i64)) (xs := x5_1) (j := (wrap64 ((x5_1.length : Int) - 1))) (0 : Int) h29 h30 (by omega) (by omega) rfl T3 rfl rfl rfl ?_
   rintro p5 q11 h31
   obtain rfl : p5 = [.lit (.int .i64 (rd x5_1 (wrap64 ((x5_1.length : Int) - 1))))] := h31
   refine ⟨.lit (.int .i64 (rd x5_1 (wrap64 ((x5_1.length : Int) - 1)))), rfl, ?_⟩
   refine Opl.one (v := .lit (.int .i64 (rd x5_1 (wrap64 ((x5_1.length : Int) - 1))))) rfl rfl rfl (Opl.nil ?_)
   obtain rfl := sinj H
   refine Evr.ret1 Try.func124 rfl ?_
   show (.lit (.int .i64 (rd x5_1 (wrap64 ((x5_1.length : Int) - 1)))) : PV) = _
   first | rfl | (simp only [go_sem]; rfl)
  rw [if_pos c3] at H
  have e1 : (decide (x13_1 < (l0.length : Int))) = true := by simpa using c3
  try rw [e1]
  refine Evr.condT rfl (Evr.skip (Evr.seq (Evr.block (Evr.sr rfl (Opl.p1 (n := ?_))))))
  obtain ⟨c4, H⟩ := peel H
  obtain ⟨c5, H⟩ := peel H
  refine Opl.idx (M := cITerm) (xs := l0) (j := x13_1) zITerm (by exact hv0) rfl (by omega) (by omega) K66 Z128 rfl rfl ?_
  rintro p1 q1 h3
  obtain rfl := cITerm_R (x := (rd_ITerm l0 x13_1)) h3
  refine Opl.lda (.agg [.lit (.int .i64 ((rd_ITerm l0 x13_1).f0)), .lit (.int .i64 ((rd_ITerm l0 x13_1).f1)), .lit (.int .i64 ((rd_ITerm l0 x13_1).f2)), .lit (.int .i64 ((rd_ITerm l0 x13_1).f3))]) rfl T128 rfl rfl rfl rfl (Opl.alloc T128 rfl rfl rfl ?_)
  rintro i1 S h4 u2 w2
  have ap1 := w2.vec h2
  have h5 := u2.vec h2 ap1
  refine Opl.p1 (n := Opl.stb (vs := [.lit (.int .i64 ((rd_ITerm l0 x13_1).f0)), .lit (.int .i64 ((rd_ITerm l0 x13_1).f1)), .lit (.int .i64 ((rd_ITerm l0 x13_1).f2)), .lit (.int .i64 ((rd_ITerm l0 x13_1).f3))]) h4 rfl rfl Z128 rfl (Nat.le_of_ble_eq_true rfl) rfl rfl rfl rfl ?_)
  rintro S (h6 : Box (.ptr i1 0) [.lit (.int .i64 ((rd_ITerm l0 x13_1).f0)), .lit (.int .i64 ((rd_ITerm l0 x13_1).f1)), .lit (.int .i64 ((rd_ITerm l0 x13_1).f2)), .lit (.int .i64 ((rd_ITerm l0 x13_1).f3))] _) u3
  have h7 := u3.vec h5 ap1
  refine Opl.nil (Evr.sr rfl (Opl.p1 (v := .ptr i1 0) (n := Opl.ldb (v := .lit (.int .i64 ((rd_ITerm l0 x13_1).f0))) h6 rfl T3 rfl rfl rfl rfl (Opl.nil (Evr.block (Evr.sr rfl (Opl.p1 (n := Opl.p1 (n := Opl.nil ?_)))))))))
  refine Evr.join (fun tm S => ∃ (kq1 : Nat) (x5_2 : List Int) (pv3 : PV), impl_eval.l0 kq1 l1 x5_2 l0 (l0.length : Int) (wrap64 (x13_1 + 1)) = some r ∧ kq1 ≤ n1 ∧ Has tm [(1, v1), (5, pv3), (11, v0), (12, .lit (.int .i64 (l0.length : Int))), (13, .lit (.int .i64 x13_1))] ∧ Vec (cInt .i64) x5_2 pv3 S) ?_ fun hk1 => ?_
  ·
   rintro tm S ⟨kq1, x5_2, pv3, H, hle, hh, h8⟩
   rw [hh.eq]
   refine Evr.inBlock (Evr.inBlock (Evr.regionN rfl (Opl.add (k := .i64) (a := x13_1) (b := 1) K3 rfl rfl rfl rfl (Opl.one (v := .lit (.int .i64 (wrap64 (x13_1 + 1)))) rfl rfl rfl (Opl.nil ?_)))))
   exact ih1 _ (by omega) _ _ ⟨by omega, _, _, _, H, ⟨rfl, rfl, rfl, rfl, rfl, trivial⟩, h8⟩
  ·
   by_cases c6 : ((rd_ITerm l0 x13_1).f0) = 0
   case pos =>
    rw [if_pos c6] at H
    have e2 : (((rd_ITerm l0 x13_1).f0) == 0) = true := by simpa using c6
    try rw [e2]
    refine Evr.condT rfl (Evr.regionN rfl (Opl.p1 (n := Opl.p1 (n := Opl.p1 (v := .ptr i1 1) (n := Opl.ldb (v := .lit (.int .i64 ((rd_ITerm l0 x13_1).f1))) h6 rfl T3 rfl rfl rfl rfl ?_)))))
    obtain ⟨c7, H⟩ := peel H
    refine Opl.idv (M := (cInt .i64)) (xs := x5_1) (j := x13_1) (v := pv2) h7 rfl rfl (by omega) (by omega) K27 Z3 rfl rfl ?_
    rintro d1 z1 q2 h9 h10
    refine Opl.stv (M := (cInt .i64)) (xs := x5_1) (j := x13_1) (y := ((rd_ITerm l0 x13_1).f1)) (vs := [.lit (.int .i64 ((rd_ITerm l0 x13_1).f1))]) h9 h10 (by omega) (by omega) rfl rfl (by exact rfl) Z3 rfl rfl rfl rfl ?_
    rw [← q2]
    rintro S h11 u4
    have h12 := u4.box h6 ap1.symm
    refine Opl.nil ?_
    exact hk1 _ _ ⟨_, _, _, H, by omega, ⟨rfl, rfl, rfl, rfl, rfl, trivial⟩, h11⟩
   rw [if_neg c6] at H
   have e3 : (((rd_ITerm l0 x13_1).f0) == 0) = false := by simpa using c6
   try rw [e3]
   refine Evr.condF rfl (Evr.sr rfl (Opl.p1 (n := Opl.p1 (n := Opl.nil ?_))))
   refine Evr.join (fun tm S => ∃ (kq2 : Nat) (x5_3 : List Int) (pv4 : PV), impl_eval.l0 kq2 l1 x5_3 l0 (l0.length : Int) (wrap64 (x13_1 + 1)) = some r ∧ kq2 ≤ n1 ∧ Has tm [(1, v1), (5, pv4), (11, v0), (12, .lit (.int .i64 (l0.length : Int))), (13, .lit (.int .i64 x13_1))] ∧ Vec (cInt .i64) x5_3 pv4 S) ?_ fun hk2 => ?_
   ·
    rintro tm S ⟨kq2, x5_3, pv4, H, hle, hh, h13⟩
    rw [hh.eq]
    exact hk1 _ _ ⟨_, _, _, H, by omega, ⟨rfl, rfl, rfl, rfl, rfl, trivial⟩, h13⟩
   ·
    by_cases c8 : ((rd_ITerm l0 x13_1).f0) = 1
    case pos =>
     rw [if_pos c8] at H
     have e4 : (((rd_ITerm l0 x13_1).f0) == 1) = true := by simpa using c8
     try rw [e4]
     refine Evr.condT rfl (Evr.regionN rfl (Opl.p1 (n := Opl.p1 (n := Opl.p1 (n := Opl.p1 (v := .ptr i1 1) (n := Opl.ldb (v := .lit (.int .i64 ((rd_ITerm l0 x13_1).f1))) h6 rfl T3 rfl rfl rfl rfl ?_))))))
     obtain ⟨c9, H⟩ := peel H
     obtain ⟨c10, H⟩ := peel H
     obtain ⟨c11, H⟩ := peel H
     refine Opl.idx (M := (cInt .i64)) (xs := l1) (j := ((rd_ITerm l0 x13_1).f1)) (0 : Int) (by exact hv1) rfl (by omega) (by omega) K27 Z3 rfl rfl ?_
     rintro p2 q3 h14
     obtain rfl : p2 = [.lit (.int .i64 (rd l1 ((rd_ITerm l0 x13_1).f1)))] := h14
     refine Opl.lda (.lit (.int .i64 (rd l1 ((rd_ITerm l0 x13_1).f1)))) rfl T3 rfl rfl rfl rfl (Opl.idv (M := (cInt .i64)) (xs := x5_1) (j := x13_1) (v := pv2) h7 rfl rfl (by omega) (by omega) K27 Z3 rfl rfl ?_)
     rintro d2 z2 q4 h15 h16
     refine Opl.stv (M := (cInt .i64)) (xs := x5_1) (j := x13_1) (y := (rd l1 ((rd_ITerm l0 x13_1).f1))) (vs := [.lit (.int .i64 (rd l1 ((rd_ITerm l0 x13_1).f1)))]) h15 h16 (by omega) (by omega) rfl rfl (by exact rfl) Z3 rfl rfl rfl rfl ?_
     rw [← q4]
     rintro S h17 u5
     have h18 := u5.box h6 ap1.symm
     refine Opl.nil ?_
     exact hk2 _ _ ⟨_, _, _, H, by omega, ⟨rfl, rfl, rfl, rfl, rfl, trivial⟩, h17⟩
    rw [if_neg c8] at H
    have e5 : (((rd_ITerm l0 x13_1).f0) == 1) = false := by simpa using c8
    try rw [e5]
    refine Evr.condF rfl (Evr.regionD rfl (by kernel_rfl) (Opl.p1 (n := Opl.p1 (n := Opl.p1 (v := .ptr i1 0) (n := Opl.ldb (v := .lit (.int .i64 ((rd_ITerm l0 x13_1).f0))) h6 rfl T3 rfl rfl rfl rfl (Opl.p1 (n := Opl.p1 (v := .ptr i1 2) (n := Opl.ldb (v := .lit (.int .i64 ((rd_ITerm l0 x13_1).f2))) h6 rfl T3 rfl rfl rfl rfl ?_))))))))
    obtain ⟨c12, H⟩ := peel H
    obtain ⟨c13, H⟩ := peel H
    obtain ⟨c14, H⟩ := peel H
    obtain ⟨c15, H⟩ := peel H
    refine Opl.idv (M := (cInt .i64)) (xs := x5_1) (j := ((rd_ITerm l0 x13_1).f2)) (v := pv2) h7 rfl rfl (by omega) (by omega) K27 Z3 rfl rfl ?_
    rintro d3 z3 q5 h19 h20
    refine Opl.ldv (M := (cInt .i64)) (xs := x5_1) (j := ((rd_ITerm l0 x13_1).f2)) (0 : Int) h19 h20 (by omega) (by omega) rfl T3 rfl rfl rfl ?_
    rintro p3 q6 h21
    obtain rfl : p3 = [.lit (.int .i64 (rd x5_1 ((rd_ITerm l0 x13_1).f2)))] := h21
    refine ⟨.lit (.int .i64 (rd x5_1 ((rd_ITerm l0 x13_1).f2))), rfl, ?_⟩
    refine Opl.p1 (n := Opl.p1 (v := .ptr i1 3) (n := Opl.ldb (v := .lit (.int .i64 ((rd_ITerm l0 x13_1).f3))) h6 rfl T3 rfl rfl rfl rfl (Opl.idv (M := (cInt .i64)) (xs := x5_1) (j := ((rd_ITerm l0 x13_1).f3)) (v := pv2) h7 rfl rfl (by omega) (by omega) K27 Z3 rfl rfl ?_)))
    rintro d4 z4 q7 h22 h23
    refine Opl.ldv (M := (cInt .i64)) (xs := x5_1) (j := ((rd_ITerm l0 x13_1).f3)) (0 : Int) h22 h23 (by omega) (by omega) rfl T3 rfl rfl rfl ?_
    rintro p4 q8 h24
    obtain rfl : p4 = [.lit (.int .i64 (rd x5_1 ((rd_ITerm l0 x13_1).f3)))] := h24
    refine ⟨.lit (.int .i64 (rd x5_1 ((rd_ITerm l0 x13_1).f3))), rfl, ?_⟩
    obtain ⟨t1103, h_t1103, H⟩ := obs H
    refine Opl.callc (impl_do.ev h_t1103) rfl rfl rfl rfl ⟨(.lit _), (.lit _), (.lit _), trivial⟩ (by decide) ?_
    obtain ⟨c16, H⟩ := peel H
    refine Opl.idv (M := (cInt .i64)) (xs := x5_1) (j := x13_1) (v := pv2) h7 rfl rfl (by omega) (by omega) K27 Z3 rfl rfl ?_
    rintro d5 z5 q9 h25 h26
    refine Opl.stv (M := (cInt .i64)) (xs := x5_1) (j := x13_1) (y := t1103) (vs := [.lit (.int .i64 t1103)]) h25 h26 (by omega) (by omega) rfl rfl (by exact rfl) Z3 rfl rfl rfl rfl ?_
    rw [← q9]
    rintro S h27 u6
    have h28 := u6.box h6 ap1.symm
    refine Opl.nil ?_
    exact hk2 _ _ ⟨_, _, _, H, by omega, ⟨rfl, rfl, rfl, rfl, rfl, trivial⟩, h27⟩
theorem impl_inRange.ev {k : Nat} {l0_0 : List IVar} {v0_0 : PV} (hv0_0 : Sl cIVar l0_0 v0_0) {l0_1 : List IRule} {v0_1 : PV} (hv0_1 : Sl cIRule l0_1 v0_1) {l1 : List Int} {v1 : PV} (hv1 : Sl (cInt .i64) l1 v1) {r : Bool} (H : impl_inRange.f k l0_0 l0_1 l1 = some r) : Ret Try.prog 101 [.agg [v0_0, v0_1], v1] fun v S => v = .lit (.bool r) := by
 unfold impl_inRange.f at H
 refine Ret.intro Try.func101 rfl (Nat.le_of_ble_eq_true rfl) rfl ?_
 rw [tm2]
 refine Evr.sr rfl (Opl.box (cs := [v0_0, v0_1]) rfl rfl rfl rfl ?_)
 rintro i1 S h1 u1 w1
 refine Opl.p1 (n := Opl.nil (Evr.seq (Evr.sr rfl (Opl.p1 (n := Opl.len (xs := l1) (by exact hv1) K27 rfl rfl rfl rfl (Opl.p1 (v := .ptr i1 0) (n := Opl.ldb (v := v0_0) h1 rfl T23 rfl rfl rfl rfl (Opl.len (xs := l0_0) (by exact hv0_0) K23 rfl rfl rfl rfl (Opl.p1 (n := Opl.nil ?_))))))))))
 by_cases c1 : (l1.length : Int) = (l0_0.length : Int)
 case neg =>
  rw [if_neg c1] at H
  have e6 : ((l1.length : Int) != (l0_0.length : Int)) = true := by simpa using c1
  try rw [e6]
  refine Evr.condT rfl (Evr.sr rfl (Opl.p1 (n := Opl.nil ?_)))
  obtain rfl := sinj H
  refine Evr.ret1 Try.func101 rfl ?_
  show (.lit (.bool false) : PV) = _
  first | rfl | (simp only [go_sem]; rfl)
 rw [if_pos c1] at H
 have e1 : ((l1.length : Int) != (l0_0.length : Int)) = false := by simpa using c1
 try rw [e1]
 refine Evr.condF rfl (Evr.skip (Evr.seq (Evr.sr rfl (Opl.p1 (v := .ptr i1 0) (n := Opl.ldb (v := v0_0) h1 rfl T23 rfl rfl rfl rfl (Opl.len (xs := l0_0) (by exact hv0_0) K23 rfl rfl rfl rfl (Opl.p1 (n := Opl.nil (Evr.block ?_)))))))))
 refine Evr.loop (Evr.rounds (n := k) (Inv := fun n tm S => n ≤ k ∧ ∃ (x16_1 : Int), impl_inRange.l0 n l1 l0_0 (l0_0.length : Int) x16_1 = some r ∧ Has tm [(1, v1), (14, v0_0), (15, .lit (.int .i64 (l0_0.length : Int))), (16, .lit (.int .i64 x16_1))]) ?_ ?_ ?_)
 · exact ⟨Nat.le_refl _, _, H, ⟨rfl, rfl, rfl, rfl, trivial⟩⟩
 ·
  rintro tm S ⟨_, _, H, -⟩
  simp [impl_inRange.l0] at H
 ·
  rintro n1 ih1 tm S ⟨hle, x16_1, H, hh⟩
  simp only [impl_inRange.l0] at H
  rw [hh.eq]
  refine Evr.sr rfl (Opl.p1 (n := Opl.nil (Evr.seq ?_)))
  by_cases c2 : x16_1 < (l0_0.length : Int)
  case neg =>
   rw [if_neg c2] at H
   have e5 : (decide (x16_1 < (l0_0.length : Int))) = false := by simpa using c2
   try rw [e5]
   refine Evr.condF rfl (Evr.exit rfl (Evr.sr rfl (Opl.p1 (n := Opl.nil ?_))))
   obtain rfl := sinj H
   refine Evr.ret1 Try.func101 rfl ?_
   show (.lit (.bool true) : PV) = _
   first | rfl | (simp only [go_sem]; rfl)
  rw [if_pos c2] at H
  have e2 : (decide (x16_1 < (l0_0.length : Int))) = true := by simpa using c2
  try rw [e2]
  refine Evr.condT rfl (Evr.skip (Evr.seq (Evr.block (Evr.sr rfl (Opl.p1 (n := ?_))))))
  obtain ⟨c3, H⟩ := peel H
  obtain ⟨c4, H⟩ := peel H
  obtain ⟨c5, H⟩ := peel H
  refine Opl.idx (M := cIVar) (xs := l0_0) (j := x16_1) zIVar (by exact hv0_0) rfl (by omega) (by omega) K23 Z101 rfl rfl ?_
  rintro p1 q1 h2
  obtain rfl := cIVar_R (x := (rd_IVar l0_0 x16_1)) h2
  refine Opl.lda (.agg [.lit (.int .i64 ((rd_IVar l0_0 x16_1).f0)), .lit (.int .i64 ((rd_IVar l0_0 x16_1).f1)), .lit (.int .i64 ((rd_IVar l0_0 x16_1).f2))]) rfl T101 rfl rfl rfl rfl (Opl.alloc T101 rfl rfl rfl ?_)
  rintro i2 S h3 u2 w2
  refine Opl.p1 (n := Opl.stb (vs := [.lit (.int .i64 ((rd_IVar l0_0 x16_1).f0)), .lit (.int .i64 ((rd_IVar l0_0 x16_1).f1)), .lit (.int .i64 ((rd_IVar l0_0 x16_1).f2))]) h3 rfl rfl Z101 rfl (Nat.le_of_ble_eq_true rfl) rfl rfl rfl rfl ?_)
  rintro S (h4 : Box (.ptr i2 0) [.lit (.int .i64 ((rd_IVar l0_0 x16_1).f0)), .lit (.int .i64 ((rd_IVar l0_0 x16_1).f1)), .lit (.int .i64 ((rd_IVar l0_0 x16_1).f2))] _) u3
  refine Opl.nil (Evr.seq (Evr.regionD rfl (by kernel_rfl) (Opl.p1 (n := Opl.p1 (n := Opl.idx (M := (cInt .i64)) (xs := l1) (j := x16_1) (0 : Int) (by exact hv1) rfl (by omega) (by omega) K27 Z3 rfl rfl ?_)))))
  rintro p2 q2 h5
  obtain rfl : p2 = [.lit (.int .i64 (rd l1 x16_1))] := h5
  refine Opl.lda (.lit (.int .i64 (rd l1 x16_1))) rfl T3 rfl rfl rfl rfl (Opl.p1 (v := .ptr i2 0) (n := Opl.ldb (v := .lit (.int .i64 ((rd_IVar l0_0 x16_1).f0))) h4 rfl T3 rfl rfl rfl rfl (Opl.p1 (v := .ptr i2 1) (n := Opl.ldb (v := .lit (.int .i64 ((rd_IVar l0_0 x16_1).f1))) h4 rfl T3 rfl rfl rfl rfl ?_))))
  obtain ⟨t1086, h_t1086, H⟩ := obs H
  refine Opl.callc (impl_in.ev h_t1086) rfl rfl rfl rfl ⟨(.lit _), (.lit _), (.lit _), trivial⟩ (by decide) (Opl.p1 (n := Opl.nil ?_))
  by_cases c6 : t1086 = true
  case neg =>
   rw [if_neg c6] at H
   have e4 : (!t1086) = true := by simpa using c6
   try rw [e4]
   refine Evr.condT rfl (Evr.sr rfl (Opl.p1 (n := Opl.nil ?_)))
   obtain rfl := sinj H
   refine Evr.ret1 Try.func101 rfl ?_
   show (.lit (.bool false) : PV) = _
   first | rfl | (simp only [go_sem]; rfl)
  rw [if_pos c6] at H
  have e3 : (!t1086) = false := by simpa using c6
  try rw [e3]
  refine Evr.condF rfl (Evr.skip (Evr.inBlock (Evr.regionN rfl (Opl.add (k := .i64) (a := x16_1) (b := 1) K3 rfl rfl rfl rfl (Opl.one (v := .lit (.int .i64 (wrap64 (x16_1 + 1)))) rfl rfl rfl (Opl.nil ?_))))))
  exact ih1 _ (by omega) _ _ ⟨by omega, _, H, ⟨rfl, rfl, rfl, rfl, trivial⟩⟩
theorem impl_use.ev {k : Nat} {l0_0 : List IVar} {v0_0 : PV} (hv0_0 : Sl cIVar l0_0 v0_0) {l0_1 : List IRule} {v0_1 : PV} (hv0_1 : Sl cIRule l0_1 v0_1) {l1 : List Int} {v1 : PV} (hv1 : Sl (cInt .i64) l1 v1) {a2 : Int} {r : (List Int) × Bool} (H : impl_use.f k l0_0 l0_1 l1 a2 = some r) : Ret Try.prog 87 [.agg [v0_0, v0_1], v1, .lit (.int .i64 a2)] fun v S => Out (fun q => ∃ q1 q2, q = .tup [q1, q2] ∧ Sl (cInt .i64) r.1 q1 ∧ q2 = .lit (.bool r.2)) v S := by
 unfold impl_use.f at H
 refine Ret.intro Try.func87 rfl (Nat.le_of_ble_eq_true rfl) rfl ?_
 rw [tm3]
 refine Evr.sr rfl (Opl.box (cs := [v0_0, v0_1]) rfl rfl rfl rfl ?_)
 rintro i1 S h1 u1 w1
 refine Opl.p1 (n := Opl.p1 (n := Opl.nil (Evr.sr rfl (Opl.p1 (v := .ptr i1 1) (n := Opl.ldb (v := v0_1) h1 rfl T24 rfl rfl rfl rfl (Opl.p1 (n := ?_)))))))
 obtain ⟨c1, H⟩ := peel H
 obtain ⟨c2, H⟩ := peel H
 refine Opl.idx (M := cIRule) (xs := l0_1) (j := a2) zIRule (by exact hv0_1) rfl (by omega) (by omega) K24 Z106 rfl rfl ?_
 rintro p1 q1 h2
 obtain ⟨pv1, pv2, pv3, rfl, h3, h4, h5⟩ := cIRule_R (x := (rd_IRule l0_1 a2)) h2
 refine Opl.lda (.agg [pv1, pv2, pv3]) rfl T106 rfl rfl rfl rfl (Opl.alloc T106 rfl rfl rfl ?_)
 rintro i2 S h6 u2 w2
 have ap1 := w2.box h1
 have h7 := u2.box h1 ap1
 refine Opl.stb (vs := [pv1, pv2, pv3]) h6 rfl rfl Z106 rfl (Nat.le_of_ble_eq_true rfl) (by simp only [List.all_cons, List.all_nil, h3.one, h4.one, h5.one, Bool.and_true, Bool.true_and] <;> rfl) rfl rfl rfl ?_
 rintro S (h8 : Box (.ptr i2 0) [pv1, pv2, pv3] _) u3
 have h9 := u3.box h7 ap1
 refine Opl.nil (Evr.seq (Evr.sr rfl (Opl.p1 (v := .ptr i2 0) (n := Opl.ldb (v := pv1) h8 rfl T66 rfl rfl rfl rfl (Opl.p1 (n := ?_))))))
 obtain ⟨t1108, h_t1108, H⟩ := obs H
 refine Opl.callc (impl_eval.ev h3 hv1 h_t1108) rfl rfl rfl rfl ⟨h3.plain, hv1.plain, trivial⟩ (by decide) (Opl.p1 (n := Opl.nil ?_))
 by_cases c3 : t1108 = 0
 case pos =>
  rw [if_pos c3] at H
  have e1 : (t1108 == 0) = true := by simpa using c3
  try rw [e1]
  refine Evr.condT rfl (Evr.sr rfl (Opl.p1 (n := Opl.p1 (n := Opl.nil ?_))))
  obtain rfl := sinj H
  refine Evr.ret2 Try.func87 rfl ?_
  show Out _ (.tup [.lit (.slice none 0 0), .lit (.bool false)]) _
  exact .tup2 (.sl .nil) .lit
 rw [if_neg c3] at H
 have e2 : (t1108 == 0) = false := by simpa using c3
 try rw [e2]
 refine Evr.condF rfl (Evr.skip (Evr.sr rfl (Opl.p1 (n := ?_))))
 obtain ⟨t1109, h_t1109, H⟩ := obs H
 refine Opl.calla (impl_clone_int.ev hv1 h_t1109) rfl rfl rfl rfl ⟨hv1.plain, trivial⟩ rfl ?_
 rintro pv4 S h10 u4 w4
 have ap2 := w4.box h9
 have h11 := u4.box h9 ap2
 have ap3 := w4.box h8
 have h12 := u4.box h8 ap3
 refine Opl.p1 (n := Opl.nil (Evr.seq (Evr.sr rfl (Opl.p1 (v := .ptr i2 1) (n := Opl.ldb (v := pv2) h12 rfl T27 rfl rfl rfl rfl (Opl.len (xs := ((rd_IRule l0_1 a2).f1)) (by exact h4) K27 rfl rfl rfl rfl (Opl.p1 (n := Opl.nil (Evr.block ?_)))))))))
 refine Evr.loop (Evr.rounds (n := k) (Inv := fun n tm S => n ≤ k ∧ ∃ (x9_1 : List Int) (x27_1 : Int) (i3 : Abs.Id) (i4 : Abs.Id) (pv5 : PV), impl_use.l0 n l1 x9_1 ((rd_IRule l0_1 a2).f1) (((rd_IRule l0_1 a2).f1).length : Int) x27_1 l0_0 l0_1 ((rd_IRule l0_1 a2).f0) ((rd_IRule l0_1 a2).f1) ((rd_IRule l0_1 a2).f2) = some r ∧ Has tm [(1, v1), (3, .ptr i3 0), (8, .ptr i4 0), (9, pv5), (25, pv2), (26, .lit (.int .i64 (((rd_IRule l0_1 a2).f1).length : Int))), (27, .lit (.int .i64 x27_1))] ∧ Box (.ptr i3 0) [v0_0, v0_1] S ∧ Box (.ptr i4 0) [pv1, pv2, pv3] S ∧ Vec (cInt .i64) x9_1 pv5 S ∧ Ap (.ptr i3 0) (.ptr i4 0) ∧ Ap (.ptr i3 0) pv5 ∧ Ap (.ptr i4 0) pv5) ?_ ?_ ?_)
 · exact ⟨Nat.le_refl _, _, _, _, _, _, H, ⟨rfl, rfl, rfl, rfl, rfl, rfl, rfl, trivial⟩, h11, h12, h10, ap1, ap2, ap3⟩
 ·
  rintro tm S ⟨_, _, _, _, _, _, H, -⟩
  simp [impl_use.l0] at H
 ·
  rintro n1 ih1 tm S ⟨hle, x9_1, x27_1, i3, i4, pv5, H, hh, h13, h14, h15, ap4, ap5, ap6⟩
  simp only [impl_use.l0] at H
  rw [hh.eq]
  refine Evr.sr rfl (Opl.p1 (n := Opl.nil (Evr.seq ?_)))
  by_cases c4 : x27_1 < (((rd_IRule l0_1 a2).f1).length : Int)
  case neg =>
   rw [if_neg c4] at H
   have e4 : (decide (x27_1 < (((rd_IRule l0_1 a2).f1).length : Int))) = false := by simpa using c4
   try rw [e4]
   refine Evr.condF rfl (Evr.exit rfl (Evr.seq (Evr.sr rfl (Opl.ldb (v := .agg [v0_0, v0_1]) h13 rfl T26 rfl rfl rfl rfl (Opl.p1 (n := ?_))))))
   obtain ⟨t1116, h_t1116, H⟩ := obs H
   obtain ⟨pv7, h24, -, h25⟩ := Out.vec h15
   refine Opl.callw (impl_inRange.ev hv0_0 hv0_1 h25 h_t1116) rfl rfl rfl (.cons (.refl _) (.cons h24 .nil)) ⟨(.aggL ⟨hv0_0.plain, hv0_1.plain, trivial⟩), h25.plain, trivial⟩ (by decide) (Opl.p1 (n := Opl.nil ?_))
   by_cases c10 : t1116 = true
   case neg =>
    rw [if_neg c10] at H
    have e6 : (!t1116) = true := by simpa using c10
    try rw [e6]
    refine Evr.condT rfl (Evr.sr rfl (Opl.p1 (n := Opl.p1 (n := Opl.nil ?_))))
    obtain rfl := sinj H
    refine Evr.ret2 Try.func87 rfl ?_
    show Out _ (.tup [.lit (.slice none 0 0), .lit (.bool false)]) _
    exact .tup2 (.sl .nil) .lit
   rw [if_pos c10] at H
   have e5 : (!t1116) = false := by simpa using c10
   try rw [e5]
   refine Evr.condF rfl (Evr.skip (Evr.sr rfl (Opl.p1 (n := Opl.p1 (n := Opl.p1 (n := Opl.nil ?_))))))
   obtain rfl := sinj H
   refine Evr.ret2 Try.func87 rfl ?_
   show Out _ (.tup [pv5, .lit (.bool true)]) _
   exact .tup2 (.vec h15) .lit
  rw [if_pos c4] at H
  have e3 : (decide (x27_1 < (((rd_IRule l0_1 a2).f1).length : Int))) = true := by simpa using c4
  try rw [e3]
  refine Evr.condT rfl (Evr.skip (Evr.seq (Evr.block (Evr.sr rfl (Opl.p1 (n := ?_))))))
  obtain ⟨c5, H⟩ := peel H
  obtain ⟨c6, H⟩ := peel H
  obtain ⟨c7, H⟩ := peel H
  refine Opl.idx (M := (cInt .i64)) (xs := ((rd_IRule l0_1 a2).f1)) (j := x27_1) (0 : Int) (by exact h4) rfl (by omega) (by omega) K27 Z3 rfl rfl ?_
  rintro p2 q2 h16
  obtain rfl : p2 = [.lit (.int .i64 (rd ((rd_IRule l0_1 a2).f1) x27_1))] := h16
  refine Opl.lda (.lit (.int .i64 (rd ((rd_IRule l0_1 a2).f1) x27_1))) rfl T3 rfl rfl rfl rfl (Opl.p1 (n := Opl.p1 (n := Opl.nil (Evr.regionN rfl (Opl.p1 (n := Opl.p1 (n := Opl.p1 (v := .ptr i4 2) (n := Opl.ldb (v := pv3) h14 rfl T104 rfl rfl rfl rfl (Opl.p1 (n := Opl.idx (M := (cSl cITerm)) (xs := ((rd_IRule l0_1 a2).f2)) (j := x27_1) ([] : List ITerm) (by exact h5) rfl (by omega) (by omega) K104 Z66 rfl rfl ?_))))))))))
  rintro p3 q3 h17
  obtain ⟨pv6, rfl, h18⟩ := h17
  refine Opl.lda (pv6) rfl T66 rfl rfl rfl rfl (Opl.p1 (n := ?_))
  obtain ⟨t1114, h_t1114, H⟩ := obs H
  refine Opl.callc (impl_eval.ev h18 hv1 h_t1114) rfl rfl rfl rfl ⟨h18.plain, hv1.plain, trivial⟩ (by decide) ?_
  obtain ⟨c8, H⟩ := peel H
  obtain ⟨c9, H⟩ := peel H
  refine Opl.idv (M := (cInt .i64)) (xs := x9_1) (j := (rd ((rd_IRule l0_1 a2).f1) x27_1)) (v := pv5) h15 rfl rfl (by omega) (by omega) K27 Z3 rfl rfl ?_
  rintro d1 z1 q4 h19 h20
  refine Opl.stv (M := (cInt .i64)) (xs := x9_1) (j := (rd ((rd_IRule l0_1 a2).f1) x27_1)) (y := t1114) (vs := [.lit (.int .i64 t1114)]) h19 h20 (by omega) (by omega) rfl rfl (by exact rfl) Z3 rfl rfl rfl rfl ?_
  rw [← q4]
  rintro S h21 u5
  have h22 := u5.box h13 ap5
  have h23 := u5.box h14 ap6
  refine Opl.nil (Evr.inBlock (Evr.regionN rfl (Opl.add (k := .i64) (a := x27_1) (b := 1) K3 rfl rfl rfl rfl (Opl.one (v := .lit (.int .i64 (wrap64 (x27_1 + 1)))) rfl rfl rfl (Opl.nil ?_)))))
  exact ih1 _ (by omega) _ _ ⟨by omega, _, _, _, _, _, H, ⟨rfl, rfl, rfl, rfl, rfl, rfl, rfl, trivial⟩, h22, h23, h21, ap4, ap5, ap6⟩
theorem slices_Equal_int_int.ev {k : Nat} {l0 : List Int} {v0 : PV} (hv0 : Sl (cInt .i64) l0 v0) {l1 : List Int} {v1 : PV} (hv1 : Sl (cInt .i64) l1 v1) {r : Bool} (H : slices_Equal_int_int.f k l0 l1 = some r) : Ret Try.prog 82 [v0, v1] fun v S => v = .lit (.bool r) := by
 unfold slices_Equal_int_int.f at H
 refine Ret.intro Try.func82 rfl (Nat.le_of_ble_eq_true rfl) rfl ?_
 rw [tm2]
 refine Evr.sr rfl (Opl.p1 (n := Opl.nil (Evr.seq (Evr.sr rfl (Opl.p1 (n := Opl.len (xs := l0) (by exact hv0) K27 rfl rfl rfl rfl (Opl.p1 (n := Opl.len (xs := l1) (by exact hv1) K27 rfl rfl rfl rfl (Opl.p1 (n := Opl.nil ?_))))))))))
 by_cases c1 : (l0.length : Int) = (l1.length : Int)
 case neg =>
  rw [if_neg c1] at H
  have e6 : ((l0.length : Int) != (l1.length : Int)) = true := by simpa using c1
  try rw [e6]
  refine Evr.condT rfl (Evr.sr rfl (Opl.p1 (n := Opl.nil ?_)))
  obtain rfl := sinj H
  refine Evr.ret1 Try.func82 rfl ?_
  show (.lit (.bool false) : PV) = _
  first | rfl | (simp only [go_sem]; rfl)
 rw [if_pos c1] at H
 have e1 : ((l0.length : Int) != (l1.length : Int)) = false := by simpa using c1
 try rw [e1]
 refine Evr.condF rfl (Evr.skip (Evr.seq (Evr.sr rfl (Opl.p1 (n := Opl.len (xs := l0) (by exact hv0) K27 rfl rfl rfl rfl (Opl.p1 (n := Opl.nil (Evr.block ?_))))))))
 refine Evr.loop (Evr.rounds (n := k) (Inv := fun n tm S => n ≤ k ∧ ∃ (x13_1 : Int), slices_Equal_int_int.l0 n l0 l1 (l0.length : Int) x13_1 = some r ∧ Has tm [(0, v0), (1, v1), (12, .lit (.int .i64 (l0.length : Int))), (13, .lit (.int .i64 x13_1))]) ?_ ?_ ?_)
 · exact ⟨Nat.le_refl _, _, H, ⟨rfl, rfl, rfl, rfl, trivial⟩⟩
 ·
  rintro tm S ⟨_, _, H, -⟩
  simp [slices_Equal_int_int.l0] at H
 ·
  rintro n1 ih1 tm S ⟨hle, x13_1, H, hh⟩
  simp only [slices_Equal_int_int.l0] at H
  rw [hh.eq]
  refine Evr.sr rfl (Opl.p1 (n := Opl.nil (Evr.seq ?_)))
  by_cases c2 : x13_1 < (l0.length : Int)
  case neg =>
   rw [if_neg c2] at H
   have e5 : (decide (x13_1 < (l0.length : Int))) = false := by simpa using c2
   try rw [e5]
   refine Evr.condF rfl (Evr.exit rfl (Evr.sr rfl (Opl.p1 (n := Opl.nil ?_))))
   obtain rfl := sinj H
   refine Evr.ret1 Try.func82 rfl ?_
   show (.lit (.bool true) : PV) = _
   first | rfl | (simp only [go_sem]; rfl)
  rw [if_pos c2] at H
  have e2 : (decide (x13_1 < (l0.length : Int))) = true := by simpa using c2
  try rw [e2]
  refine Evr.condT rfl (Evr.skip (Evr.seq (Evr.block (Evr.sr rfl (Opl.p1 (n := Opl.p1 (n := Opl.nil (Evr.seq (Evr.regionD rfl (by kernel_rfl) (Opl.p1 (n := Opl.p1 (n := ?_))))))))))))
  obtain ⟨c3, H⟩ := peel H
  obtain ⟨c4, H⟩ := peel H
  obtain ⟨c5, H⟩ := peel H
  refine Opl.idx (M := (cInt .i64)) (xs := l0) (j := x13_1) (0 : Int) (by exact hv0) rfl (by omega) (by omega) K27 Z3 rfl rfl ?_
  rintro p1 q1 h1
  obtain rfl : p1 = [.lit (.int .i64 (rd l0 x13_1))] := h1
  refine Opl.lda (.lit (.int .i64 (rd l0 x13_1))) rfl T3 rfl rfl rfl rfl (Opl.p1 (n := Opl.p1 (n := Opl.idx (M := (cInt .i64)) (xs := l1) (j := x13_1) (0 : Int) (by exact hv1) rfl (by omega) (by omega) K27 Z3 rfl rfl ?_)))
  rintro p2 q2 h2
  obtain rfl : p2 = [.lit (.int .i64 (rd l1 x13_1))] := h2
  refine Opl.lda (.lit (.int .i64 (rd l1 x13_1))) rfl T3 rfl rfl rfl rfl (Opl.p1 (n := Opl.nil ?_))
  by_cases c6 : (rd l0 x13_1) = (rd l1 x13_1)
  case neg =>
   rw [if_neg c6] at H
   have e4 : ((rd l0 x13_1) != (rd l1 x13_1)) = true := by simpa using c6
   try rw [e4]
   refine Evr.condT rfl (Evr.sr rfl (Opl.p1 (n := Opl.nil ?_)))
   obtain rfl := sinj H
   refine Evr.ret1 Try.func82 rfl ?_
   show (.lit (.bool false) : PV) = _
   first | rfl | (simp only [go_sem]; rfl)
  rw [if_pos c6] at H
  have e3 : ((rd l0 x13_1) != (rd l1 x13_1)) = false := by simpa using c6
  try rw [e3]
  refine Evr.condF rfl (Evr.skip (Evr.inBlock (Evr.regionN rfl (Opl.add (k := .i64) (a := x13_1) (b := 1) K3 rfl rfl rfl rfl (Opl.one (v := .lit (.int .i64 (wrap64 (x13_1 + 1)))) rfl rfl rfl (Opl.nil ?_))))))
  exact ih1 _ (by omega) _ _ ⟨by omega, _, H, ⟨rfl, rfl, rfl, rfl, trivial⟩⟩
theorem impl_TraceValid.ev {k : Nat} {l0_0 : List IVar} {v0_0 : PV} (hv0_0 : Sl cIVar l0_0 v0_0) {l0_1 : List IRule} {v0_1 : PV} (hv0_1 : Sl cIRule l0_1 v0_1) {l1_0 : List (List Int)} {v1_0 : PV} (hv1_0 : Sl (cSl (cInt .i64)) l1_0 v1_0) {l1_1 : List Int} {v1_1 : PV} (hv1_1 : Sl (cInt .i64) l1_1 v1_1) {r : Bool} (H : impl_TraceValid.f k l0_0 l0_1 l1_0 l1_1 = some r) : Ret Try.prog 25 [.agg [v0_0, v0_1], .agg [v1_0, v1_1]] fun v S => v = .lit (.bool r) := by
 unfold impl_TraceValid.f at H
 refine Ret.intro Try.func25 rfl (Nat.le_of_ble_eq_true rfl) rfl ?_
 rw [tm2]
 refine Evr.sr rfl (Opl.box (cs := [v0_0, v0_1]) rfl rfl rfl rfl ?_)
 rintro i1 S h1 u1 w1
 refine Opl.box (cs := [v1_0, v1_1]) rfl rfl rfl rfl ?_
 rintro i2 S h2 u2 w2
 have ap1 := w2.box h1
 have h3 := u2.box h1 ap1
 refine Opl.p1 (n := Opl.nil (Evr.seq (Evr.seq ?_)))
 refine Evr.join (fun tm S => ∃ (kq1 : Nat) (x38_1 : Bool) (i3 : Abs.Id) (i4 : Abs.Id), impl_TraceValid.j0 kq1 x38_1 l0_0 l0_1 l1_0 l1_1 = some r ∧ Has tm [(2, .ptr i3 0), (3, .ptr i4 0), (38, .lit (.bool x38_1))] ∧ Box (.ptr i3 0) [v0_0, v0_1] S ∧ Box (.ptr i4 0) [v1_0, v1_1] S ∧ Ap (.ptr i3 0) (.ptr i4 0)) ?_ fun hk1 => ?_
 ·
  rintro tm S ⟨kq1, x38_1, i3, i4, H, hh, h4, h5, ap2⟩
  rw [hh.eq]
  obtain _ | k1 := kq1
  · simp [impl_TraceValid.j0] at H
  simp only [impl_TraceValid.j0] at H
  by_cases c1 : x38_1 = true
  case pos =>
   rw [if_pos c1] at H
   obtain rfl : x38_1 = true := by simpa using c1
   refine Evr.condT rfl (Evr.sr rfl (Opl.p1 (n := Opl.nil ?_)))
   obtain rfl := sinj H
   refine Evr.ret1 Try.func25 rfl ?_
   show (.lit (.bool false) : PV) = _
   first | rfl | (simp only [go_sem]; rfl)
  rw [if_neg c1] at H
  obtain rfl : x38_1 = false := by simpa using c1
  refine Evr.condF rfl (Evr.skip (Evr.seq (Evr.sr rfl (Opl.p1 (v := .ptr i4 1) (n := Opl.ldb (v := v1_1) h5 rfl T27 rfl rfl rfl rfl (Opl.len (xs := l1_1) (by exact hv1_1) K27 rfl rfl rfl rfl (Opl.p1 (n := Opl.nil (Evr.block ?_)))))))))
  refine Evr.loop (Evr.rounds (n := k1) (Inv := fun n tm S => n ≤ k1 ∧ ∃ (x42_1 : Int) (i5 : Abs.Id) (i6 : Abs.Id), impl_TraceValid.l0 n l1_1 (l1_1.length : Int) x42_1 l0_0 l0_1 l1_0 l1_1 = some r ∧ Has tm [(2, .ptr i5 0), (3, .ptr i6 0), (40, v1_1), (41, .lit (.int .i64 (l1_1.length : Int))), (42, .lit (.int .i64 x42_1))] ∧ Box (.ptr i5 0) [v0_0, v0_1] S ∧ Box (.ptr i6 0) [v1_0, v1_1] S ∧ Ap (.ptr i5 0) (.ptr i6 0)) ?_ ?_ ?_)
  · exact ⟨Nat.le_refl _, _, _, _, H, ⟨rfl, rfl, rfl, rfl, rfl, trivial⟩, h4, h5, ap2⟩
  ·
   rintro tm S ⟨_, _, _, _, H, -⟩
   simp [impl_TraceValid.l0] at H
  ·
   rintro n1 ih1 tm S ⟨hle, x42_1, i5, i6, H, hh, h6, h7, ap3⟩
   simp only [impl_TraceValid.l0] at H
   rw [hh.eq]
   refine Evr.sr rfl (Opl.p1 (n := Opl.nil (Evr.seq ?_)))
   by_cases c2 : x42_1 < (l1_1.length : Int)
   case neg =>
    rw [if_neg c2] at H
    have e8 : (decide (x42_1 < (l1_1.length : Int))) = false := by simpa using c2
    try rw [e8]
    refine Evr.condF rfl (Evr.exit rfl (Evr.sr rfl (Opl.p1 (n := Opl.nil ?_))))
    obtain rfl := sinj H
    refine Evr.ret1 Try.func25 rfl ?_
    show (.lit (.bool true) : PV) = _
    first | rfl | (simp only [go_sem]; rfl)
   rw [if_pos c2] at H
   have e1 : (decide (x42_1 < (l1_1.length : Int))) = true := by simpa using c2
   try rw [e1]
   refine Evr.condT rfl (Evr.skip (Evr.seq (Evr.block (Evr.sr rfl (Opl.p1 (n := ?_))))))
   obtain ⟨c3, H⟩ := peel H
   obtain ⟨c4, H⟩ := peel H
   refine Opl.idx (M := (cInt .i64)) (xs := l1_1) (j := x42_1) (0 : Int) (by exact hv1_1) rfl (by omega) (by omega) K27 Z3 rfl rfl ?_
   rintro p1 q1 h8
   obtain rfl : p1 = [.lit (.int .i64 (rd l1_1 x42_1))] := h8
   refine Opl.lda (.lit (.int .i64 (rd l1_1 x42_1))) rfl T3 rfl rfl rfl rfl (Opl.p1 (n := Opl.p1 (n := Opl.nil (Evr.seq (Evr.sr rfl (Opl.p1 (n := Opl.p1 (v := .ptr i5 1) (n := Opl.ldb (v := v0_1) h6 rfl T24 rfl rfl rfl rfl (Opl.len (xs := l0_1) (by exact hv0_1) K24 rfl rfl rfl rfl (Opl.subi (k := .i64) (a := (l0_1.length : Int)) (b := 1) K3 rfl rfl rfl rfl ?_))))))))))
   obtain ⟨t1127, h_t1127, H⟩ := obs H
   refine Opl.callc (impl_in.ev h_t1127) rfl rfl rfl rfl ⟨(.lit _), (.lit _), (.lit _), trivial⟩ (by decide) (Opl.p1 (n := Opl.nil ?_))
   by_cases c5 : t1127 = true
   case neg =>
    rw [if_neg c5] at H
    have e7 : (!t1127) = true := by simpa using c5
    try rw [e7]
    refine Evr.condT rfl (Evr.sr rfl (Opl.one (v := .lit (.bool false)) rfl rfl rfl (Opl.nil ?_)))
    obtain rfl := sinj H
    refine Evr.ret1 Try.func25 rfl ?_
    show (.lit (.bool false) : PV) = _
    first | rfl | (simp only [go_sem]; rfl)
   rw [if_pos c5] at H
   have e2 : (!t1127) = false := by simpa using c5
   try rw [e2]
   refine Evr.condF rfl (Evr.skip (Evr.seq (Evr.regionD rfl (by kernel_rfl) (Opl.ldb (v := .agg [v0_0, v0_1]) h6 rfl T26 rfl rfl rfl rfl (Opl.p1 (v := .ptr i6 0) (n := Opl.ldb (v := v1_0) h7 rfl T30 rfl rfl rfl rfl (Opl.one (v := .lit (.int .i64 x42_1)) rfl rfl rfl ?_)))))))
   obtain ⟨c6, H⟩ := peel H
   refine Opl.idx (M := (cSl (cInt .i64))) (xs := l1_0) (j := x42_1) ([] : List Int) (by exact hv1_0) rfl (by omega) (by omega) K30 Z27 rfl rfl ?_
   rintro p2 q2 h9
   obtain ⟨pv1, rfl, h10⟩ := h9
   refine Opl.lda (pv1) rfl T27 rfl rfl rfl rfl (Opl.one (v := .lit (.int .i64 (rd l1_1 x42_1))) rfl rfl rfl ?_)
   obtain ⟨bt1129, h_bt1129, H⟩ := obs H
   refine Opl.call (impl_use.ev hv0_0 hv0_1 h10 h_bt1129) rfl rfl rfl rfl ⟨(.aggL ⟨hv0_0.plain, hv0_1.plain, trivial⟩), h10.plain, (.lit _), trivial⟩ (by decide) ?_
   rintro _ ⟨pv3, _, rfl, h12, rfl⟩
   refine Opl.p1 (n := Opl.p1 (v := pv3) (n := Opl.p1 (v := .lit (.bool bt1129.2)) (n := Opl.one (v := pv3) rfl rfl rfl (Opl.one (v := .lit (.bool bt1129.2)) rfl rfl rfl (Opl.nil (Evr.sr rfl (Opl.one (v := .lit (.bool bt1129.2)) rfl rfl rfl (Opl.p1 (n := Opl.one (v := .lit (.bool (!bt1129.2))) rfl rfl rfl ?_)))))))))
   by_cases c7 : bt1129.2 = true
   case neg =>
    rw [if_neg c7] at H
    have e6 : (!bt1129.2) = true := by simpa using c7
    try rw [e6]
    refine Opl.sk8 rfl rfl rfl rfl rfl rfl rfl rfl (Opl.skp rfl (Opl.p1 (n := Opl.nil (Evr.condT rfl (Evr.sr rfl (Opl.one (v := .lit (.bool false)) rfl rfl rfl (Opl.nil ?_)))))))
    obtain rfl := sinj H
    refine Evr.ret1 Try.func25 rfl ?_
    show (.lit (.bool false) : PV) = _
    first | rfl | (simp only [go_sem]; rfl)
   rw [if_pos c7] at H
   have e3 : (!bt1129.2) = false := by simpa using c7
   try rw [e3]
   refine Opl.one (v := pv3) rfl rfl rfl (Opl.p1 (v := .ptr i6 0) (n := Opl.ldb (v := v1_0) h7 rfl T30 rfl rfl rfl rfl (Opl.one (v := .lit (.int .i64 x42_1)) rfl rfl rfl (Opl.add (k := .i64) (a := x42_1) (b := 1) K3 rfl rfl rfl rfl ?_))))
   obtain ⟨c8, H⟩ := peel H
   obtain ⟨c9, H⟩ := peel H
   refine Opl.idx (M := (cSl (cInt .i64))) (xs := l1_0) (j := (wrap64 (x42_1 + 1))) ([] : List Int) (by exact hv1_0) rfl (by omega) (by omega) K30 Z27 rfl rfl ?_
   rintro p3 q3 h13
   obtain ⟨pv4, rfl, h14⟩ := h13
   refine Opl.lda (pv4) rfl T27 rfl rfl rfl rfl ?_
   obtain ⟨t1134, h_t1134, H⟩ := obs H
   refine Opl.callc (slices_Equal_int_int.ev h12 h14 h_t1134) rfl rfl rfl rfl ⟨h12.plain, h14.plain, trivial⟩ (by decide) (Opl.p1 (n := Opl.p1 (n := Opl.nil ?_)))
   by_cases c10 : t1134 = true
   case neg =>
    rw [if_neg c10] at H
    have e5 : (!t1134) = true := by simpa using c10
    try rw [e5]
    refine Evr.condT rfl (Evr.sr rfl (Opl.one (v := .lit (.bool false)) rfl rfl rfl (Opl.nil ?_)))
    obtain rfl := sinj H
    refine Evr.ret1 Try.func25 rfl ?_
    show (.lit (.bool false) : PV) = _
    first | rfl | (simp only [go_sem]; rfl)
   rw [if_pos c10] at H
   have e4 : (!t1134) = false := by simpa using c10
   try rw [e4]
   refine Evr.condF rfl (Evr.skip (Evr.inBlock (Evr.regionN rfl (Opl.add (k := .i64) (a := x42_1) (b := 1) K3 rfl rfl rfl rfl (Opl.one (v := .lit (.int .i64 (wrap64 (x42_1 + 1)))) rfl rfl rfl (Opl.nil ?_))))))
   exact ih1 _ (by omega) _ _ ⟨by omega, _, _, _, H, ⟨rfl, rfl, rfl, rfl, rfl, trivial⟩, h6, h7, ap3⟩
 ·
  refine Evr.regionD rfl (by kernel_rfl) (Opl.ldb (v := .agg [v0_0, v0_1]) h3 rfl T26 rfl rfl rfl rfl ?_)
  obtain ⟨t1119, h_t1119, H⟩ := obs H
  refine Opl.callc (impl_SystemValid.ev hv0_0 hv0_1 h_t1119) rfl rfl rfl rfl ⟨(.aggL ⟨hv0_0.plain, hv0_1.plain, trivial⟩), trivial⟩ (by decide) (Opl.p1 (n := Opl.p1 (n := ?_)))
  by_cases c11 : t1119 = true
  case neg =>
   rw [if_neg c11] at H
   have e14 : (!t1119) = true := by simpa using c11
   try rw [e14]
   refine Opl.sk4 rfl rfl rfl rfl (Opl.skp rfl (Opl.p1 (n := Opl.p1 (n := Opl.sk8 rfl rfl rfl rfl rfl rfl rfl rfl (Opl.p1 (n := Opl.p1 (n := Opl.sk8 rfl rfl rfl rfl rfl rfl rfl rfl (Opl.p1 (n := Opl.nil ?_)))))))))
   exact hk1 _ _ ⟨_, _, _, _, H, ⟨rfl, rfl, (by first | rfl | (show PV.lit (.bool _) = _; congr 2; simp_all)), trivial⟩, h3, h2, ap1⟩
  rw [if_pos c11] at H
  have e9 : (!t1119) = false := by simpa using c11
  try rw [e9]
  refine Opl.p1 (v := .ptr i2 0) (n := Opl.ldb (v := v1_0) h2 rfl T30 rfl rfl rfl rfl (Opl.len (xs := l1_0) (by exact hv1_0) K30 rfl rfl rfl rfl ?_))
  obtain ⟨t1120, h_t1120, H⟩ := obs H
  refine Opl.callc (impl_in.ev h_t1120) rfl rfl rfl rfl ⟨(.lit _), (.lit _), (.lit _), trivial⟩ (by decide) (Opl.p1 (n := Opl.p1 (n := Opl.p1 (n := ?_))))
  by_cases c12 : t1120 = true
  case neg =>
   rw [if_neg c12] at H
   have e13 : (!t1120) = true := by simpa using c12
   try rw [e13]
   refine Opl.sk8 rfl rfl rfl rfl rfl rfl rfl rfl (Opl.p1 (n := Opl.p1 (n := Opl.sk8 rfl rfl rfl rfl rfl rfl rfl rfl (Opl.p1 (n := Opl.nil ?_)))))
   exact hk1 _ _ ⟨_, _, _, _, H, ⟨rfl, rfl, (by first | rfl | (show PV.lit (.bool _) = _; congr 2; simp_all)), trivial⟩, h3, h2, ap1⟩
  rw [if_pos c12] at H
  have e10 : (!t1120) = false := by simpa using c12
  try rw [e10]
  refine Opl.p1 (v := .ptr i2 1) (n := Opl.ldb (v := v1_1) h2 rfl T27 rfl rfl rfl rfl (Opl.len (xs := l1_1) (by exact hv1_1) K27 rfl rfl rfl rfl (Opl.p1 (v := .ptr i2 0) (n := Opl.ldb (v := v1_0) h2 rfl T30 rfl rfl rfl rfl (Opl.len (xs := l1_0) (by exact hv1_0) K30 rfl rfl rfl rfl (Opl.subi (k := .i64) (a := (l1_0.length : Int)) (b := 1) K3 rfl rfl rfl rfl (Opl.neq (a := (l1_1.length : Int)) (b := (wrap64 ((l1_0.length : Int) - 1))) K3 rfl rfl rfl rfl (Opl.p1 (n := Opl.one (v := .lit (.bool ((l1_1.length : Int) != (wrap64 ((l1_0.length : Int) - 1))))) rfl rfl rfl ?_)))))))))
  by_cases c13 : (l1_1.length : Int) = (wrap64 ((l1_0.length : Int) - 1))
  case neg =>
   rw [if_neg c13] at H
   have e12 : ((l1_1.length : Int) != (wrap64 ((l1_0.length : Int) - 1))) = true := by simpa using c13
   try rw [e12]
   refine Opl.sk8 rfl rfl rfl rfl rfl rfl rfl rfl (Opl.p1 (n := Opl.nil ?_))
   exact hk1 _ _ ⟨_, _, _, _, H, ⟨rfl, rfl, (by first | rfl | (show PV.lit (.bool _) = _; congr 2; simp_all)), trivial⟩, h3, h2, ap1⟩
  rw [if_pos c13] at H
  have e11 : ((l1_1.length : Int) != (wrap64 ((l1_0.length : Int) - 1))) = false := by simpa using c13
  try rw [e11]
  refine Opl.p1 (v := .ptr i2 0) (n := Opl.ldb (v := v1_0) h2 rfl T30 rfl rfl rfl rfl ?_)
  obtain ⟨c14, H⟩ := peel H
  refine Opl.idx (M := (cSl (cInt .i64))) (xs := l1_0) (j := 0) ([] : List Int) (by exact hv1_0) rfl (by omega) (by omega) K30 Z27 rfl rfl ?_
  rintro p4 q4 h15
  obtain ⟨pv5, rfl, h16⟩ := h15
  refine Opl.lda (pv5) rfl T27 rfl rfl rfl rfl (Opl.ldb (v := .agg [v0_0, v0_1]) h3 rfl T26 rfl rfl rfl rfl ?_)
  obtain ⟨t1122, h_t1122, H⟩ := obs H
  refine Opl.call ((impl_first.ev hv0_0 hv0_1 h_t1122).mono fun _ _ h => Out.vec h) rfl rfl rfl rfl ⟨(.aggL ⟨hv0_0.plain, hv0_1.plain, trivial⟩), trivial⟩ (by decide) ?_
  rintro pv6 h17
  obtain ⟨t1125, h_t1125, H⟩ := obs H
  refine Opl.callc (slices_Equal_int_int.ev h16 h17 h_t1125) rfl rfl rfl rfl ⟨h16.plain, h17.plain, trivial⟩ (by decide) (Opl.p1 (n := Opl.p1 (n := Opl.nil ?_)))
  exact hk1 _ _ ⟨_, _, _, _, H, ⟨rfl, rfl, (by first | rfl | (show PV.lit (.bool _) = _; congr 2; simp_all)), trivial⟩, h3, h2, ap1⟩
theorem impl_clone_Lint.ev {l0 : List (List Int)} {v0 : PV} (hv0 : Sl (cSl (cInt .i64)) l0 v0) {r : List (List Int)} (H : impl_clone_Lint.f l0 = some r) : Ret Try.prog 83 [v0] fun v S => Vec (cSl (cInt .i64)) r v S := by
 unfold impl_clone_Lint.f at H
 refine Ret.intro Try.func83 rfl (Nat.le_of_ble_eq_true rfl) rfl ?_
 rw [tm1]
 obtain ⟨c1, H⟩ := peel H
 obtain rfl := sinj H
 refine Evr.seq (Evr.regionN rfl (Opl.p1 (n := Opl.nil (Evr.seq (Evr.seq (Evr.regionN rfl (Opl.p1 (n := Opl.len (by exact hv0) K30 rfl rfl rfl rfl (Opl.p1 (n := Opl.nil ?_))))))))))
 by_cases c2 : (l0.length : Int) = 0
 · have e1 : ((l0.length : Int) == 0) = true := by simpa using c2
   try rw [e1]
   refine Evr.condT rfl (Evr.seq (Evr.regionN rfl (Opl.p1 (n := Opl.nil ?_))))
   obtain rfl : l0 = [] := List.eq_nil_of_length_eq_zero (by omega)
   refine Evr.ret1 Try.func83 rfl ?_
   exact .nil
 · have e1 : ((l0.length : Int) == 0) = false := by simpa using c2
   try rw [e1]
   refine Evr.condF rfl (Evr.skip (Evr.seq (Evr.regionN rfl (Opl.p1 (n := Opl.len (by exact hv0) K30 rfl rfl rfl rfl ?_)))))
   refine Opl.make (M := (cSl (cInt .i64))) (m := (l0.length : Int)) ([] : List Int) (by exact ⟨_, rfl, .nil⟩) rfl rfl K30 T27 rfl (by omega) (by show (_ : Nat) * 24 ≤ 281474976710656; omega) (by omega) rfl rfl rfl ?_
   rintro pv1 S h1 u1 w1
   refine Opl.p1 (n := Opl.nil (Evr.seq (Evr.regionN rfl (Opl.p1 (n := Opl.p1 (n := ?_))))))
   refine Opl.copy (M := (cSl (cInt .i64))) (ys := l0) h1 (by exact hv0) (oSl (cInt .i64)) rfl (by simp) (by simp; omega) K30 Z27 rfl rfl rfl rfl rfl ?_
   rintro S h2 u2
   refine Opl.nil (Evr.seq (Evr.regionN rfl (Opl.p1 (n := Opl.p1 (n := Opl.nil ?_)))))
   refine Evr.ret1 Try.func83 rfl ?_
   exact h2
theorem impl_WithoutRounds.ev {k : Nat} {l0_0 : List IVar} {v0_0 : PV} (hv0_0 : Sl cIVar l0_0 v0_0) {l0_1 : List IRule} {v0_1 : PV} (hv0_1 : Sl cIRule l0_1 v0_1) {l1_0 : List (List Int)} {v1_0 : PV} (hv1_0 : Sl (cSl (cInt .i64)) l1_0 v1_0) {l1_1 : List Int} {v1_1 : PV} (hv1_1 : Sl (cInt .i64) l1_1 v1_1) {r : (List (List Int) × List Int)} (H : impl_WithoutRounds.f k l0_0 l0_1 l1_0 l1_1 = some r) : Ret Try.prog 23 [.agg [v0_0, v0_1], .agg [v1_0, v1_1]] fun v S => Out (fun q => ∃ q1 q2, q = .agg [q1, q2] ∧ Sl (cSl (cInt .i64)) r.1 q1 ∧ Sl (cInt .i64) r.2 q2) v S := by
 unfold impl_WithoutRounds.f at H
 refine Ret.intro Try.func23 rfl (Nat.le_of_ble_eq_true rfl) rfl ?_
 rw [tm2]
 refine Evr.sr rfl (Opl.box (cs := [v0_0, v0_1]) rfl rfl rfl rfl ?_)
 rintro i1 S h1 u1 w1
 refine Opl.box (cs := [v1_0, v1_1]) rfl rfl rfl rfl ?_
 rintro i2 S h2 u2 w2
 have ap1 := w2.box h1
 have h3 := u2.box h1 ap1
 refine Opl.alloc T42 rfl rfl rfl ?_
 rintro i3 S h4 u3 w3
 have ap2 := w3.box h3
 have h5 := u3.box h3 ap2
 have ap3 := w3.box h2
 have h6 := u3.box h2 ap3
 refine Opl.nil (Evr.seq (Evr.sr rfl (Opl.ldb (v := .agg [v0_0, v0_1]) h5 rfl T26 rfl rfl rfl rfl (Opl.ldb (v := .agg [v1_0, v1_1]) h6 rfl T42 rfl rfl rfl rfl ?_))))
 obtain ⟨r1, h_r1, H⟩ := obs H
 refine Opl.callc (impl_TraceValid.ev hv0_0 hv0_1 hv1_0 hv1_1 h_r1) rfl rfl rfl rfl ⟨(.aggL ⟨hv0_0.plain, hv0_1.plain, trivial⟩), (.aggL ⟨hv1_0.plain, hv1_1.plain, trivial⟩), trivial⟩ (by decide) (Opl.p1 (n := Opl.nil ?_))
 by_cases c1 : r1 = true
 case neg =>
  rw [if_neg c1] at H
  have e6 : (!r1) = true := by simpa using c1
  try rw [e6]
  refine Evr.condT rfl (Evr.sr rfl (Opl.p1 (v := .agg [.lit (.slice none 0 0), .lit (.slice none 0 0)]) (n := Opl.stb (vs := [.lit (.slice none 0 0), .lit (.slice none 0 0)]) h4 rfl rfl Z42 rfl (Nat.le_of_ble_eq_true rfl) rfl rfl rfl rfl ?_)))
  rintro S (h83 : Box (.ptr i3 0) [.lit (.slice none 0 0), .lit (.slice none 0 0)] _) u18
  have h84 := u18.box h5 ap2
  have h85 := u18.box h6 ap3
  refine Opl.nil ?_
  obtain rfl := sinj H
  refine Evr.retb (v := .agg [.lit (.slice none 0 0), .lit (.slice none 0 0)]) Try.func23 rfl h83 rfl T42 rfl ?_
  show Out _ (.agg [.lit (.slice none 0 0), .lit (.slice none 0 0)]) _
  exact (.agg2 (.sl .nil) (.sl .nil))
 rw [if_pos c1] at H
 have e1 : (!r1) = false := by simpa using c1
 try rw [e1]
 refine Evr.condF rfl (Evr.skip (Evr.sr rfl (Opl.p1 (v := .ptr i2 0) (n := Opl.ldb (v := v1_0) h6 rfl T30 rfl rfl rfl rfl ?_))))
 obtain ⟨c2, H⟩ := peel H
 refine Opl.idx (M := (cSl (cInt .i64))) (xs := l1_0) (j := 0) ([] : List Int) (by exact hv1_0) rfl (by omega) (by omega) K30 Z27 rfl rfl ?_
 rintro p1 q1 h7
 obtain ⟨pv1, rfl, h8⟩ := h7
 refine Opl.lda (pv1) rfl T27 rfl rfl rfl rfl ?_
 obtain ⟨r2, h_r2, H⟩ := obs H
 refine Opl.call ((impl_clone_int.ev h8 h_r2).mono fun _ _ h => Out.vec h) rfl rfl rfl rfl ⟨h8.plain, trivial⟩ (by decide) ?_
 rintro pv2 h9
 refine Opl.lits (M := (cSl (cInt .i64))) (ys := [r2]) [.tmp 19] K30 T27 rfl rfl rfl (by exact ⟨⟨_, by first | rfl | exact h9.cells, h9⟩, trivial⟩) rfl (by decide) rfl rfl rfl ?_
 rintro pv3 S h10 u4 w4
 have ap4 := w4.box h5
 have h11 := u4.box h5 ap4
 have ap5 := w4.box h6
 have h12 := u4.box h6 ap5
 have ap6 := w4.box h4
 have h13 := u4.box h4 ap6
 refine Opl.one (v := .agg [pv3, .lit (.slice none 0 0)]) rfl rfl (by simp only [go_sem]; simp only [fillL, Vec.cells h10]; rfl) (Opl.alloc T42 rfl rfl rfl ?_)
 rintro i4 S h14 u5 w5
 have ap7 := w5.box h11
 have h15 := u5.box h11 ap7
 have ap8 := w5.box h12
 have h16 := u5.box h12 ap8
 have ap9 := w5.box h13
 have h17 := u5.box h13 ap9
 have ap10 := w5.vec h10
 have h18 := u5.vec h10 ap10
 refine Opl.stb (vs := [pv3, .lit (.slice none 0 0)]) h14 rfl rfl Z42 rfl (Nat.le_of_ble_eq_true rfl) (by simp only [List.all_cons, List.all_nil, Vec.one h18, Bool.and_true, Bool.true_and] <;> rfl) rfl rfl rfl ?_
 rintro S (h19 : Box (.ptr i4 0) [pv3, .lit (.slice none 0 0)] _) u6
 have h20 := u6.box h15 ap7
 have h21 := u6.box h16 ap8
 have h22 := u6.box h17 ap9
 have h23 := u6.vec h18 ap10
 refine Opl.nil (Evr.block (Evr.frzb 3 h21 rfl ?_))
 rintro S u7
 have h24 := u7.box h20 ap1
 have h25 := u7.box h22 ap3.symm
 have h26 := u7.vec h23 ap5.symm
 have h27 := u7.box h19 ap8.symm
 refine Evr.loop (Evr.rounds (n := k) (Inv := fun n tm S => n ≤ k ∧ ∃ (x5b0_1 : List (List Int)) (x5b1_1 : List Int) (i5 : Abs.Id) (pv4 : PV) (pv5 : PV) (i6 : Abs.Id), impl_WithoutRounds.l1 n x5b0_1 x5b1_1 l1_0 l1_1 = some r ∧ Has tm [(3, .fel (v1_0 :: v1_1 :: [])), (4, .ptr i5 0), (5, .ptr i6 0)] ∧ Box (.ptr i5 0) [.lit (.slice none 0 0), .lit (.slice none 0 0)] S ∧ Vec (cSl (cInt .i64)) x5b0_1 pv4 S ∧ Vec (cInt .i64) x5b1_1 pv5 S ∧ Box (.ptr i6 0) [pv4, pv5] S ∧ Ap (.ptr i5 0) pv4 ∧ Ap (.ptr i5 0) pv5 ∧ Ap (.ptr i5 0) (.ptr i6 0) ∧ Ap pv4 pv5 ∧ Ap pv4 (.ptr i6 0) ∧ Ap pv5 (.ptr i6 0)) ?_ ?_ ?_)
 · exact ⟨Nat.le_refl _, _, _, _, _, _, _, H, ⟨rfl, rfl, rfl, trivial⟩, h25, h26, .nil, h27, ap6, Ap.nil.symm, ap9, Ap.nil.symm, ap10, .nil⟩
 ·
  rintro tm S ⟨_, _, _, _, _, _, _, H, -⟩
  simp [impl_WithoutRounds.l1] at H
 ·
  rintro n1 ih1 tm S ⟨hle, x5b0_1, x5b1_1, i5, pv4, pv5, i6, H, hh, h28, h30, h31, h29, ap11, ap12, ap13, ap14, ap15, ap16⟩
  simp only [impl_WithoutRounds.l1] at H
  rw [hh.eq]
  refine Evr.block (Evr.sr rfl (Opl.p1 (v := .ptr i6 0) (n := Opl.ldb (v := pv4) h29 rfl T30 rfl rfl rfl rfl (Opl.p1 (v := .ptr i6 0) (n := Opl.ldb (v := pv4) h29 rfl T30 rfl rfl rfl rfl (Opl.lenv (xs := x5b0_1) (by exact h30) K30 rfl rfl rfl rfl (Opl.subi (k := .i64) (a := (x5b0_1.length : Int)) (b := 1) K3 rfl rfl rfl rfl ?_)))))))
  obtain ⟨c3, H⟩ := peel H
  obtain ⟨c4, H⟩ := peel H
  refine Opl.idv (M := (cSl (cInt .i64))) (xs := x5b0_1) (j := (wrap64 ((x5b0_1.length : Int) - 1))) (v := pv4) h30 rfl rfl (by omega) (by omega) K30 Z27 rfl rfl ?_
  rintro d1 z1 q2 h32 h33
  refine Opl.ldv (M := (cSl (cInt .i64))) (xs := x5b0_1) (j := (wrap64 ((x5b0_1.length : Int) - 1))) ([] : List Int) h32 h33 (by omega) (by omega) rfl T27 rfl rfl rfl ?_
  rintro p2 q3 h34
  obtain ⟨pv6, rfl, h35⟩ := h34
  refine ⟨pv6, rfl, ?_⟩
  refine Opl.one (v := pv6) rfl rfl rfl (Opl.nil (Evr.sr rfl (Opl.one (v := .lit (.int .i64 0)) rfl rfl rfl (Opl.nil (Evr.seq (Evr.sr rfl (Opl.p1 (v := .fel (v1_0 :: v1_1 :: [])) (n := Opl.lda (v1_0) rfl T30 rfl rfl rfl rfl (Opl.len (xs := l1_0) (by exact hv1_0) K30 rfl rfl rfl rfl (Opl.one (v := .lit (.int .i64 0)) rfl rfl rfl (Opl.nil (Evr.block ?_))))))))))))
  refine Evr.loop (Evr.rounds (n := n1) (Inv := fun n tm S => n ≤ n1 ∧ ∃ (x7q3_1 : Int) (x33q6_1 : Int) (i7 : Abs.Id) (pv7 : PV) (pv8 : PV) (i8 : Abs.Id), impl_WithoutRounds.l2 n x7q3_1 x33q6_1 l1_0 l1_1 x5b0_1 x5b1_1 = some r ∧ Has tm [(3, .fel (v1_0 :: v1_1 :: [])), (4, .ptr i7 0), (5, .ptr i8 0), (6, pv6), (7, .lit (.int .i64 x7q3_1)), (31, v1_0), (32, .lit (.int .i64 (l1_0.length : Int))), (33, .lit (.int .i64 x33q6_1))] ∧ Box (.ptr i7 0) [.lit (.slice none 0 0), .lit (.slice none 0 0)] S ∧ Vec (cSl (cInt .i64)) x5b0_1 pv7 S ∧ Vec (cInt .i64) x5b1_1 pv8 S ∧ Box (.ptr i8 0) [pv7, pv8] S ∧ Ap (.ptr i7 0) pv7 ∧ Ap (.ptr i7 0) pv8 ∧ Ap (.ptr i7 0) (.ptr i8 0) ∧ Ap pv7 pv8 ∧ Ap pv7 (.ptr i8 0) ∧ Ap pv8 (.ptr i8 0)) ?_ ?_ ?_)
  · exact ⟨Nat.le_refl _, _, _, _, _, _, _, H, ⟨rfl, rfl, rfl, rfl, rfl, rfl, rfl, rfl, trivial⟩, h28, h30, h31, h29, ap11, ap12, ap13, ap14, ap15, ap16⟩
  ·
   rintro tm S ⟨_, _, _, _, _, _, _, H, -⟩
   simp [impl_WithoutRounds.l2] at H
  ·
   rintro n2 ih2 tm S ⟨hle, x7q3_1, x33q6_1, i7, pv7, pv8, i8, H, hh, h36, h38, h39, h37, ap17, ap18, ap19, ap20, ap21, ap22⟩
   simp only [impl_WithoutRounds.l2] at H
   rw [hh.eq]
   refine Evr.sr rfl (Opl.p1 (n := Opl.nil (Evr.seq ?_)))
   by_cases c5 : x33q6_1 < (l1_0.length : Int)
   case pos =>
    rw [if_pos c5] at H
    have e2 : (decide (x33q6_1 < (l1_0.length : Int))) = true := by simpa using c5
    try rw [e2]
    refine Evr.condT rfl (Evr.skip (Evr.seq (Evr.block (Evr.sr rfl (Opl.p1 (n := ?_))))))
    obtain ⟨c6, H⟩ := peel H
    obtain ⟨c7, H⟩ := peel H
    refine Opl.idx (M := (cSl (cInt .i64))) (xs := l1_0) (j := x33q6_1) ([] : List Int) (by exact hv1_0) rfl (by omega) (by omega) K30 Z27 rfl rfl ?_
    rintro p3 q4 h40
    obtain ⟨pv9, rfl, h41⟩ := h40
    refine Opl.lda (pv9) rfl T27 rfl rfl rfl rfl (Opl.p1 (n := Opl.p1 (n := Opl.nil (Evr.sr rfl (Opl.p1 (n := Opl.p1 (n := ?_)))))))
    obtain ⟨r3, h_r3, H⟩ := obs H
    refine Opl.callc (slices_Equal_int_int.ev h41 h35 h_r3) rfl rfl rfl rfl ⟨h41.plain, h35.plain, trivial⟩ (by decide) (Opl.nil ?_)
    refine Evr.join (fun tm S => ∃ (kq1 : Nat) (x7q3_2 : Int) (i9 : Abs.Id) (pv10 : PV) (pv11 : PV) (i10 : Abs.Id), impl_WithoutRounds.l2 kq1 x7q3_2 (wrap64 (x33q6_1 + 1)) l1_0 l1_1 x5b0_1 x5b1_1 = some r ∧ kq1 ≤ n2 ∧ Has tm [(3, .fel (v1_0 :: v1_1 :: [])), (4, .ptr i9 0), (5, .ptr i10 0), (6, pv6), (7, .lit (.int .i64 x7q3_2)), (31, v1_0), (32, .lit (.int .i64 (l1_0.length : Int))), (33, .lit (.int .i64 x33q6_1))] ∧ Box (.ptr i9 0) [.lit (.slice none 0 0), .lit (.slice none 0 0)] S ∧ Vec (cSl (cInt .i64)) x5b0_1 pv10 S ∧ Vec (cInt .i64) x5b1_1 pv11 S ∧ Box (.ptr i10 0) [pv10, pv11] S ∧ Ap (.ptr i9 0) pv10 ∧ Ap (.ptr i9 0) pv11 ∧ Ap (.ptr i9 0) (.ptr i10 0) ∧ Ap pv10 pv11 ∧ Ap pv10 (.ptr i10 0) ∧ Ap pv11 (.ptr i10 0)) ?_ fun hk1 => ?_
    ·
     rintro tm S ⟨kq1, x7q3_2, i9, pv10, pv11, i10, H, hle, hh, h42, h44, h45, h43, ap23, ap24, ap25, ap26, ap27, ap28⟩
     rw [hh.eq]
     refine Evr.inBlock (Evr.regionN rfl (Opl.add (k := .i64) (a := x33q6_1) (b := 1) K3 rfl rfl rfl rfl (Opl.one (v := .lit (.int .i64 (wrap64 (x33q6_1 + 1)))) rfl rfl rfl (Opl.nil ?_))))
     exact ih2 _ (by omega) _ _ ⟨by omega, _, _, _, _, _, _, H, ⟨rfl, rfl, rfl, rfl, rfl, rfl, rfl, rfl, trivial⟩, h42, h44, h45, h43, ap23, ap24, ap25, ap26, ap27, ap28⟩
    ·
     by_cases c8 : r3 = true
     case neg =>
      rw [if_neg c8] at H
      obtain rfl : r3 = false := by simpa using c8
      refine Evr.condF rfl (Evr.skip ?_)
      exact hk1 _ _ ⟨_, _, _, _, _, _, H, by omega, ⟨rfl, rfl, rfl, rfl, rfl, rfl, rfl, rfl, trivial⟩, h36, h38, h39, h37, ap17, ap18, ap19, ap20, ap21, ap22⟩
     rw [if_pos c8] at H
     obtain rfl : r3 = true := by simpa using c8
     refine Evr.condT rfl (Evr.regionN rfl (Opl.p1 (n := Opl.p1 (n := Opl.nil ?_))))
     exact hk1 _ _ ⟨_, _, _, _, _, _, H, by omega, ⟨rfl, rfl, rfl, rfl, rfl, rfl, rfl, rfl, trivial⟩, h36, h38, h39, h37, ap17, ap18, ap19, ap20, ap21, ap22⟩
   rw [if_neg c5] at H
   have e3 : (decide (x33q6_1 < (l1_0.length : Int))) = false := by simpa using c5
   try rw [e3]
   refine Evr.condF rfl (Evr.exit rfl (Evr.seq (Evr.sr rfl (Opl.p1 (n := Opl.p1 (v := .fel (v1_1 :: [])) (n := Opl.lda (v1_1) rfl T27 rfl rfl rfl rfl (Opl.len (xs := l1_1) (by exact hv1_1) K27 rfl rfl rfl rfl (Opl.p1 (n := Opl.nil ?_)))))))))
   by_cases c9 : x7q3_1 = (l1_1.length : Int)
   case pos =>
    rw [if_pos c9] at H
    have e4 : (x7q3_1 == (l1_1.length : Int)) = true := by simpa using c9
    try rw [e4]
    refine Evr.condT rfl (Evr.seq (Evr.frzc [] [pv8] h37 h38 ap21 ?_))
    rintro pv12 S1_ S h46 u8 u9 h47
    have h48 := u9.box (u8.box h36 ap17) ap19
    have h49 := u9.vec (u8.vec h39 ap20.symm) ap22
    have h50 : Sl (cSl (cInt .i64)) x5b0_1 pv12 := h46
    have h51 : Box (.ptr i8 0) [pv12, pv8] S := h47
    refine Evr.frzc [pv12] [] h51 h49 ap22 ?_
    rintro pv13 S1_ S h52 u10 u11 h53
    have h54 := u11.box (u10.box h48 ap18) ap19
    have h55 : Sl (cInt .i64) x5b1_1 pv13 := h52
    have h56 : Box (.ptr i8 0) [pv12, pv13] S := h53
    refine Evr.frzb 5 h56 rfl ?_
    rintro S u12
    have h57 := u12.box h54 ap19
    refine Evr.regionL [(1, .p), (4, .p)] rfl (by kernel_rfl) (Opl.p1 (v := .fel (pv12 :: pv13 :: [])) (n := Opl.ldp (pv12) rfl T30 rfl rfl rfl ?_))
    obtain ⟨r4, h_r4, H⟩ := obs H
    refine Opl.call ((impl_clone_Lint.ev h50 h_r4).mono fun _ _ h => Out.vec h) rfl rfl rfl rfl ⟨h50.plain, trivial⟩ (by decide) ?_
    rintro pv14 h58
    refine Opl.p1 (v := .fel (pv13 :: [])) (n := Opl.ldp (pv13) rfl T27 rfl rfl rfl ?_)
    obtain ⟨r5, h_r5, H⟩ := obs H
    refine Opl.call ((impl_clone_int.ev h55 h_r5).mono fun _ _ h => Out.vec h) rfl rfl rfl rfl ⟨h55.plain, trivial⟩ (by decide) ?_
    rintro pv15 h59
    refine Opl.one (v := .agg [pv14, pv15]) rfl rfl (by simp only [go_sem]; simp only [fillL, Sl.cells h58, Sl.cells h59]; rfl) (Opl.stb (vs := [pv14, pv15]) h57 rfl rfl Z42 rfl (Nat.le_of_ble_eq_true rfl) (by simp only [List.all_cons, List.all_nil, h58.one, h59.one, Bool.and_true, Bool.true_and] <;> rfl) rfl rfl rfl ?_)
    rintro S (h60 : Box (.ptr i7 0) [pv14, pv15] _) u13
    refine Opl.nil ?_
    obtain rfl := sinj H
    refine Evr.retb (v := .agg [pv14, pv15]) Try.func23 rfl h60 rfl T42 rfl ?_
    show Out _ (.agg [pv14, pv15]) _
    exact (.agg2 (.sl h58) (.sl h59))
   rw [if_neg c9] at H
   have e5 : (x7q3_1 == (l1_1.length : Int)) = false := by simpa using c9
   try rw [e5]
   refine Evr.condF rfl (Evr.skip (Evr.seq (Evr.regionL [(3, .p), (6, .p), (7, .p), (1, .q), (8, .m)] rfl (by kernel_rfl) (Opl.p1 (v := .ptr i8 1) (n := Opl.ldbk (v := pv8) h37 (rd_vec h39) rfl T27 rfl rfl rfl rfl (Opl.p1 (v := .fel (v1_1 :: [])) (n := Opl.ldp (v1_1) rfl T27 rfl rfl rfl (Opl.p1 (n := ?_)))))))))
   obtain ⟨c10, H⟩ := peel H
   obtain ⟨c11, H⟩ := peel H
   obtain ⟨c12, H⟩ := peel H
   obtain ⟨c13, H⟩ := peel H
   obtain ⟨c14, H⟩ := peel H
   refine Opl.idx (M := (cInt .i64)) (xs := l1_1) (j := x7q3_1) (0 : Int) (by exact hv1_1) rfl (by omega) (by omega) K27 Z3 rfl rfl ?_
   rintro p4 q5 h61
   obtain rfl : p4 = [.lit (.int .i64 (rd l1_1 x7q3_1))] := h61
   refine Opl.ldp (.lit (.int .i64 (rd l1_1 x7q3_1))) rfl T3 rfl rfl rfl (Opl.liti (M := (cInt .i64)) (ys := [(rd l1_1 x7q3_1)]) [.tmp 61] K27 T3 rfl rfl rfl (by exact ⟨rfl, trivial⟩) rfl (by decide) rfl rfl ?_)
   rintro pv17 h62
   refine Opl.appm rfl (M := (cInt .i64)) (xs := x5b1_1) (ys := [(rd l1_1 x7q3_1)]) (v := pv8) h39 (.sl h62) (oInt .i64) rfl rfl K27 T3 rfl rfl (by (try simp only [List.length_cons, List.length_nil]); omega) (by show (_ + _) * 8 ≤ 140737488355328; (try simp only [List.length_cons, List.length_nil]); omega) rfl rfl rfl rfl rfl ?_
   rintro pv18 S h63 u14 w8
   have ap29 := w8.box h36
   have h64 := u14.box h36 ap18
   have ap30 := w8.vec h38
   have h65 := u14.vec h38 ap20
   have ap31 := w8.box h37
   have h66 := u14.box h37 ap22.symm
   refine Opl.p1 (v := .ptr i8 1) (n := Opl.stb (vs := [pv18]) h66 rfl (by exact Vec.cells h63) Z27 rfl (Nat.le_of_ble_eq_true rfl) (by simp only [List.all_cons, List.all_nil, Vec.one h63, Bool.and_true, Bool.true_and] <;> rfl) rfl rfl rfl ?_)
   rintro S (h67 : Box (.ptr i8 0) [pv7, pv18] _) u15
   have h68 := u15.box h64 ap19
   have h69 := u15.vec h65 ap21
   have h70 := u15.vec h63 ap31.symm
   refine Opl.nil (Evr.regionL [(3, .p), (7, .p), (9, .p), (1, .q), (10, .m)] rfl (by kernel_rfl) (Opl.p1 (v := .ptr i8 0) (n := Opl.ldbk (v := pv7) h67 (rd_vec h70) rfl T30 rfl rfl rfl rfl (Opl.p1 (v := .fel (v1_0 :: v1_1 :: [])) (n := Opl.ldp (v1_0) rfl T30 rfl rfl rfl (Opl.p1 (n := Opl.add (k := .i64) (a := x7q3_1) (b := 1) K3 rfl rfl rfl rfl (Opl.idx (M := (cSl (cInt .i64))) (xs := l1_0) (j := (wrap64 (x7q3_1 + 1))) ([] : List Int) (by exact hv1_0) rfl (by omega) (by omega) K30 Z27 rfl rfl ?_))))))))
   rintro p5 q6 h71
   obtain ⟨pv19, rfl, h72⟩ := h71
   refine Opl.ldp (pv19) rfl T27 rfl rfl rfl ?_
   obtain ⟨r6, h_r6, H⟩ := obs H
   refine Opl.call ((impl_clone_int.ev h72 h_r6).mono fun _ _ h => Out.vec h) rfl rfl rfl rfl ⟨h72.plain, trivial⟩ (by decide) ?_
   rintro pv20 h73
   refine Opl.liti (M := (cSl (cInt .i64))) (ys := [r6]) [.tmp 73] K30 T27 rfl rfl rfl (by exact ⟨⟨_, by first | rfl | exact h73.cells, h73⟩, trivial⟩) rfl (by decide) rfl rfl ?_
   rintro pv22 h74
   obtain ⟨c15, H⟩ := peel H
   refine Opl.appm rfl (M := (cSl (cInt .i64))) (xs := x5b0_1) (ys := [r6]) (v := pv7) h69 (.sl h74) (oSl (cInt .i64)) rfl rfl K30 T27 rfl rfl (by (try simp only [List.length_cons, List.length_nil]); omega) (by show (_ + _) * 24 ≤ 140737488355328; (try simp only [List.length_cons, List.length_nil]); omega) rfl rfl rfl rfl rfl ?_
   rintro pv23 S h75 u16 w10
   have ap32 := w10.box h68
   have h76 := u16.box h68 ap17
   have ap33 := w10.box h67
   have h77 := u16.box h67 ap21.symm
   have ap34 := w10.vec h70
   have h78 := u16.vec h70 ap30.symm
   refine Opl.p1 (v := .ptr i8 0) (n := Opl.stb (vs := [pv23]) h77 rfl (by exact Vec.cells h75) Z30 rfl (Nat.le_of_ble_eq_true rfl) (by simp only [List.all_cons, List.all_nil, Vec.one h75, Bool.and_true, Bool.true_and] <;> rfl) rfl rfl rfl ?_)
   rintro S (h79 : Box (.ptr i8 0) [pv23, pv18] _) u17
   have h80 := u17.box h76 ap19
   have h81 := u17.vec h78 ap31.symm
   have h82 := u17.vec h75 ap33.symm
   refine Opl.nil (Evr.inBlock ?_)
   exact ih1 _ (by omega) _ _ ⟨by omega, _, _, _, _, _, _, H, ⟨rfl, rfl, rfl, trivial⟩, h80, h82, h81, h79, ap32, ap29, ap19, ap34.symm, ap33.symm, ap31.symm⟩
end Go.Proofs.Ytpjmiaooogephaa.PA
end
