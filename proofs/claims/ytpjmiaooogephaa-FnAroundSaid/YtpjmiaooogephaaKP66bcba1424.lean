/- Walks of Go functions: each is shown to answer as the Lean function beside it tells, under the conditions that its theorem names. -/
import Derived.Test.YtpjmiaooogephaaProg
import Derived.KernelRfl
import Derived.Below
import Derived.Deep.Draws
import Derived.Deep.AppendLies
import Derived.Maps.AppendAt
import Derived.OwnWalk
import Derived.Laws.BytesArg
import Derived.Laws.MakeOwn
import Derived.Laws.OwnMore
import Derived.Deep.OwnRows
import Derived.Tactics
import Derived.Lib.ConvBytes
import Derived.Laws.Slices
import Derived.WalkKit
import Derived.RowKit3
import Derived.Deep.LoopGhost
import Derived.Deep.QuietTactic
import Derived.BigQuiet
import Derived.WideLaws
import Derived.Deep.DeepCutAuto
import Derived.Deep.CutBlock
import Derived.Deep.RegionHeld3
import Derived.Laws.Rows
import Derived.Lib.AppendStr
import Derived.ArgAppend
import Derived.Laws.IdiomCopy
import Derived.OrdersHeld
import Derived.Laws.BitsLemmas
import Derived.RowKit
import Derived.Laws.StructEq
import Derived.Lib.SliceRun
import Derived.WalkSpells
import Derived.ChangeArms
import Derived.ChangeSlices
import Derived.Deep.Slices
import Derived.Attr
import Derived.Laws.Append
import Derived.Laws.AppendOwn
import Derived.Laws.Entries
import Derived.Calls
import Derived.Laws.Sem
import Derived.Test.YtpjmiaooogephaaKWe28a7feafa
import Derived.Test.YtpjmiaooogephaaKD3a71d84838
section
namespace Go.Proofs.Ytpjmiaooogephaa.PA
open Go Go.Abs Go.RowKit Go.Proofs Go.Proofs.YtpjmiaooogephaaW.PrintWords Go.Proofs.YtpjmiaooogephaaW.PrintLast Go.Proofs.YtpjmiaooogephaaW.PrintMore
set_option maxRecDepth 100000
theorem K3 : tkAt Try.prog 3 = some (.int .i64) := by kernel_rfl
theorem Z3 : szAt Try.prog 3 = some 1 := by kernel_rfl
theorem T3 : tiOf Try.prog 3 = some ⟨(.int .i64), 1, 8, [.int .i64 0], []⟩ := by kernel_rfl
theorem K4 : tkAt Try.prog 4 = some .bool := by kernel_rfl
theorem Z4 : szAt Try.prog 4 = some 1 := by kernel_rfl
theorem T4 : tiOf Try.prog 4 = some ⟨.bool, 1, 1, [.bool false], []⟩ := by kernel_rfl
theorem K5 : tkAt Try.prog 5 = some (.int .u8) := by kernel_rfl
theorem Z5 : szAt Try.prog 5 = some 1 := by kernel_rfl
theorem T5 : tiOf Try.prog 5 = some ⟨(.int .u8), 1, 1, [.int .u8 0], []⟩ := by kernel_rfl
theorem K22 : tkAt Try.prog 22 = some (.slice 5) := by kernel_rfl
theorem Z22 : szAt Try.prog 22 = some 1 := by kernel_rfl
theorem T22 : tiOf Try.prog 22 = some ⟨(.slice 5), 1, 24, [.slice none 0 0], []⟩ := by kernel_rfl
theorem K23 : tkAt Try.prog 23 = some (.slice 101) := by kernel_rfl
theorem Z23 : szAt Try.prog 23 = some 1 := by kernel_rfl
theorem T23 : tiOf Try.prog 23 = some ⟨(.slice 101), 1, 24, [.slice none 0 0], []⟩ := by kernel_rfl
theorem K24 : tkAt Try.prog 24 = some (.slice 106) := by kernel_rfl
theorem Z24 : szAt Try.prog 24 = some 1 := by kernel_rfl
theorem T24 : tiOf Try.prog 24 = some ⟨(.slice 106), 1, 24, [.slice none 0 0], []⟩ := by kernel_rfl
theorem K26 : tkAt Try.prog 26 = some .strct := by kernel_rfl
theorem Z26 : szAt Try.prog 26 = some 2 := by kernel_rfl
theorem T26 : tiOf Try.prog 26 = some ⟨.strct, 2, 48, [.slice none 0 0, .slice none 0 0], [⟨0, 1, (.slice 101)⟩, ⟨1, 1, (.slice 106)⟩]⟩ := by kernel_rfl
theorem K27 : tkAt Try.prog 27 = some (.slice 3) := by kernel_rfl
theorem Z27 : szAt Try.prog 27 = some 1 := by kernel_rfl
theorem T27 : tiOf Try.prog 27 = some ⟨(.slice 3), 1, 24, [.slice none 0 0], []⟩ := by kernel_rfl
theorem K30 : tkAt Try.prog 30 = some (.slice 27) := by kernel_rfl
theorem Z30 : szAt Try.prog 30 = some 1 := by kernel_rfl
theorem T30 : tiOf Try.prog 30 = some ⟨(.slice 27), 1, 24, [.slice none 0 0], []⟩ := by kernel_rfl
theorem K42 : tkAt Try.prog 42 = some .strct := by kernel_rfl
theorem Z42 : szAt Try.prog 42 = some 2 := by kernel_rfl
theorem T42 : tiOf Try.prog 42 = some ⟨.strct, 2, 48, [.slice none 0 0, .slice none 0 0], [⟨0, 1, (.slice 27)⟩, ⟨1, 1, (.slice 3)⟩]⟩ := by kernel_rfl
theorem K53 : tkAt Try.prog 53 = some (.slice 153) := by kernel_rfl
theorem Z53 : szAt Try.prog 53 = some 1 := by kernel_rfl
theorem T53 : tiOf Try.prog 53 = some ⟨(.slice 153), 1, 24, [.slice none 0 0], []⟩ := by kernel_rfl
theorem K54 : tkAt Try.prog 54 = some (.slice 151) := by kernel_rfl
theorem Z54 : szAt Try.prog 54 = some 1 := by kernel_rfl
theorem T54 : tiOf Try.prog 54 = some ⟨(.slice 151), 1, 24, [.slice none 0 0], []⟩ := by kernel_rfl
theorem K56 : tkAt Try.prog 56 = some .strct := by kernel_rfl
theorem Z56 : szAt Try.prog 56 = some 2 := by kernel_rfl
theorem T56 : tiOf Try.prog 56 = some ⟨.strct, 2, 48, [.slice none 0 0, .slice none 0 0], [⟨0, 1, (.slice 153)⟩, ⟨1, 1, (.slice 151)⟩]⟩ := by kernel_rfl
theorem K66 : tkAt Try.prog 66 = some (.slice 128) := by kernel_rfl
theorem Z66 : szAt Try.prog 66 = some 1 := by kernel_rfl
theorem T66 : tiOf Try.prog 66 = some ⟨(.slice 128), 1, 24, [.slice none 0 0], []⟩ := by kernel_rfl
theorem K73 : tkAt Try.prog 73 = some (.ptr 135) := by kernel_rfl
theorem Z73 : szAt Try.prog 73 = some 1 := by kernel_rfl
theorem T73 : tiOf Try.prog 73 = some ⟨(.ptr 135), 1, 8, [.pointer none], []⟩ := by kernel_rfl
theorem K86 : tkAt Try.prog 86 = some .func := by kernel_rfl
theorem Z86 : szAt Try.prog 86 = some 1 := by kernel_rfl
theorem T86 : tiOf Try.prog 86 = some ⟨.func, 1, 8, [.nilFunc], []⟩ := by kernel_rfl
theorem K89 : tkAt Try.prog 89 = some .func := by kernel_rfl
theorem Z89 : szAt Try.prog 89 = some 1 := by kernel_rfl
theorem T89 : tiOf Try.prog 89 = some ⟨.func, 1, 8, [.nilFunc], []⟩ := by kernel_rfl
theorem K91 : tkAt Try.prog 91 = some (.slice 4) := by kernel_rfl
theorem Z91 : szAt Try.prog 91 = some 1 := by kernel_rfl
theorem T91 : tiOf Try.prog 91 = some ⟨(.slice 4), 1, 24, [.slice none 0 0], []⟩ := by kernel_rfl
theorem K101 : tkAt Try.prog 101 = some .strct := by kernel_rfl
theorem Z101 : szAt Try.prog 101 = some 3 := by kernel_rfl
theorem T101 : tiOf Try.prog 101 = some ⟨.strct, 3, 24, [.int .i64 0, .int .i64 0, .int .i64 0], [⟨0, 1, (.int .i64)⟩, ⟨1, 1, (.int .i64)⟩, ⟨2, 1, (.int .i64)⟩]⟩ := by kernel_rfl
theorem K102 : tkAt Try.prog 102 = some .func := by kernel_rfl
theorem Z102 : szAt Try.prog 102 = some 1 := by kernel_rfl
theorem T102 : tiOf Try.prog 102 = some ⟨.func, 1, 8, [.nilFunc], []⟩ := by kernel_rfl
theorem K104 : tkAt Try.prog 104 = some (.slice 66) := by kernel_rfl
theorem Z104 : szAt Try.prog 104 = some 1 := by kernel_rfl
theorem T104 : tiOf Try.prog 104 = some ⟨(.slice 66), 1, 24, [.slice none 0 0], []⟩ := by kernel_rfl
theorem K106 : tkAt Try.prog 106 = some .strct := by kernel_rfl
theorem Z106 : szAt Try.prog 106 = some 3 := by kernel_rfl
theorem T106 : tiOf Try.prog 106 = some ⟨.strct, 3, 72, [.slice none 0 0, .slice none 0 0, .slice none 0 0], [⟨0, 1, (.slice 128)⟩, ⟨1, 1, (.slice 3)⟩, ⟨2, 1, (.slice 66)⟩]⟩ := by kernel_rfl
theorem K108 : tkAt Try.prog 108 = some .func := by kernel_rfl
theorem Z108 : szAt Try.prog 108 = some 1 := by kernel_rfl
theorem T108 : tiOf Try.prog 108 = some ⟨.func, 1, 8, [.nilFunc], []⟩ := by kernel_rfl
theorem K124 : tkAt Try.prog 124 = some .func := by kernel_rfl
theorem Z124 : szAt Try.prog 124 = some 1 := by kernel_rfl
theorem T124 : tiOf Try.prog 124 = some ⟨.func, 1, 8, [.nilFunc], []⟩ := by kernel_rfl
theorem K126 : tkAt Try.prog 126 = some (.slice 130) := by kernel_rfl
theorem Z126 : szAt Try.prog 126 = some 1 := by kernel_rfl
theorem T126 : tiOf Try.prog 126 = some ⟨(.slice 130), 1, 24, [.slice none 0 0], []⟩ := by kernel_rfl
theorem K128 : tkAt Try.prog 128 = some .strct := by kernel_rfl
theorem Z128 : szAt Try.prog 128 = some 4 := by kernel_rfl
theorem T128 : tiOf Try.prog 128 = some ⟨.strct, 4, 32, [.int .i64 0, .int .i64 0, .int .i64 0, .int .i64 0], [⟨0, 1, (.int .i64)⟩, ⟨1, 1, (.int .i64)⟩, ⟨2, 1, (.int .i64)⟩, ⟨3, 1, (.int .i64)⟩]⟩ := by kernel_rfl
theorem K130 : tkAt Try.prog 130 = some .strct := by kernel_rfl
theorem Z130 : szAt Try.prog 130 = some 2 := by kernel_rfl
theorem T130 : tiOf Try.prog 130 = some ⟨.strct, 2, 16, [.int .i64 0, .int .i64 0], [⟨0, 1, (.int .i64)⟩, ⟨1, 1, (.int .i64)⟩]⟩ := by kernel_rfl
theorem K135 : tkAt Try.prog 135 = some .strct := by kernel_rfl
theorem Z135 : szAt Try.prog 135 = some 2 := by kernel_rfl
theorem T135 : tiOf Try.prog 135 = some ⟨.strct, 2, 32, [.slice none 0 0, .int .i64 0], [⟨0, 1, (.slice 5)⟩, ⟨1, 1, (.int .i64)⟩]⟩ := by kernel_rfl
theorem K148 : tkAt Try.prog 148 = some (.slice 180) := by kernel_rfl
theorem Z148 : szAt Try.prog 148 = some 1 := by kernel_rfl
theorem T148 : tiOf Try.prog 148 = some ⟨(.slice 180), 1, 24, [.slice none 0 0], []⟩ := by kernel_rfl
theorem K149 : tkAt Try.prog 149 = some (.slice 148) := by kernel_rfl
theorem Z149 : szAt Try.prog 149 = some 1 := by kernel_rfl
theorem T149 : tiOf Try.prog 149 = some ⟨(.slice 148), 1, 24, [.slice none 0 0], []⟩ := by kernel_rfl
theorem K151 : tkAt Try.prog 151 = some .strct := by kernel_rfl
theorem Z151 : szAt Try.prog 151 = some 3 := by kernel_rfl
theorem T151 : tiOf Try.prog 151 = some ⟨.strct, 3, 72, [.slice none 0 0, .slice none 0 0, .slice none 0 0], [⟨0, 1, (.slice 180)⟩, ⟨1, 1, (.slice 3)⟩, ⟨2, 1, (.slice 148)⟩]⟩ := by kernel_rfl
theorem K153 : tkAt Try.prog 153 = some .strct := by kernel_rfl
theorem Z153 : szAt Try.prog 153 = some 3 := by kernel_rfl
theorem T153 : tiOf Try.prog 153 = some ⟨.strct, 3, 24, [.int .i64 0, .int .i64 0, .int .i64 0], [⟨0, 1, (.int .i64)⟩, ⟨1, 1, (.int .i64)⟩, ⟨2, 1, (.int .i64)⟩]⟩ := by kernel_rfl
theorem K180 : tkAt Try.prog 180 = some .strct := by kernel_rfl
theorem Z180 : szAt Try.prog 180 = some 4 := by kernel_rfl
theorem T180 : tiOf Try.prog 180 = some ⟨.strct, 4, 32, [.int .i64 0, .int .i64 0, .int .i64 0, .int .i64 0], [⟨0, 1, (.int .i64)⟩, ⟨1, 1, (.int .i64)⟩, ⟨2, 1, (.int .i64)⟩, ⟨3, 1, (.int .i64)⟩]⟩ := by kernel_rfl
def cIVar : Cd IVar := cIso (cPair (cInt .i64) (cPair (cInt .i64) (cInt .i64))) (fun x => (x.f0, x.f1, x.f2))
theorem oIVar : cIVar.Ones := oIso (oPair (oInt .i64) (oPair (oInt .i64) (oInt .i64)))
theorem cIVar_R {x : IVar} {c : List PV} (h : cIVar.R x c) : c = [.lit (.int .i64 x.f0), .lit (.int .i64 x.f1), .lit (.int .i64 x.f2)] := by
  obtain ⟨p0, q0, e0, g0, r0⟩ := h
  obtain ⟨p1, q1, e1, g1, r1⟩ := r0
  have g0' : p0 = _ := g0
  have g1' : p1 = _ := g1
  have g2' : q1 = _ := r1
  rw [e0, g0', e1, g1', g2']; rfl
theorem cIVar_mk {a0 : Int} {a1 : Int} {a2 : Int}  : cIVar.R ⟨a0, a1, a2⟩ [.lit (.int .i64 a0), .lit (.int .i64 a1), .lit (.int .i64 a2)] := ⟨_, _, rfl, rfl, ⟨_, _, rfl, rfl, rfl⟩⟩
def cITerm : Cd ITerm := cIso (cPair (cInt .i64) (cPair (cInt .i64) (cPair (cInt .i64) (cInt .i64)))) (fun x => (x.f0, x.f1, x.f2, x.f3))
theorem oITerm : cITerm.Ones := oIso (oPair (oInt .i64) (oPair (oInt .i64) (oPair (oInt .i64) (oInt .i64))))
theorem cITerm_R {x : ITerm} {c : List PV} (h : cITerm.R x c) : c = [.lit (.int .i64 x.f0), .lit (.int .i64 x.f1), .lit (.int .i64 x.f2), .lit (.int .i64 x.f3)] := by
  obtain ⟨p0, q0, e0, g0, r0⟩ := h
  obtain ⟨p1, q1, e1, g1, r1⟩ := r0
  obtain ⟨p2, q2, e2, g2, r2⟩ := r1
  have g0' : p0 = _ := g0
  have g1' : p1 = _ := g1
  have g2' : p2 = _ := g2
  have g3' : q2 = _ := r2
  rw [e0, g0', e1, g1', e2, g2', g3']; rfl
theorem cITerm_mk {a0 : Int} {a1 : Int} {a2 : Int} {a3 : Int}  : cITerm.R ⟨a0, a1, a2, a3⟩ [.lit (.int .i64 a0), .lit (.int .i64 a1), .lit (.int .i64 a2), .lit (.int .i64 a3)] := ⟨_, _, rfl, rfl, ⟨_, _, rfl, rfl, ⟨_, _, rfl, rfl, rfl⟩⟩⟩
def cIRule : Cd IRule := cIso (cPair (cSl cITerm) (cPair (cSl (cInt .i64)) (cSl (cSl cITerm)))) (fun x => (x.f0, x.f1, x.f2))
theorem cIRule_R {x : IRule} {c : List PV} (h : cIRule.R x c) : ∃ v0 v1 v2, c = [v0, v1, v2] ∧ Sl cITerm x.f0 v0 ∧ Sl (cInt .i64) x.f1 v1 ∧ Sl (cSl cITerm) x.f2 v2 := by
  obtain ⟨p0, q0, e0, g0, r0⟩ := h
  obtain ⟨p1, q1, e1, g1, r1⟩ := r0
  obtain ⟨v0, g0', s0⟩ := g0
  obtain ⟨v1, g1', s1⟩ := g1
  obtain ⟨v2, g2', s2⟩ := r1
  exact ⟨v0, v1, v2, by rw [e0, g0', e1, g1', g2']; rfl, s0, s1, s2⟩
def odIRule : Od IRule := oIs (oPr (oPl (cSl cITerm) (oSl cITerm)) (oPr (oRow (oPl (cInt .i64) (oInt .i64))) (oRow (oPl (cSl cITerm) (oSl cITerm))))) (fun x => (x.f0, x.f1, x.f2))
theorem odIRule_mk {S : Sto} {l0 : List ITerm} {v0 : PV} (h0 : Sl cITerm l0 v0) {l1 : List Int} {v1 : PV} (h1 : Vec (cInt .i64) l1 v1 S) {l2 : List (List ITerm)} {v2 : PV} (h2 : Vec (cSl cITerm) l2 v2 S) (a : Ap v1 v2) : odIRule.R S ((PV.id? v1).toList ++ (PV.id? v2).toList) ⟨l0, l1, l2⟩ [v0, v1, v2] := ⟨[v0], [v1, v2], [], _, rfl, rfl, Apt.nil, ⟨rfl, _, rfl, h0⟩, [v1], [v2], _, _, rfl, rfl, a.apt, h1.tree _, h2.tree _⟩
attribute [go_sem] K3 Z3 T3 K4 Z4 T4 K5 Z5 T5 K22 Z22 T22 K23 Z23 T23 K24 Z24 T24 K26 Z26 T26 K27 Z27 T27 K30 Z30 T30 K42 Z42 T42 K53 Z53 T53 K54 Z54 T54 K56 Z56 T56 K66 Z66 T66 K73 Z73 T73 K86 Z86 T86 K89 Z89 T89 K91 Z91 T91 K101 Z101 T101 K102 Z102 T102 K104 Z104 T104 K106 Z106 T106 K108 Z108 T108 K124 Z124 T124 K126 Z126 T126 K128 Z128 T128 K130 Z130 T130 K135 Z135 T135 K148 Z148 T148 K149 Z149 T149 K151 Z151 T151 K153 Z153 T153 K180 Z180 T180
end Go.Proofs.Ytpjmiaooogephaa.PA
end
section
namespace Go.Proofs.Ytpjmiaooogephaa.PA
open Go Go.Abs Go.RowKit Go.Proofs Go.Proofs.YtpjmiaooogephaaW.PrintWords Go.Proofs.YtpjmiaooogephaaW.PrintLast Go.Proofs.YtpjmiaooogephaaW.PrintMore
set_option maxRecDepth 100000
set_option maxHeartbeats 4000000
set_option linter.unusedVariables false
set_option linter.unusedSimpArgs false
theorem impl_in.ev {a0 : Int} {a1 : Int} {a2 : Int} {r : Bool} (H : impl_in.f a0 a1 a2 = some r) : Ret Try.prog 85 [.lit (.int .i64 a0), .lit (.int .i64 a1), .lit (.int .i64 a2)] fun v S => v = .lit (.bool r) := by
 unfold impl_in.f at H
 refine Ret.intro Try.func85 rfl (Nat.le_of_ble_eq_true rfl) rfl ?_
 rw [tm3]
 refine Evr.sr rfl (Opl.p1 (n := Opl.nil (Evr.sr rfl (Opl.p1 (n := Opl.p1 (n := Opl.p1 (n := Opl.p1 (n := ?_))))))))
 by_cases c1 : a0 ≥ a1
 case neg =>
  rw [if_neg c1] at H
  have e2 : (decide (a0 ≥ a1)) = false := by simpa using c1
  try rw [e2]
  refine Opl.sk2 rfl rfl (Opl.skp rfl (Opl.p1 (n := Opl.p1 (n := Opl.nil ?_))))
  obtain rfl := sinj H
  refine Evr.ret1 Try.func85 rfl ?_
  show (.lit (.bool false) : PV) = _
  first | rfl | (simp only [go_sem]; rfl)
 rw [if_pos c1] at H
 have e1 : (decide (a0 ≥ a1)) = true := by simpa using c1
 try rw [e1]
 refine Opl.p1 (n := Opl.p1 (n := Opl.p1 (n := Opl.p1 (n := Opl.p1 (n := Opl.nil ?_)))))
 obtain rfl := sinj H
 refine Evr.ret1 Try.func85 rfl ?_
 show (.lit (.bool (decide (a0 ≤ a2))) : PV) = _
 first | rfl | (simp only [go_sem]; rfl)
theorem impl_size.ev {k : Nat} {l0 : List IVar} {v0 : PV} (hv0 : Sl cIVar l0 v0) {r : Int} (H : impl_size.f k l0 = some r) : Ret Try.prog 62 [v0] fun v S => v = .lit (.int .i64 r) := by
 unfold impl_size.f at H
 refine Ret.intro Try.func62 rfl (Nat.le_of_ble_eq_true rfl) rfl ?_
 rw [tm1]
 refine Evr.sr rfl (Opl.p1 (n := Opl.nil (Evr.sr rfl (Opl.p1 (n := Opl.nil (Evr.seq (Evr.sr rfl (Opl.p1 (n := Opl.len (xs := l0) (by exact hv0) K23 rfl rfl rfl rfl (Opl.p1 (n := Opl.nil (Evr.block ?_))))))))))))
 refine Evr.loop (Evr.rounds (n := k) (Inv := fun n tm S => n ≤ k ∧ ∃ (x3_1 : Int) (x8_1 : Int), impl_size.l0 n x3_1 l0 (l0.length : Int) x8_1 = some r ∧ Has tm [(3, .lit (.int .i64 x3_1)), (6, v0), (7, .lit (.int .i64 (l0.length : Int))), (8, .lit (.int .i64 x8_1))]) ?_ ?_ ?_)
 · exact ⟨Nat.le_refl _, _, _, H, ⟨rfl, rfl, rfl, rfl, trivial⟩⟩
 ·
  rintro tm S ⟨_, _, _, H, -⟩
  simp [impl_size.l0] at H
 ·
  rintro n1 ih1 tm S ⟨hle, x3_1, x8_1, H, hh⟩
  simp only [impl_size.l0] at H
  rw [hh.eq]
  refine Evr.sr rfl (Opl.p1 (n := Opl.nil (Evr.seq ?_)))
  by_cases c1 : x8_1 < (l0.length : Int)
  case neg =>
   rw [if_neg c1] at H
   have e2 : (decide (x8_1 < (l0.length : Int))) = false := by simpa using c1
   try rw [e2]
   refine Evr.condF rfl (Evr.exit rfl (Evr.sr rfl (Opl.p1 (n := Opl.p1 (n := Opl.nil ?_)))))
   obtain rfl := sinj H
   refine Evr.ret1 Try.func62 rfl ?_
   show (.lit (.int .i64 x3_1) : PV) = _
   first | rfl | (simp only [go_sem]; rfl)
  rw [if_pos c1] at H
  have e1 : (decide (x8_1 < (l0.length : Int))) = true := by simpa using c1
  try rw [e1]
  refine Evr.condT rfl (Evr.skip (Evr.seq (Evr.block (Evr.sr rfl ?_))))
  obtain ⟨c2, H⟩ := peel H
  obtain ⟨c3, H⟩ := peel H
  refine Opl.idx (M := cIVar) (xs := l0) (j := x8_1) zIVar (by exact hv0) rfl (by omega) (by omega) K23 Z101 rfl rfl ?_
  rintro p1 q1 h1
  obtain rfl := cIVar_R (x := (rd_IVar l0 x8_1)) h1
  refine Opl.lda (.agg [.lit (.int .i64 ((rd_IVar l0 x8_1).f0)), .lit (.int .i64 ((rd_IVar l0 x8_1).f1)), .lit (.int .i64 ((rd_IVar l0 x8_1).f2))]) rfl T101 rfl rfl rfl rfl (Opl.alloc T101 rfl rfl rfl ?_)
  rintro i1 S h2 u1 w1
  refine Opl.stb (vs := [.lit (.int .i64 ((rd_IVar l0 x8_1).f0)), .lit (.int .i64 ((rd_IVar l0 x8_1).f1)), .lit (.int .i64 ((rd_IVar l0 x8_1).f2))]) h2 rfl rfl Z101 rfl (Nat.le_of_ble_eq_true rfl) rfl rfl rfl rfl ?_
  rintro S (h3 : Box (.ptr i1 0) [.lit (.int .i64 ((rd_IVar l0 x8_1).f0)), .lit (.int .i64 ((rd_IVar l0 x8_1).f1)), .lit (.int .i64 ((rd_IVar l0 x8_1).f2))] _) u2
  refine Opl.nil (Evr.regionN rfl (Opl.p1 (n := Opl.p1 (v := .ptr i1 1) (n := Opl.ldb (v := .lit (.int .i64 ((rd_IVar l0 x8_1).f1))) h3 rfl T3 rfl rfl rfl rfl (Opl.p1 (v := .ptr i1 0) (n := Opl.ldb (v := .lit (.int .i64 ((rd_IVar l0 x8_1).f0))) h3 rfl T3 rfl rfl rfl rfl (Opl.subi (k := .i64) (a := ((rd_IVar l0 x8_1).f1)) (b := ((rd_IVar l0 x8_1).f0)) K3 rfl rfl rfl rfl (Opl.add (k := .i64) (a := (wrap64 (((rd_IVar l0 x8_1).f1) - ((rd_IVar l0 x8_1).f0)))) (b := 1) K3 rfl rfl rfl rfl (Opl.mul (k := .i64) (a := x3_1) (b := (wrap64 ((wrap64 (((rd_IVar l0 x8_1).f1) - ((rd_IVar l0 x8_1).f0))) + 1))) K3 rfl rfl rfl rfl (Opl.one (v := .lit (.int .i64 (wrap64 (x3_1 * (wrap64 ((wrap64 (((rd_IVar l0 x8_1).f1) - ((rd_IVar l0 x8_1).f0))) + 1)))))) rfl rfl rfl (Opl.nil (Evr.inBlock (Evr.regionN rfl (Opl.add (k := .i64) (a := x8_1) (b := 1) K3 rfl rfl rfl rfl (Opl.one (v := .lit (.int .i64 (wrap64 (x8_1 + 1)))) rfl rfl rfl (Opl.nil ?_))))))))))))))))
  exact ih1 _ (by omega) _ _ ⟨by omega, _, _, H, ⟨rfl, rfl, rfl, rfl, trivial⟩⟩
theorem impl_varOk.ev {a0_0 : Int} {a0_1 : Int} {a0_2 : Int} {r : Bool} (H : impl_varOk.f a0_0 a0_1 a0_2 = some r) : Ret Try.prog 90 [.agg [.lit (.int .i64 a0_0), .lit (.int .i64 a0_1), .lit (.int .i64 a0_2)]] fun v S => v = .lit (.bool r) := by
 unfold impl_varOk.f at H
 refine Ret.intro Try.func90 rfl (Nat.le_of_ble_eq_true rfl) rfl ?_
 rw [tm1]
 refine Evr.sr rfl (Opl.box (cs := [.lit (.int .i64 a0_0), .lit (.int .i64 a0_1), .lit (.int .i64 a0_2)]) rfl rfl rfl rfl ?_)
 rintro i1 S h1 u1 w1
 refine Opl.p1 (n := Opl.nil (Evr.sr rfl (Opl.p1 (v := .ptr i1 0) (n := Opl.ldb (v := .lit (.int .i64 a0_0)) h1 rfl T3 rfl rfl rfl rfl ?_))))
 obtain ⟨t480, h_t480, H⟩ := obs H
 refine Opl.callc (impl_in.ev h_t480) rfl rfl rfl rfl ⟨(.lit _), (.lit _), (.lit _), trivial⟩ (by decide) (Opl.p1 (n := ?_))
 by_cases c1 : t480 = true
 case neg =>
  rw [if_neg c1] at H
  obtain rfl : t480 = false := by simpa using c1
  refine Opl.sk4 rfl rfl rfl rfl (Opl.skp rfl (Opl.p1 (n := Opl.p1 (n := Opl.sk4 rfl rfl rfl rfl (Opl.sk2 rfl rfl (Opl.p1 (n := Opl.p1 (n := Opl.sk4 rfl rfl rfl rfl (Opl.sk2 rfl rfl (Opl.skp rfl (Opl.p1 (n := Opl.p1 (n := Opl.nil ?_)))))))))))))
  obtain rfl := sinj H
  refine Evr.ret1 Try.func90 rfl ?_
  show (.lit (.bool false) : PV) = _
  first | rfl | (simp only [go_sem]; rfl)
 rw [if_pos c1] at H
 obtain rfl : t480 = true := by simpa using c1
 refine Opl.p1 (v := .ptr i1 1) (n := Opl.ldb (v := .lit (.int .i64 a0_1)) h1 rfl T3 rfl rfl rfl rfl (Opl.p1 (v := .ptr i1 0) (n := Opl.ldb (v := .lit (.int .i64 a0_0)) h1 rfl T3 rfl rfl rfl rfl ?_)))
 obtain ⟨t481, h_t481, H⟩ := obs H
 refine Opl.callc (impl_in.ev h_t481) rfl rfl rfl rfl ⟨(.lit _), (.lit _), (.lit _), trivial⟩ (by decide) (Opl.p1 (n := Opl.p1 (n := ?_)))
 by_cases c2 : t481 = true
 case neg =>
  rw [if_neg c2] at H
  obtain rfl : t481 = false := by simpa using c2
  refine Opl.sk4 rfl rfl rfl rfl (Opl.sk2 rfl rfl (Opl.p1 (n := Opl.p1 (n := Opl.sk4 rfl rfl rfl rfl (Opl.sk2 rfl rfl (Opl.skp rfl (Opl.p1 (n := Opl.p1 (n := Opl.nil ?_)))))))))
  obtain rfl := sinj H
  refine Evr.ret1 Try.func90 rfl ?_
  show (.lit (.bool false) : PV) = _
  first | rfl | (simp only [go_sem]; rfl)
 rw [if_pos c2] at H
 obtain rfl : t481 = true := by simpa using c2
 refine Opl.p1 (v := .ptr i1 1) (n := Opl.ldb (v := .lit (.int .i64 a0_1)) h1 rfl T3 rfl rfl rfl rfl (Opl.p1 (v := .ptr i1 0) (n := Opl.ldb (v := .lit (.int .i64 a0_0)) h1 rfl T3 rfl rfl rfl rfl (Opl.subi (k := .i64) (a := a0_1) (b := a0_0) K3 rfl rfl rfl rfl (Opl.lss (a := (wrap64 (a0_1 - a0_0))) (b := 20) K3 rfl rfl rfl rfl (Opl.p1 (n := Opl.one (v := .lit (.bool (decide ((wrap64 (a0_1 - a0_0)) < 20)))) rfl rfl rfl ?_)))))))
 by_cases c3 : (wrap64 (a0_1 - a0_0)) < 20
 case neg =>
  rw [if_neg c3] at H
  have e2 : (decide ((wrap64 (a0_1 - a0_0)) < 20)) = false := by simpa using c3
  try rw [e2]
  refine Opl.sk4 rfl rfl rfl rfl (Opl.sk2 rfl rfl (Opl.skp rfl (Opl.p1 (n := Opl.one (v := .lit (.bool false)) rfl rfl rfl (Opl.nil ?_)))))
  obtain rfl := sinj H
  refine Evr.ret1 Try.func90 rfl ?_
  show (.lit (.bool false) : PV) = _
  first | rfl | (simp only [go_sem]; rfl)
 rw [if_pos c3] at H
 have e1 : (decide ((wrap64 (a0_1 - a0_0)) < 20)) = true := by simpa using c3
 try rw [e1]
 refine Opl.p1 (v := .ptr i1 2) (n := Opl.ldb (v := .lit (.int .i64 a0_2)) h1 rfl T3 rfl rfl rfl rfl (Opl.p1 (v := .ptr i1 0) (n := Opl.ldb (v := .lit (.int .i64 a0_0)) h1 rfl T3 rfl rfl rfl rfl (Opl.p1 (v := .ptr i1 1) (n := Opl.ldb (v := .lit (.int .i64 a0_1)) h1 rfl T3 rfl rfl rfl rfl ?_)))))
 obtain ⟨t482, h_t482, H⟩ := obs H
 refine Opl.callc (impl_in.ev h_t482) rfl rfl rfl rfl ⟨(.lit _), (.lit _), (.lit _), trivial⟩ (by decide) (Opl.p1 (n := Opl.one (v := .lit (.bool t482)) rfl rfl rfl (Opl.nil ?_)))
 obtain rfl := sinj H
 refine Evr.ret1 Try.func90 rfl ?_
 show (.lit (.bool t482) : PV) = _
 first | rfl | (simp only [go_sem]; rfl)
theorem impl_SystemValid_1.ev {a0_0 : Int} {a0_1 : Int} {a0_2 : Int} {r : Bool} (H : impl_SystemValid_1.f a0_0 a0_1 a0_2 = some r) : Ret Try.prog 89 [.agg [.lit (.int .i64 a0_0), .lit (.int .i64 a0_1), .lit (.int .i64 a0_2)]] fun v S => v = .lit (.bool r) := by
 unfold impl_SystemValid_1.f at H
 refine Ret.intro Try.func89 rfl (Nat.le_of_ble_eq_true rfl) rfl ?_
 rw [tm1]
 refine Evr.sr rfl (Opl.box (cs := [.lit (.int .i64 a0_0), .lit (.int .i64 a0_1), .lit (.int .i64 a0_2)]) rfl rfl rfl rfl ?_)
 rintro i1 S h1 u1 w1
 refine Opl.p1 (n := Opl.nil (Evr.sr rfl (Opl.ldb (v := .agg [.lit (.int .i64 a0_0), .lit (.int .i64 a0_1), .lit (.int .i64 a0_2)]) h1 rfl T101 rfl rfl rfl rfl ?_)))
 obtain ⟨t513, h_t513, H⟩ := obs H
 refine Opl.callc (impl_varOk.ev h_t513) rfl rfl rfl rfl ⟨(.aggL ⟨(.lit _), (.lit _), (.lit _), trivial⟩), trivial⟩ (by decide) (Opl.p1 (n := Opl.p1 (n := Opl.nil ?_)))
 obtain rfl := sinj H
 refine Evr.ret1 Try.func89 rfl ?_
 show (.lit (.bool (!t513)) : PV) = _
 first | rfl | (simp only [go_sem]; rfl)
theorem slices_IndexFunc_at_impl_SystemValid_1.ev {k : Nat} {l0 : List IVar} {v0 : PV} (hv0 : Sl cIVar l0 v0) {r : Int} (H : slices_IndexFunc_at_impl_SystemValid_1.f k l0 = some r) : Ret Try.prog 148 [v0, .lit (.func (.func 89) #[] #[])] fun v S => v = .lit (.int .i64 r) := by
 unfold slices_IndexFunc_at_impl_SystemValid_1.f at H
 refine Ret.intro Try.func148 rfl (Nat.le_of_ble_eq_true rfl) rfl ?_
 rw [tm2]
 refine Evr.sr rfl (Opl.p1 (n := Opl.nil (Evr.seq (Evr.sr rfl (Opl.p1 (n := Opl.len (xs := l0) (by exact hv0) K23 rfl rfl rfl rfl (Opl.p1 (n := Opl.nil (Evr.block ?_)))))))))
 refine Evr.loop (Evr.rounds (n := k) (Inv := fun n tm S => n ≤ k ∧ ∃ (x8_1 : Int), slices_IndexFunc_at_impl_SystemValid_1.l0 n l0 (l0.length : Int) x8_1 = some r ∧ Has tm [(0, v0), (1, .lit (.func (.func 89) #[] #[])), (7, .lit (.int .i64 (l0.length : Int))), (8, .lit (.int .i64 x8_1))]) ?_ ?_ ?_)
 · exact ⟨Nat.le_refl _, _, H, ⟨rfl, rfl, rfl, rfl, trivial⟩⟩
 ·
  rintro tm S ⟨_, _, H, -⟩
  simp [slices_IndexFunc_at_impl_SystemValid_1.l0] at H
 ·
  rintro n1 ih1 tm S ⟨hle, x8_1, H, hh⟩
  simp only [slices_IndexFunc_at_impl_SystemValid_1.l0] at H
  rw [hh.eq]
  refine Evr.sr rfl (Opl.p1 (n := Opl.nil (Evr.seq ?_)))
  by_cases c1 : x8_1 < (l0.length : Int)
  case neg =>
   rw [if_neg c1] at H
   have e2 : (decide (x8_1 < (l0.length : Int))) = false := by simpa using c1
   try rw [e2]
   refine Evr.condF rfl (Evr.exit rfl (Evr.sr rfl (Opl.p1 (n := Opl.nil ?_))))
   obtain rfl := sinj H
   refine Evr.ret1 Try.func148 rfl ?_
   show (.lit (.int .i64 (-1)) : PV) = _
   first | rfl | (simp only [go_sem]; rfl)
  rw [if_pos c1] at H
  have e1 : (decide (x8_1 < (l0.length : Int))) = true := by simpa using c1
  try rw [e1]
  refine Evr.condT rfl (Evr.skip (Evr.seq (Evr.block (Evr.sr rfl (Opl.p1 (n := Opl.p1 (n := Opl.nil (Evr.sr rfl (Opl.p1 (n := Opl.p1 (n := Opl.p1 (n := ?_))))))))))))
  obtain ⟨c2, H⟩ := peel H
  obtain ⟨c3, H⟩ := peel H
  refine Opl.idx (M := cIVar) (xs := l0) (j := x8_1) zIVar (by exact hv0) rfl (by omega) (by omega) K23 Z101 rfl rfl ?_
  rintro p1 q1 h1
  obtain rfl := cIVar_R (x := (rd_IVar l0 x8_1)) h1
  refine Opl.lda (.agg [.lit (.int .i64 ((rd_IVar l0 x8_1).f0)), .lit (.int .i64 ((rd_IVar l0 x8_1).f1)), .lit (.int .i64 ((rd_IVar l0 x8_1).f2))]) rfl T101 rfl rfl rfl rfl ?_
  obtain ⟨t515, h_t515, H⟩ := obs H
  refine Opl.callc (impl_SystemValid_1.ev h_t515) rfl rfl rfl rfl ⟨(.aggL ⟨(.lit _), (.lit _), (.lit _), trivial⟩), trivial⟩ (by decide) (Opl.nil ?_)
  by_cases c4 : t515 = true
  case pos =>
   rw [if_pos c4] at H
   obtain rfl : t515 = true := by simpa using c4
   refine Evr.condT rfl (Evr.sr rfl (Opl.p1 (n := Opl.p1 (n := Opl.nil ?_))))
   obtain rfl := sinj H
   refine Evr.ret1 Try.func148 rfl ?_
   show (.lit (.int .i64 x8_1) : PV) = _
   first | rfl | (simp only [go_sem]; rfl)
  rw [if_neg c4] at H
  obtain rfl : t515 = false := by simpa using c4
  refine Evr.condF rfl (Evr.skip (Evr.inBlock (Evr.regionN rfl (Opl.add (k := .i64) (a := x8_1) (b := 1) K3 rfl rfl rfl rfl (Opl.one (v := .lit (.int .i64 (wrap64 (x8_1 + 1)))) rfl rfl rfl (Opl.nil ?_))))))
  exact ih1 _ (by omega) _ _ ⟨by omega, _, H, ⟨rfl, rfl, rfl, rfl, trivial⟩⟩
theorem slices_ContainsFunc_at_impl_SystemValid_1.ev {k : Nat} {l0 : List IVar} {v0 : PV} (hv0 : Sl cIVar l0 v0) {r : Bool} (H : slices_ContainsFunc_at_impl_SystemValid_1.f k l0 = some r) : Ret Try.prog 88 [v0, .lit (.func (.func 89) #[] #[])] fun v S => v = .lit (.bool r) := by
 unfold slices_ContainsFunc_at_impl_SystemValid_1.f at H
 refine Ret.intro Try.func88 rfl (Nat.le_of_ble_eq_true rfl) rfl ?_
 rw [tm2]
 refine Evr.sr rfl (Opl.p1 (n := Opl.nil (Evr.sr rfl (Opl.p1 (n := Opl.p1 (n := ?_))))))
 obtain ⟨t516, h_t516, H⟩ := obs H
 refine Opl.callc (slices_IndexFunc_at_impl_SystemValid_1.ev hv0 h_t516) rfl rfl rfl rfl ⟨hv0.plain, (.lit _), trivial⟩ (by decide) (Opl.p1 (n := Opl.p1 (n := Opl.nil ?_)))
 obtain rfl := sinj H
 refine Evr.ret1 Try.func88 rfl ?_
 show (.lit (.bool (decide (t516 ≥ 0))) : PV) = _
 first | rfl | (simp only [go_sem]; rfl)
theorem impl_parts.ev {k : Nat} {a0 : Int} {r : Int × Int × Int} (H : impl_parts.f k a0 = some r) : Ret Try.prog 198 [.lit (.int .i64 a0)] fun v S => Out (fun q => ∃ q1 q2 q3, q = .tup [q1, q2, q3] ∧ q1 = .lit (.int .i64 r.1) ∧ q2 = .lit (.int .i64 r.2.1) ∧ q3 = .lit (.int .i64 r.2.2)) v S := by
 unfold impl_parts.f at H
 refine Ret.intro Try.func198 rfl (Nat.le_of_ble_eq_true rfl) rfl ?_
 rw [tm1]
 refine Evr.sr rfl (Opl.p1 (n := Opl.p1 (n := Opl.p1 (n := Opl.nil (Evr.seq (Evr.sr rfl (Opl.p1 (n := Opl.nil (Evr.block (Evr.seq (Evr.sr rfl (Opl.p1 (n := Opl.p1 (n := Opl.nil ?_))))))))))))))
 refine Evr.join (fun tm S => ∃ (kq1 : Nat) (x6_1 : Bool), impl_parts.j0 kq1 a0 x6_1 = some r ∧ Has tm [(5, .lit (.int .i64 a0)), (6, .lit (.bool x6_1))]) ?_ fun hk1 => ?_
 ·
  rintro tm S ⟨kq1, x6_1, H, hh⟩
  rw [hh.eq]
  obtain _ | k1 := kq1
  · simp [impl_parts.j0] at H
  simp only [impl_parts.j0] at H
  by_cases c1 : x6_1 = true
  case pos =>
   rw [if_pos c1] at H
   obtain rfl : x6_1 = true := by simpa using c1
   refine Evr.condT rfl (Evr.sr rfl (Opl.p1 (n := Opl.p1 (n := Opl.p1 (n := Opl.nil ?_)))))
   obtain rfl := sinj H
   refine Evr.ret3 Try.func198 rfl ?_
   show Out _ (.tup [.lit (.int .i64 2), .lit (.int .i64 1), .lit (.int .i64 1)]) _
   exact .tup3 .lit .lit .lit
  rw [if_neg c1] at H
  obtain rfl : x6_1 = false := by simpa using c1
  refine Evr.condF rfl (Evr.seq (Evr.sr rfl (Opl.p1 (n := Opl.p1 (n := Opl.nil ?_)))))
  refine Evr.join (fun tm S => ∃ (kq2 : Nat) (x10_1 : Bool), impl_parts.j1 kq2 a0 x10_1 = some r ∧ Has tm [(5, .lit (.int .i64 a0)), (10, .lit (.bool x10_1))]) ?_ fun hk2 => ?_
  ·
   rintro tm S ⟨kq2, x10_1, H, hh⟩
   rw [hh.eq]
   obtain _ | k2 := kq2
   · simp [impl_parts.j1] at H
   simp only [impl_parts.j1] at H
   by_cases c2 : x10_1 = true
   case pos =>
    rw [if_pos c2] at H
    obtain rfl : x10_1 = true := by simpa using c2
    refine Evr.condT rfl (Evr.sr rfl (Opl.p1 (n := Opl.p1 (n := Opl.p1 (n := Opl.nil ?_)))))
    obtain rfl := sinj H
    refine Evr.ret3 Try.func198 rfl ?_
    show Out _ (.tup [.lit (.int .i64 2), .lit (.int .i64 1), .lit (.int .i64 2)]) _
    exact .tup3 .lit .lit .lit
   rw [if_neg c2] at H
   obtain rfl : x10_1 = false := by simpa using c2
   refine Evr.condF rfl (Evr.sr rfl (Opl.p1 (n := Opl.p1 (n := Opl.nil ?_))))
   by_cases c3 : a0 = 7
   case pos =>
    rw [if_pos c3] at H
    have e1 : (a0 == 7) = true := by simpa using c3
    try rw [e1]
    refine Evr.condT rfl (Evr.sr rfl (Opl.p1 (n := Opl.p1 (n := Opl.p1 (n := Opl.nil ?_)))))
    obtain rfl := sinj H
    refine Evr.ret3 Try.func198 rfl ?_
    show Out _ (.tup [.lit (.int .i64 1), .lit (.int .i64 2), .lit (.int .i64 2)]) _
    exact .tup3 .lit .lit .lit
   rw [if_neg c3] at H
   have e2 : (a0 == 7) = false := by simpa using c3
   try rw [e2]
   refine Evr.condF rfl (Evr.seq (Evr.sr rfl (Opl.p1 (n := Opl.p1 (n := Opl.nil ?_)))))
   refine Evr.join (fun tm S => ∃ (kq3 : Nat) (x15_1 : Bool), impl_parts.j2 kq3 x15_1 = some r ∧ Has tm [(15, .lit (.bool x15_1))]) ?_ fun hk3 => ?_
   ·
    rintro tm S ⟨kq3, x15_1, H, hh⟩
    rw [hh.eq]
    obtain _ | k3 := kq3
    · simp [impl_parts.j2] at H
    simp only [impl_parts.j2] at H
    by_cases c4 : x15_1 = true
    case pos =>
     rw [if_pos c4] at H
     obtain rfl : x15_1 = true := by simpa using c4
     refine Evr.condT rfl (Evr.sr rfl (Opl.p1 (n := Opl.p1 (n := Opl.p1 (n := Opl.nil ?_)))))
     obtain rfl := sinj H
     refine Evr.ret3 Try.func198 rfl ?_
     show Out _ (.tup [.lit (.int .i64 2), .lit (.int .i64 2), .lit (.int .i64 2)]) _
     exact .tup3 .lit .lit .lit
    rw [if_neg c4] at H
    obtain rfl : x15_1 = false := by simpa using c4
    refine Evr.condF rfl (Evr.skip (Evr.inBlock (Evr.sr rfl (Opl.p1 (n := Opl.p1 (n := Opl.p1 (n := Opl.nil ?_)))))))
    obtain rfl := sinj H
    refine Evr.ret3 Try.func198 rfl ?_
    show Out _ (.tup [.lit (.int .i64 0), .lit (.int .i64 0), .lit (.int .i64 1)]) _
    exact .tup3 .lit .lit .lit
   ·
    by_cases c5 : a0 = 8
    case pos =>
     rw [if_pos c5] at H
     have e3 : (a0 == 8) = true := by simpa using c5
     try rw [e3]
     refine Evr.condT rfl (Evr.skip ?_)
     exact hk3 _ _ ⟨_, _, H, ⟨(by first | rfl | (show PV.lit (.bool _) = _; congr 2; simp_all)), trivial⟩⟩
    rw [if_neg c5] at H
    have e4 : (a0 == 8) = false := by simpa using c5
    try rw [e4]
    refine Evr.condF rfl (Evr.regionN rfl (Opl.p1 (n := Opl.p1 (n := Opl.nil ?_))))
    exact hk3 _ _ ⟨_, _, H, ⟨(by first | rfl | (show PV.lit (.bool _) = _; congr 2; simp_all)), trivial⟩⟩
  ·
   by_cases c6 : a0 = 5
   case pos =>
    rw [if_pos c6] at H
    have e5 : (a0 == 5) = true := by simpa using c6
    try rw [e5]
    refine Evr.condT rfl (Evr.skip ?_)
    exact hk2 _ _ ⟨_, _, H, ⟨rfl, (by first | rfl | (show PV.lit (.bool _) = _; congr 2; simp_all)), trivial⟩⟩
   rw [if_neg c6] at H
   have e6 : (a0 == 5) = false := by simpa using c6
   try rw [e6]
   refine Evr.condF rfl (Evr.regionN rfl (Opl.p1 (n := Opl.p1 (n := Opl.nil ?_))))
   exact hk2 _ _ ⟨_, _, H, ⟨rfl, (by first | rfl | (show PV.lit (.bool _) = _; congr 2; simp_all)), trivial⟩⟩
 ·
  by_cases c7 : a0 = 2
  case pos =>
   rw [if_pos c7] at H
   have e7 : (a0 == 2) = true := by simpa using c7
   try rw [e7]
   refine Evr.condT rfl (Evr.skip ?_)
   exact hk1 _ _ ⟨_, _, H, ⟨rfl, (by first | rfl | (show PV.lit (.bool _) = _; congr 2; simp_all)), trivial⟩⟩
  rw [if_neg c7] at H
  have e8 : (a0 == 2) = false := by simpa using c7
  try rw [e8]
  refine Evr.condF rfl (Evr.sr rfl (Opl.p1 (n := Opl.p1 (n := Opl.nil ?_))))
  refine Evr.join (fun tm S => ∃ (kq4 : Nat) (x6_2 : Bool), impl_parts.j0 kq4 a0 x6_2 = some r ∧ Has tm [(5, .lit (.int .i64 a0)), (6, .lit (.bool x6_2))]) ?_ fun hk4 => ?_
  ·
   rintro tm S ⟨kq4, x6_2, H, hh⟩
   rw [hh.eq]
   exact hk1 _ _ ⟨_, _, H, ⟨rfl, (by first | rfl | (show PV.lit (.bool _) = _; congr 2; simp_all)), trivial⟩⟩
  ·
   by_cases c8 : a0 = 3
   case pos =>
    rw [if_pos c8] at H
    have e9 : (a0 == 3) = true := by simpa using c8
    try rw [e9]
    refine Evr.condT rfl (Evr.skip ?_)
    exact hk4 _ _ ⟨_, _, H, ⟨rfl, (by first | rfl | (show PV.lit (.bool _) = _; congr 2; simp_all)), trivial⟩⟩
   rw [if_neg c8] at H
   have e10 : (a0 == 3) = false := by simpa using c8
   try rw [e10]
   refine Evr.condF rfl (Evr.regionN rfl (Opl.p1 (n := Opl.p1 (n := Opl.nil ?_))))
   exact hk4 _ _ ⟨_, _, H, ⟨rfl, (by first | rfl | (show PV.lit (.bool _) = _; congr 2; simp_all)), trivial⟩⟩
theorem impl_kindsOf.ev {k : Nat} {l0 : List ITerm} {v0 : PV} (hv0 : Sl cITerm l0 v0) {a1 : Int} {r : (List Int)} (H : impl_kindsOf.f k l0 a1 = some r) : Ret Try.prog 166 [v0, .lit (.int .i64 a1)] fun v S => Vec (cInt .i64) r v S ∧ (r = [] → v = .lit (.slice none 0 0)) := by
 unfold impl_kindsOf.f at H
 refine Ret.intro Try.func166 rfl (Nat.le_of_ble_eq_true rfl) rfl ?_
 rw [tm2]
 refine Evr.sr rfl (Opl.p1 (n := Opl.nil (Evr.seq (Evr.seq ?_))))
 refine Evr.join (fun tm S => ∃ (kq1 : Nat) (x20_1 : Bool), impl_kindsOf.j0 kq1 l0 a1 x20_1 = some r ∧ Has tm [(0, v0), (1, .lit (.int .i64 a1)), (20, .lit (.bool x20_1))]) ?_ fun hk1 => ?_
 ·
  rintro tm S ⟨kq1, x20_1, H, hh⟩
  rw [hh.eq]
  obtain _ | k1 := kq1
  · simp [impl_kindsOf.j0] at H
  simp only [impl_kindsOf.j0] at H
  by_cases c1 : x20_1 = true
  case pos =>
   rw [if_pos c1] at H
   obtain rfl : x20_1 = true := by simpa using c1
   refine Evr.condT rfl (Evr.sr rfl (Opl.p1 (n := Opl.nil ?_)))
   obtain rfl := sinj H
   refine Evr.ret1 Try.func166 rfl ?_
   show Vec _ _ (.lit (.slice none 0 0)) _ ∧ _
   exact ⟨.nil, by intro e; first | rfl | (have := congrArg List.length e; simp only [List.length_nil] at this; omega)⟩
  rw [if_neg c1] at H
  obtain rfl : x20_1 = false := by simpa using c1
  refine Evr.condF rfl (Evr.skip (Evr.sr rfl (Opl.p1 (n := Opl.len (xs := l0) (by exact hv0) K66 rfl rfl rfl rfl ?_))))
  obtain ⟨c2, H⟩ := peel H
  obtain ⟨c3, H⟩ := peel H
  refine Opl.make0 (M := (cInt .i64)) (m := (l0.length : Int)) rfl rfl K27 T3 rfl rfl (by omega) (by show ((l0.length : Int)).toNat * 8 ≤ 281474976710656; omega) (by omega) rfl rfl rfl ?_
  rintro pv2 S h1 u1 w1
  refine Opl.p1 (n := Opl.nil (Evr.seq (Evr.sr rfl (Opl.p1 (n := Opl.len (xs := l0) (by exact hv0) K66 rfl rfl rfl rfl (Opl.p1 (n := Opl.nil (Evr.block ?_))))))))
  refine Evr.loop (Evr.rounds (n := k1) (Inv := fun n tm S => n ≤ k1 ∧ ∃ (x5_1 : List Int) (x26_1 : Int) (pv3 : PV), impl_kindsOf.l0 n a1 x5_1 l0 (l0.length : Int) x26_1 = some r ∧ Has tm [(1, .lit (.int .i64 a1)), (5, pv3), (24, v0), (25, .lit (.int .i64 (l0.length : Int))), (26, .lit (.int .i64 x26_1))] ∧ Vec (cInt .i64) x5_1 pv3 S) ?_ ?_ ?_)
  · exact ⟨Nat.le_refl _, _, _, _, H, ⟨rfl, rfl, rfl, rfl, rfl, trivial⟩, h1⟩
  ·
   rintro tm S ⟨_, _, _, _, H, -⟩
   simp [impl_kindsOf.l0] at H
  ·
   rintro n1 ih1 tm S ⟨hle, x5_1, x26_1, pv3, H, hh, h2⟩
   simp only [impl_kindsOf.l0] at H
   rw [hh.eq]
   refine Evr.sr rfl (Opl.p1 (n := Opl.nil (Evr.seq ?_)))
   by_cases c4 : x26_1 < (l0.length : Int)
   case neg =>
    rw [if_neg c4] at H
    have e20 : (decide (x26_1 < (l0.length : Int))) = false := by simpa using c4
    try rw [e20]
    refine Evr.condF rfl (Evr.exit rfl (Evr.sr rfl (Opl.p1 (n := Opl.p1 (n := Opl.nil ?_)))))
    obtain ⟨c26, H⟩ := peel H
    obtain rfl := sinj H
    refine Evr.ret1 Try.func166 rfl ?_
    show Vec _ _ pv3 _ ∧ _
    exact ⟨h2, by intro e; first | rfl | (have := congrArg List.length e; simp only [List.length_nil] at this; omega)⟩
   rw [if_pos c4] at H
   have e1 : (decide (x26_1 < (l0.length : Int))) = true := by simpa using c4
   try rw [e1]
   refine Evr.condT rfl (Evr.skip (Evr.seq (Evr.block (Evr.sr rfl (Opl.p1 (n := ?_))))))
   obtain ⟨c5, H⟩ := peel H
   obtain ⟨c6, H⟩ := peel H
   refine Opl.idx (M := cITerm) (xs := l0) (j := x26_1) zITerm (by exact hv0) rfl (by omega) (by omega) K66 Z128 rfl rfl ?_
   rintro p1 q1 h3
   obtain rfl := cITerm_R (x := (rd_ITerm l0 x26_1)) h3
   refine Opl.lda (.agg [.lit (.int .i64 ((rd_ITerm l0 x26_1).f0)), .lit (.int .i64 ((rd_ITerm l0 x26_1).f1)), .lit (.int .i64 ((rd_ITerm l0 x26_1).f2)), .lit (.int .i64 ((rd_ITerm l0 x26_1).f3))]) rfl T128 rfl rfl rfl rfl (Opl.alloc T128 rfl rfl rfl ?_)
   rintro i1 S h4 u2 w2
   have ap1 := w2.vec h2
   have h5 := u2.vec h2 ap1
   refine Opl.p1 (n := Opl.stb (vs := [.lit (.int .i64 ((rd_ITerm l0 x26_1).f0)), .lit (.int .i64 ((rd_ITerm l0 x26_1).f1)), .lit (.int .i64 ((rd_ITerm l0 x26_1).f2)), .lit (.int .i64 ((rd_ITerm l0 x26_1).f3))]) h4 rfl rfl Z128 rfl (Nat.le_of_ble_eq_true rfl) rfl rfl rfl rfl ?_)
   rintro S (h6 : Box (.ptr i1 0) [.lit (.int .i64 ((rd_ITerm l0 x26_1).f0)), .lit (.int .i64 ((rd_ITerm l0 x26_1).f1)), .lit (.int .i64 ((rd_ITerm l0 x26_1).f2)), .lit (.int .i64 ((rd_ITerm l0 x26_1).f3))] _) u3
   have h7 := u3.vec h5 ap1
   refine Opl.nil (Evr.sr rfl (Opl.p1 (v := .ptr i1 0) (n := Opl.ldb (v := .lit (.int .i64 ((rd_ITerm l0 x26_1).f0))) h6 rfl T3 rfl rfl rfl rfl ?_)))
   obtain ⟨bt490, h_bt490, H⟩ := obs H
   refine Opl.call (impl_parts.ev h_bt490) rfl rfl rfl rfl ⟨(.lit _), trivial⟩ (by decide) ?_
   rintro _ ⟨_, _, _, rfl, rfl, rfl, rfl⟩
   refine Opl.p1 (n := Opl.p1 (v := .lit (.int .i64 bt490.1)) (n := Opl.p1 (v := .lit (.int .i64 bt490.2.1)) (n := Opl.p1 (v := .lit (.int .i64 bt490.2.2)) (n := Opl.p1 (n := Opl.p1 (n := Opl.p1 (n := Opl.nil (Evr.sr rfl (Opl.p1 (v := .ptr i1 0) (n := Opl.ldb (v := .lit (.int .i64 ((rd_ITerm l0 x26_1).f0))) h6 rfl T3 rfl rfl rfl rfl ?_))))))))))
   obtain ⟨t493, h_t493, H⟩ := obs H
   refine Opl.callc (impl_in.ev h_t493) rfl rfl rfl rfl ⟨(.lit _), (.lit _), (.lit _), trivial⟩ (by decide) (Opl.p1 (n := Opl.nil (Evr.seq (Evr.block (Evr.sr rfl (Opl.p1 (v := .ptr i1 0) (n := Opl.ldb (v := .lit (.int .i64 ((rd_ITerm l0 x26_1).f0))) h6 rfl T3 rfl rfl rfl rfl (Opl.p1 (n := Opl.p1 (n := Opl.nil ?_))))))))))
   refine Evr.join (fun tm S => ∃ (kq2 : Nat) (x11_1 : Bool) (pv5 : PV), impl_kindsOf.j2 kq2 a1 x5_1 bt490.2.2 x11_1 l0 (l0.length : Int) x26_1 = some r ∧ kq2 ≤ n1 ∧ Has tm [(1, .lit (.int .i64 a1)), (5, pv5), (10, .lit (.int .i64 bt490.2.2)), (11, .lit (.bool x11_1)), (24, v0), (25, .lit (.int .i64 (l0.length : Int))), (26, .lit (.int .i64 x26_1))] ∧ Vec (cInt .i64) x5_1 pv5 S) ?_ fun hk2 => ?_
   ·
    rintro tm S ⟨kq2, x11_1, pv5, H, hle, hh, h9⟩
    rw [hh.eq]
    refine Evr.inBlock (Evr.seq (Evr.sr rfl (Opl.p1 (n := Opl.p1 (n := Opl.nil ?_)))))
    obtain _ | k2 := kq2
    · simp [impl_kindsOf.j2] at H
    simp only [impl_kindsOf.j2] at H
    by_cases c7 : x11_1 = true
    case neg =>
     rw [if_neg c7] at H
     have e3 : (!x11_1) = true := by simpa using c7
     try rw [e3]
     refine Evr.condT rfl (Evr.sr rfl (Opl.p1 (n := Opl.nil ?_)))
     obtain rfl := sinj H
     refine Evr.ret1 Try.func166 rfl ?_
     show Vec _ _ (.lit (.slice none 0 0)) _ ∧ _
     exact ⟨.nil, by intro e; first | rfl | (have := congrArg List.length e; simp only [List.length_nil] at this; omega)⟩
    rw [if_pos c7] at H
    have e2 : (!x11_1) = false := by simpa using c7
    try rw [e2]
    refine Evr.condF rfl (Evr.skip (Evr.regionN rfl (Opl.p1 (n := Opl.p1 (n := Opl.lits (M := (cInt .i64)) (ys := [bt490.2.2]) [.tmp 128] K27 T3 rfl rfl rfl (by exact ⟨rfl, trivial⟩) rfl (by decide) rfl rfl rfl ?_)))))
    rintro pv6 S h10 u4 w4
    have ap2 := w4.vec h9
    have h11 := u4.vec h9 ap2
    obtain ⟨c8, H⟩ := peel H
    refine Opl.app (M := (cInt .i64)) (xs := x5_1) (ys := [bt490.2.2]) (v := pv5) h11 (.vec h10) (oInt .i64) rfl rfl K27 T3 rfl rfl (by (try simp only [List.length_cons, List.length_nil]); omega) (by show (_ + _) * 8 ≤ 140737488355328; (try simp only [List.length_cons, List.length_nil]); omega) rfl rfl rfl rfl rfl ?_
    rintro pv7 S h12 u5 w5
    have ap3 := w5.vec h10
    have h13 := u5.vec h10 ap2.symm
    refine Opl.p1 (n := Opl.nil (Evr.inBlock (Evr.regionN rfl (Opl.add (k := .i64) (a := x26_1) (b := 1) K3 rfl rfl rfl rfl (Opl.one (v := .lit (.int .i64 (wrap64 (x26_1 + 1)))) rfl rfl rfl (Opl.nil ?_))))))
    exact ih1 _ (by omega) _ _ ⟨by omega, _, _, _, H, ⟨rfl, rfl, rfl, rfl, rfl, trivial⟩, h12⟩
   ·
    by_cases c9 : ((rd_ITerm l0 x26_1).f0) = 0
    case pos =>
     rw [if_pos c9] at H
     have e4 : (((rd_ITerm l0 x26_1).f0) == 0) = true := by simpa using c9
     try rw [e4]
     refine Evr.condT rfl ?_
     refine Evr.join (fun tm S => ∃ (kq3 : Nat) (x11_2 : Bool) (pv8 : PV), impl_kindsOf.j2 kq3 a1 x5_1 bt490.2.2 x11_2 l0 (l0.length : Int) x26_1 = some r ∧ kq3 ≤ n1 ∧ Has tm [(1, .lit (.int .i64 a1)), (5, pv8), (10, .lit (.int .i64 bt490.2.2)), (11, .lit (.bool x11_2)), (24, v0), (25, .lit (.int .i64 (l0.length : Int))), (26, .lit (.int .i64 x26_1))] ∧ Vec (cInt .i64) x5_1 pv8 S) ?_ fun hk3 => ?_
     ·
      rintro tm S ⟨kq3, x11_2, pv8, H, hle, hh, h14⟩
      rw [hh.eq]
      exact hk2 _ _ ⟨_, _, _, H, by omega, ⟨rfl, rfl, rfl, (by first | rfl | (show PV.lit (.bool _) = _; congr 2; simp_all)), rfl, rfl, rfl, trivial⟩, h14⟩
     ·
      refine Evr.regionN rfl (Opl.p1 (v := .ptr i1 1) (n := Opl.ldb (v := .lit (.int .i64 ((rd_ITerm l0 x26_1).f1))) h6 rfl T3 rfl rfl rfl rfl ?_))
      obtain ⟨t494, h_t494, H⟩ := obs H
      refine Opl.callc (impl_in.ev h_t494) rfl rfl rfl rfl ⟨(.lit _), (.lit _), (.lit _), trivial⟩ (by decide) (Opl.p1 (n := ?_))
      by_cases c10 : t494 = true
      case neg =>
       rw [if_neg c10] at H
       obtain rfl : t494 = false := by simpa using c10
       refine Opl.sk2 rfl rfl (Opl.skp rfl (Opl.p1 (n := Opl.p1 (n := Opl.sk2 rfl rfl (Opl.skp rfl (Opl.p1 (n := Opl.p1 (n := Opl.nil ?_))))))))
       exact hk3 _ _ ⟨_, _, _, H, by omega, ⟨rfl, rfl, rfl, (by first | rfl | (show PV.lit (.bool _) = _; congr 2; simp_all)), rfl, rfl, rfl, trivial⟩, h7⟩
      rw [if_pos c10] at H
      obtain rfl : t494 = true := by simpa using c10
      refine Opl.p1 (v := .ptr i1 2) (n := Opl.ldb (v := .lit (.int .i64 ((rd_ITerm l0 x26_1).f2))) h6 rfl T3 rfl rfl rfl rfl (Opl.p1 (n := Opl.p1 (n := Opl.p1 (n := ?_)))))
      by_cases c11 : ((rd_ITerm l0 x26_1).f2) = 0
      case neg =>
       rw [if_neg c11] at H
       have e6 : (((rd_ITerm l0 x26_1).f2) == 0) = false := by simpa using c11
       try rw [e6]
       refine Opl.sk2 rfl rfl (Opl.skp rfl (Opl.p1 (n := Opl.p1 (n := Opl.nil ?_))))
       exact hk3 _ _ ⟨_, _, _, H, by omega, ⟨rfl, rfl, rfl, (by first | rfl | (show PV.lit (.bool _) = _; congr 2; simp_all)), rfl, rfl, rfl, trivial⟩, h7⟩
      rw [if_pos c11] at H
      have e5 : (((rd_ITerm l0 x26_1).f2) == 0) = true := by simpa using c11
      try rw [e5]
      refine Opl.p1 (v := .ptr i1 3) (n := Opl.ldb (v := .lit (.int .i64 ((rd_ITerm l0 x26_1).f3))) h6 rfl T3 rfl rfl rfl rfl (Opl.p1 (n := Opl.p1 (n := Opl.p1 (n := Opl.nil ?_)))))
      exact hk3 _ _ ⟨_, _, _, H, by omega, ⟨rfl, rfl, rfl, (by first | rfl | (show PV.lit (.bool _) = _; congr 2; simp_all)), rfl, rfl, rfl, trivial⟩, h7⟩
    rw [if_neg c9] at H
    have e7 : (((rd_ITerm l0 x26_1).f0) == 0) = false := by simpa using c9
    try rw [e7]
    refine Evr.condF rfl (Evr.sr rfl (Opl.p1 (v := .ptr i1 0) (n := Opl.ldb (v := .lit (.int .i64 ((rd_ITerm l0 x26_1).f0))) h6 rfl T3 rfl rfl rfl rfl (Opl.p1 (n := Opl.p1 (n := Opl.nil ?_))))))
    refine Evr.join (fun tm S => ∃ (kq4 : Nat) (x11_3 : Bool) (pv9 : PV), impl_kindsOf.j2 kq4 a1 x5_1 bt490.2.2 x11_3 l0 (l0.length : Int) x26_1 = some r ∧ kq4 ≤ n1 ∧ Has tm [(1, .lit (.int .i64 a1)), (5, pv9), (10, .lit (.int .i64 bt490.2.2)), (11, .lit (.bool x11_3)), (24, v0), (25, .lit (.int .i64 (l0.length : Int))), (26, .lit (.int .i64 x26_1))] ∧ Vec (cInt .i64) x5_1 pv9 S) ?_ fun hk4 => ?_
    ·
     rintro tm S ⟨kq4, x11_3, pv9, H, hle, hh, h15⟩
     rw [hh.eq]
     exact hk2 _ _ ⟨_, _, _, H, by omega, ⟨rfl, rfl, rfl, (by first | rfl | (show PV.lit (.bool _) = _; congr 2; simp_all)), rfl, rfl, rfl, trivial⟩, h15⟩
    ·
     by_cases c12 : ((rd_ITerm l0 x26_1).f0) = 1
     case pos =>
      rw [if_pos c12] at H
      have e8 : (((rd_ITerm l0 x26_1).f0) == 1) = true := by simpa using c12
      try rw [e8]
      refine Evr.condT rfl ?_
      refine Evr.join (fun tm S => ∃ (kq5 : Nat) (x11_4 : Bool) (pv10 : PV), impl_kindsOf.j2 kq5 a1 x5_1 bt490.2.2 x11_4 l0 (l0.length : Int) x26_1 = some r ∧ kq5 ≤ n1 ∧ Has tm [(1, .lit (.int .i64 a1)), (5, pv10), (10, .lit (.int .i64 bt490.2.2)), (11, .lit (.bool x11_4)), (24, v0), (25, .lit (.int .i64 (l0.length : Int))), (26, .lit (.int .i64 x26_1))] ∧ Vec (cInt .i64) x5_1 pv10 S) ?_ fun hk5 => ?_
      ·
       rintro tm S ⟨kq5, x11_4, pv10, H, hle, hh, h16⟩
       rw [hh.eq]
       exact hk4 _ _ ⟨_, _, _, H, by omega, ⟨rfl, rfl, rfl, (by first | rfl | (show PV.lit (.bool _) = _; congr 2; simp_all)), rfl, rfl, rfl, trivial⟩, h16⟩
      ·
       refine Evr.regionN rfl (Opl.p1 (v := .ptr i1 1) (n := Opl.ldb (v := .lit (.int .i64 ((rd_ITerm l0 x26_1).f1))) h6 rfl T3 rfl rfl rfl rfl (Opl.p1 (n := Opl.subi (k := .i64) (a := a1) (b := 1) K3 rfl rfl rfl rfl ?_))))
       obtain ⟨t495, h_t495, H⟩ := obs H
       refine Opl.callc (impl_in.ev h_t495) rfl rfl rfl rfl ⟨(.lit _), (.lit _), (.lit _), trivial⟩ (by decide) (Opl.one (v := .lit (.bool t495)) rfl rfl rfl ?_)
       by_cases c13 : t495 = true
       case neg =>
        rw [if_neg c13] at H
        obtain rfl : t495 = false := by simpa using c13
        refine Opl.sk2 rfl rfl (Opl.skp rfl (Opl.p1 (n := Opl.one (v := .lit (.bool false)) rfl rfl rfl (Opl.sk2 rfl rfl (Opl.skp rfl (Opl.p1 (n := Opl.one (v := .lit (.bool false)) rfl rfl rfl (Opl.nil ?_))))))))
        exact hk5 _ _ ⟨_, _, _, H, by omega, ⟨rfl, rfl, rfl, (by first | rfl | (show PV.lit (.bool _) = _; congr 2; simp_all)), rfl, rfl, rfl, trivial⟩, h7⟩
       rw [if_pos c13] at H
       obtain rfl : t495 = true := by simpa using c13
       refine Opl.p1 (v := .ptr i1 2) (n := Opl.ldb (v := .lit (.int .i64 ((rd_ITerm l0 x26_1).f2))) h6 rfl T3 rfl rfl rfl rfl (Opl.p1 (n := Opl.p1 (n := Opl.one (v := .lit (.bool (((rd_ITerm l0 x26_1).f2) == 0))) rfl rfl rfl ?_))))
       by_cases c14 : ((rd_ITerm l0 x26_1).f2) = 0
       case neg =>
        rw [if_neg c14] at H
        have e10 : (((rd_ITerm l0 x26_1).f2) == 0) = false := by simpa using c14
        try rw [e10]
        refine Opl.sk2 rfl rfl (Opl.skp rfl (Opl.p1 (n := Opl.one (v := .lit (.bool false)) rfl rfl rfl (Opl.nil ?_))))
        exact hk5 _ _ ⟨_, _, _, H, by omega, ⟨rfl, rfl, rfl, (by first | rfl | (show PV.lit (.bool _) = _; congr 2; simp_all)), rfl, rfl, rfl, trivial⟩, h7⟩
       rw [if_pos c14] at H
       have e9 : (((rd_ITerm l0 x26_1).f2) == 0) = true := by simpa using c14
       try rw [e9]
       refine Opl.p1 (v := .ptr i1 3) (n := Opl.ldb (v := .lit (.int .i64 ((rd_ITerm l0 x26_1).f3))) h6 rfl T3 rfl rfl rfl rfl (Opl.p1 (n := Opl.p1 (n := Opl.one (v := .lit (.bool (((rd_ITerm l0 x26_1).f3) == 0))) rfl rfl rfl (Opl.nil ?_)))))
       exact hk5 _ _ ⟨_, _, _, H, by omega, ⟨rfl, rfl, rfl, (by first | rfl | (show PV.lit (.bool _) = _; congr 2; simp_all)), rfl, rfl, rfl, trivial⟩, h7⟩
     rw [if_neg c12] at H
     have e11 : (((rd_ITerm l0 x26_1).f0) == 1) = false := by simpa using c12
     try rw [e11]
     refine Evr.condF rfl (Evr.sr rfl (Opl.p1 (n := Opl.p1 (n := Opl.nil ?_))))
     refine Evr.join (fun tm S => ∃ (kq6 : Nat) (x11_5 : Bool) (pv11 : PV), impl_kindsOf.j2 kq6 a1 x5_1 bt490.2.2 x11_5 l0 (l0.length : Int) x26_1 = some r ∧ kq6 ≤ n1 ∧ Has tm [(1, .lit (.int .i64 a1)), (5, pv11), (10, .lit (.int .i64 bt490.2.2)), (11, .lit (.bool x11_5)), (24, v0), (25, .lit (.int .i64 (l0.length : Int))), (26, .lit (.int .i64 x26_1))] ∧ Vec (cInt .i64) x5_1 pv11 S) ?_ fun hk6 => ?_
     ·
      rintro tm S ⟨kq6, x11_5, pv11, H, hle, hh, h17⟩
      rw [hh.eq]
      exact hk4 _ _ ⟨_, _, _, H, by omega, ⟨rfl, rfl, rfl, (by first | rfl | (show PV.lit (.bool _) = _; congr 2; simp_all)), rfl, rfl, rfl, trivial⟩, h17⟩
     ·
      by_cases c15 : t493 = true
      case neg =>
       rw [if_neg c15] at H
       obtain rfl : t493 = false := by simpa using c15
       refine Evr.condF rfl (Evr.skip ?_)
       exact hk6 _ _ ⟨_, _, _, H, by omega, ⟨rfl, rfl, rfl, (by first | rfl | (show PV.lit (.bool _) = _; congr 2; simp_all)), rfl, rfl, rfl, trivial⟩, h7⟩
      rw [if_pos c15] at H
      obtain rfl : t493 = true := by simpa using c15
      refine Evr.condT rfl ?_
      refine Evr.join (fun tm S => ∃ (kq7 : Nat) (x11_6 : Bool) (pv12 : PV), impl_kindsOf.j2 kq7 a1 x5_1 bt490.2.2 x11_6 l0 (l0.length : Int) x26_1 = some r ∧ kq7 ≤ n1 ∧ Has tm [(1, .lit (.int .i64 a1)), (5, pv12), (10, .lit (.int .i64 bt490.2.2)), (11, .lit (.bool x11_6)), (24, v0), (25, .lit (.int .i64 (l0.length : Int))), (26, .lit (.int .i64 x26_1))] ∧ Vec (cInt .i64) x5_1 pv12 S) ?_ fun hk7 => ?_
      ·
       rintro tm S ⟨kq7, x11_6, pv12, H, hle, hh, h18⟩
       rw [hh.eq]
       exact hk6 _ _ ⟨_, _, _, H, by omega, ⟨rfl, rfl, rfl, (by first | rfl | (show PV.lit (.bool _) = _; congr 2; simp_all)), rfl, rfl, rfl, trivial⟩, h18⟩
      ·
       refine Evr.regionN rfl (Opl.p1 (v := .ptr i1 1) (n := Opl.ldb (v := .lit (.int .i64 ((rd_ITerm l0 x26_1).f1))) h6 rfl T3 rfl rfl rfl rfl (Opl.p1 (n := Opl.p1 (n := ?_)))))
       by_cases c16 : ((rd_ITerm l0 x26_1).f1) = 0
       case neg =>
        rw [if_neg c16] at H
        have e19 : (((rd_ITerm l0 x26_1).f1) == 0) = false := by simpa using c16
        try rw [e19]
        refine Opl.sk4 rfl rfl rfl rfl (Opl.skp rfl (Opl.p1 (n := Opl.p1 (n := Opl.sk4 rfl rfl rfl rfl (Opl.skp rfl (Opl.p1 (n := Opl.p1 (n := Opl.sk4 rfl rfl rfl rfl (Opl.sk2 rfl rfl (Opl.skp rfl (Opl.p1 (n := Opl.p1 (n := Opl.sk4 rfl rfl rfl rfl (Opl.sk2 rfl rfl (Opl.skp rfl (Opl.p1 (n := Opl.p1 (n := Opl.sk8 rfl rfl rfl rfl rfl rfl rfl rfl (Opl.skp rfl (Opl.p1 (n := Opl.p1 (n := Opl.nil ?_))))))))))))))))))))))
        exact hk7 _ _ ⟨_, _, _, H, by omega, ⟨rfl, rfl, rfl, (by first | rfl | (show PV.lit (.bool _) = _; congr 2; simp_all)), rfl, rfl, rfl, trivial⟩, h7⟩
       rw [if_pos c16] at H
       have e12 : (((rd_ITerm l0 x26_1).f1) == 0) = true := by simpa using c16
       try rw [e12]
       refine Opl.p1 (v := .ptr i1 2) (n := Opl.ldb (v := .lit (.int .i64 ((rd_ITerm l0 x26_1).f2))) h6 rfl T3 rfl rfl rfl rfl (Opl.p1 (n := Opl.subi (k := .i64) (a := x26_1) (b := 1) K3 rfl rfl rfl rfl ?_)))
       obtain ⟨t496, h_t496, H⟩ := obs H
       refine Opl.callc (impl_in.ev h_t496) rfl rfl rfl rfl ⟨(.lit _), (.lit _), (.lit _), trivial⟩ (by decide) (Opl.p1 (n := Opl.one (v := .lit (.bool t496)) rfl rfl rfl ?_))
       by_cases c17 : t496 = true
       case neg =>
        rw [if_neg c17] at H
        obtain rfl : t496 = false := by simpa using c17
        refine Opl.sk4 rfl rfl rfl rfl (Opl.skp rfl (Opl.p1 (n := Opl.one (v := .lit (.bool false)) rfl rfl rfl (Opl.sk4 rfl rfl rfl rfl (Opl.sk2 rfl rfl (Opl.skp rfl (Opl.p1 (n := Opl.one (v := .lit (.bool false)) rfl rfl rfl (Opl.sk4 rfl rfl rfl rfl (Opl.sk2 rfl rfl (Opl.skp rfl (Opl.p1 (n := Opl.one (v := .lit (.bool false)) rfl rfl rfl (Opl.sk8 rfl rfl rfl rfl rfl rfl rfl rfl (Opl.skp rfl (Opl.p1 (n := Opl.one (v := .lit (.bool false)) rfl rfl rfl (Opl.nil ?_))))))))))))))))))
        exact hk7 _ _ ⟨_, _, _, H, by omega, ⟨rfl, rfl, rfl, (by first | rfl | (show PV.lit (.bool _) = _; congr 2; simp_all)), rfl, rfl, rfl, trivial⟩, h7⟩
       rw [if_pos c17] at H
       obtain rfl : t496 = true := by simpa using c17
       refine Opl.p1 (v := .ptr i1 3) (n := Opl.ldb (v := .lit (.int .i64 ((rd_ITerm l0 x26_1).f3))) h6 rfl T3 rfl rfl rfl rfl (Opl.one (v := .lit (.int .i64 x26_1)) rfl rfl rfl (Opl.subi (k := .i64) (a := x26_1) (b := 1) K3 rfl rfl rfl rfl ?_)))
       obtain ⟨t497, h_t497, H⟩ := obs H
       refine Opl.callc (impl_in.ev h_t497) rfl rfl rfl rfl ⟨(.lit _), (.lit _), (.lit _), trivial⟩ (by decide) (Opl.p1 (n := Opl.one (v := .lit (.bool t497)) rfl rfl rfl ?_))
       by_cases c18 : t497 = true
       case neg =>
        rw [if_neg c18] at H
        obtain rfl : t497 = false := by simpa using c18
        refine Opl.sk4 rfl rfl rfl rfl (Opl.sk2 rfl rfl (Opl.skp rfl (Opl.p1 (n := Opl.one (v := .lit (.bool false)) rfl rfl rfl (Opl.sk4 rfl rfl rfl rfl (Opl.sk2 rfl rfl (Opl.skp rfl (Opl.p1 (n := Opl.one (v := .lit (.bool false)) rfl rfl rfl (Opl.sk8 rfl rfl rfl rfl rfl rfl rfl rfl (Opl.skp rfl (Opl.p1 (n := Opl.one (v := .lit (.bool false)) rfl rfl rfl (Opl.nil ?_))))))))))))))
        exact hk7 _ _ ⟨_, _, _, H, by omega, ⟨rfl, rfl, rfl, (by first | rfl | (show PV.lit (.bool _) = _; congr 2; simp_all)), rfl, rfl, rfl, trivial⟩, h7⟩
       rw [if_pos c18] at H
       obtain rfl : t497 = true := by simpa using c18
       refine Opl.one (v := pv3) rfl rfl rfl (Opl.p1 (v := .ptr i1 2) (n := Opl.ldb (v := .lit (.int .i64 ((rd_ITerm l0 x26_1).f2))) h6 rfl T3 rfl rfl rfl rfl ?_))
       obtain ⟨c19, H⟩ := peel H
       obtain ⟨c20, H⟩ := peel H
       refine Opl.idv (M := (cInt .i64)) (xs := x5_1) (j := ((rd_ITerm l0 x26_1).f2)) (v := pv3) h7 rfl rfl (by omega) (by omega) K27 Z3 rfl rfl ?_
       rintro d1 z1 q2 h19 h20
       refine Opl.ldv (M := (cInt .i64)) (xs := x5_1) (j := ((rd_ITerm l0 x26_1).f2)) (0 : Int) h19 h20 (by omega) (by omega) rfl T3 rfl rfl rfl ?_
       rintro p2 q3 h21
       obtain rfl : p2 = [.lit (.int .i64 (rd x5_1 ((rd_ITerm l0 x26_1).f2)))] := h21
       refine ⟨.lit (.int .i64 (rd x5_1 ((rd_ITerm l0 x26_1).f2))), rfl, ?_⟩
       refine Opl.one (v := .lit (.int .i64 bt490.2.1)) rfl rfl rfl (Opl.p1 (n := Opl.p1 (n := Opl.one (v := .lit (.bool ((rd x5_1 ((rd_ITerm l0 x26_1).f2)) == bt490.2.1))) rfl rfl rfl ?_)))
       by_cases c21 : (rd x5_1 ((rd_ITerm l0 x26_1).f2)) = bt490.2.1
       case neg =>
        rw [if_neg c21] at H
        have e18 : ((rd x5_1 ((rd_ITerm l0 x26_1).f2)) == bt490.2.1) = false := by simpa using c21
        try rw [e18]
        refine Opl.sk4 rfl rfl rfl rfl (Opl.sk2 rfl rfl (Opl.skp rfl (Opl.p1 (n := Opl.one (v := .lit (.bool false)) rfl rfl rfl (Opl.sk8 rfl rfl rfl rfl rfl rfl rfl rfl (Opl.skp rfl (Opl.p1 (n := Opl.one (v := .lit (.bool false)) rfl rfl rfl (Opl.nil ?_)))))))))
        exact hk7 _ _ ⟨_, _, _, H, by omega, ⟨rfl, rfl, rfl, (by first | rfl | (show PV.lit (.bool _) = _; congr 2; simp_all)), rfl, rfl, rfl, trivial⟩, h7⟩
       rw [if_pos c21] at H
       have e13 : ((rd x5_1 ((rd_ITerm l0 x26_1).f2)) == bt490.2.1) = true := by simpa using c21
       try rw [e13]
       refine Opl.one (v := pv3) rfl rfl rfl (Opl.p1 (v := .ptr i1 3) (n := Opl.ldb (v := .lit (.int .i64 ((rd_ITerm l0 x26_1).f3))) h6 rfl T3 rfl rfl rfl rfl ?_))
       obtain ⟨c22, H⟩ := peel H
       obtain ⟨c23, H⟩ := peel H
       refine Opl.idv (M := (cInt .i64)) (xs := x5_1) (j := ((rd_ITerm l0 x26_1).f3)) (v := pv3) h7 rfl rfl (by omega) (by omega) K27 Z3 rfl rfl ?_
       rintro d2 z2 q4 h22 h23
       refine Opl.ldv (M := (cInt .i64)) (xs := x5_1) (j := ((rd_ITerm l0 x26_1).f3)) (0 : Int) h22 h23 (by omega) (by omega) rfl T3 rfl rfl rfl ?_
       rintro p3 q5 h24
       obtain rfl : p3 = [.lit (.int .i64 (rd x5_1 ((rd_ITerm l0 x26_1).f3)))] := h24
       refine ⟨.lit (.int .i64 (rd x5_1 ((rd_ITerm l0 x26_1).f3))), rfl, ?_⟩
       refine Opl.one (v := .lit (.int .i64 bt490.2.1)) rfl rfl rfl (Opl.p1 (n := Opl.p1 (n := Opl.one (v := .lit (.bool ((rd x5_1 ((rd_ITerm l0 x26_1).f3)) == bt490.2.1))) rfl rfl rfl ?_)))
       by_cases c24 : (rd x5_1 ((rd_ITerm l0 x26_1).f3)) = bt490.2.1
       case neg =>
        rw [if_neg c24] at H
        have e17 : ((rd x5_1 ((rd_ITerm l0 x26_1).f3)) == bt490.2.1) = false := by simpa using c24
        try rw [e17]
        refine Opl.sk8 rfl rfl rfl rfl rfl rfl rfl rfl (Opl.skp rfl (Opl.p1 (n := Opl.one (v := .lit (.bool false)) rfl rfl rfl (Opl.nil ?_))))
        exact hk7 _ _ ⟨_, _, _, H, by omega, ⟨rfl, rfl, rfl, (by first | rfl | (show PV.lit (.bool _) = _; congr 2; simp_all)), rfl, rfl, rfl, trivial⟩, h7⟩
       rw [if_pos c24] at H
       have e14 : ((rd x5_1 ((rd_ITerm l0 x26_1).f3)) == bt490.2.1) = true := by simpa using c24
       try rw [e14]
       refine Opl.one (v := .lit (.int .i64 bt490.1)) rfl rfl rfl (Opl.p1 (n := Opl.one (v := .lit (.bool (bt490.1 == 2))) rfl rfl rfl ?_))
       by_cases c25 : bt490.1 = 2
       case pos =>
        rw [if_pos c25] at H
        have e15 : (bt490.1 == 2) = true := by simpa using c25
        try rw [e15]
        refine Opl.sk4 rfl rfl rfl rfl (Opl.skp rfl (Opl.p1 (n := Opl.p1 (n := Opl.one (v := .lit (.bool true)) rfl rfl rfl (Opl.nil ?_)))))
        exact hk7 _ _ ⟨_, _, _, H, by omega, ⟨rfl, rfl, rfl, (by first | rfl | (show PV.lit (.bool _) = _; congr 2; simp_all)), rfl, rfl, rfl, trivial⟩, h7⟩
       rw [if_neg c25] at H
       have e16 : (bt490.1 == 2) = false := by simpa using c25
       try rw [e16]
       refine Opl.p1 (v := .ptr i1 2) (n := Opl.ldb (v := .lit (.int .i64 ((rd_ITerm l0 x26_1).f2))) h6 rfl T3 rfl rfl rfl rfl (Opl.p1 (v := .ptr i1 3) (n := Opl.ldb (v := .lit (.int .i64 ((rd_ITerm l0 x26_1).f3))) h6 rfl T3 rfl rfl rfl rfl (Opl.p1 (n := Opl.p1 (n := Opl.p1 (n := Opl.one (v := .lit (.bool (((rd_ITerm l0 x26_1).f2) == ((rd_ITerm l0 x26_1).f3)))) rfl rfl rfl (Opl.nil ?_))))))))
       exact hk7 _ _ ⟨_, _, _, H, by omega, ⟨rfl, rfl, rfl, (by first | rfl | (show PV.lit (.bool _) = _; congr 2; simp_all)), rfl, rfl, rfl, trivial⟩, h7⟩
 ·
  refine Evr.regionN rfl (Opl.p1 (n := ?_))
  obtain ⟨t483, h_t483, H⟩ := obs H
  refine Opl.callc (impl_in.ev h_t483) rfl rfl rfl rfl ⟨(.lit _), (.lit _), (.lit _), trivial⟩ (by decide) (Opl.p1 (n := Opl.p1 (n := ?_)))
  by_cases c27 : t483 = true
  case neg =>
   rw [if_neg c27] at H
   have e22 : (!t483) = true := by simpa using c27
   try rw [e22]
   refine Opl.sk4 rfl rfl rfl rfl (Opl.p1 (n := Opl.nil ?_))
   exact hk1 _ _ ⟨_, _, H, ⟨rfl, rfl, (by first | rfl | (show PV.lit (.bool _) = _; congr 2; simp_all)), trivial⟩⟩
  rw [if_pos c27] at H
  have e21 : (!t483) = false := by simpa using c27
  try rw [e21]
  refine Opl.p1 (n := Opl.len (xs := l0) (by exact hv0) K66 rfl rfl rfl rfl ?_)
  obtain ⟨t484, h_t484, H⟩ := obs H
  refine Opl.callc (impl_in.ev h_t484) rfl rfl rfl rfl ⟨(.lit _), (.lit _), (.lit _), trivial⟩ (by decide) (Opl.p1 (n := Opl.p1 (n := Opl.nil ?_)))
  exact hk1 _ _ ⟨_, _, H, ⟨rfl, rfl, (by first | rfl | (show PV.lit (.bool _) = _; congr 2; simp_all)), trivial⟩⟩
theorem impl_kindOf.ev {k : Nat} {l0 : List ITerm} {v0 : PV} (hv0 : Sl cITerm l0 v0) {a1 : Int} {r : Int} (H : impl_kindOf.f k l0 a1 = some r) : Ret Try.prog 150 [v0, .lit (.int .i64 a1)] fun v S => v = .lit (.int .i64 r) := by
 unfold impl_kindOf.f at H
 refine Ret.intro Try.func150 rfl (Nat.le_of_ble_eq_true rfl) rfl ?_
 rw [tm2]
 refine Evr.sr rfl (Opl.p1 (n := Opl.nil (Evr.sr rfl (Opl.p1 (n := Opl.p1 (n := ?_))))))
 obtain ⟨t, h_t, H⟩ := obs H
 refine Opl.call ((impl_kindsOf.ev hv0 h_t).mono fun _ _ h => Out.vecn h) rfl rfl rfl rfl ⟨hv0.plain, (.lit _), trivial⟩ (by decide) ?_
 rintro pv1 ⟨h1, h2⟩
 refine Opl.p1 (n := Opl.nil (Evr.seq (Evr.sr rfl (Opl.p1 (n := ?_)))))
 by_cases c1 : t = []
 case pos =>
  rw [if_pos c1] at H
  refine Opl.eqnil (by exact h2 c1) K27 rfl rfl (Opl.nil (Evr.condT rfl (Evr.sr rfl (Opl.p1 (n := Opl.nil ?_)))))
  obtain rfl := sinj H
  refine Evr.ret1 Try.func150 rfl ?_
  show (.lit (.int .i64 0) : PV) = _
  first | rfl | (simp only [go_sem]; rfl)
 rw [if_neg c1] at H
 refine Opl.eqsome (by exact h1) c1 K27 rfl rfl (Opl.nil (Evr.condF rfl (Evr.skip (Evr.sr rfl (Opl.p1 (n := Opl.p1 (n := Opl.len (xs := t) (by exact h1) K27 rfl rfl rfl rfl (Opl.subi (k := .i64) (a := (t.length : Int)) (b := 1) K3 rfl rfl rfl rfl ?_))))))))
 obtain ⟨c2, H⟩ := peel H
 obtain ⟨c3, H⟩ := peel H
 refine Opl.idx (M := (cInt .i64)) (xs := t) (j := (wrap64 ((t.length : Int) - 1))) (0 : Int) (by exact h1) rfl (by omega) (by omega) K27 Z3 rfl rfl ?_
 rintro p1 q1 h3
 obtain rfl : p1 = [.lit (.int .i64 (rd t (wrap64 ((t.length : Int) - 1))))] := h3
 refine Opl.lda (.lit (.int .i64 (rd t (wrap64 ((t.length : Int) - 1))))) rfl T3 rfl rfl rfl rfl (Opl.one (v := .lit (.int .i64 (rd t (wrap64 ((t.length : Int) - 1))))) rfl rfl rfl (Opl.nil ?_))
 obtain rfl := sinj H
 refine Evr.ret1 Try.func150 rfl ?_
 show (.lit (.int .i64 (rd t (wrap64 ((t.length : Int) - 1)))) : PV) = _
 first | rfl | (simp only [go_sem]; rfl)
theorem impl_ruleOk.ev {k : Nat} {l0_0 : List ITerm} {v0_0 : PV} (hv0_0 : Sl cITerm l0_0 v0_0) {l0_1 : List Int} {v0_1 : PV} (hv0_1 : Sl (cInt .i64) l0_1 v0_1) {l0_2 : List (List ITerm)} {v0_2 : PV} (hv0_2 : Sl (cSl cITerm) l0_2 v0_2) {a1 : Int} {r : Bool} (H : impl_ruleOk.f k l0_0 l0_1 l0_2 a1 = some r) : Ret Try.prog 93 [.agg [v0_0, v0_1, v0_2], .lit (.int .i64 a1)] fun v S => v = .lit (.bool r) := by
 unfold impl_ruleOk.f at H
 refine Ret.intro Try.func93 rfl (Nat.le_of_ble_eq_true rfl) rfl ?_
 rw [tm2]
 refine Evr.sr rfl (Opl.box (cs := [v0_0, v0_1, v0_2]) rfl rfl rfl rfl ?_)
 rintro i1 S h1 u1 w1
 refine Opl.p1 (n := Opl.nil (Evr.seq (Evr.seq ?_)))
 refine Evr.join (fun tm S => ∃ (kq1 : Nat) (x20_1 : Bool) (i2 : Abs.Id), impl_ruleOk.j0 kq1 a1 x20_1 l0_0 l0_1 l0_2 = some r ∧ Has tm [(1, .lit (.int .i64 a1)), (2, .ptr i2 0), (20, .lit (.bool x20_1))] ∧ Box (.ptr i2 0) [v0_0, v0_1, v0_2] S) ?_ fun hk1 => ?_
 ·
  rintro tm S ⟨kq1, x20_1, i2, H, hh, h2⟩
  rw [hh.eq]
  obtain _ | k1 := kq1
  · simp [impl_ruleOk.j0] at H
  simp only [impl_ruleOk.j0] at H
  by_cases c1 : x20_1 = true
  case pos =>
   rw [if_pos c1] at H
   obtain rfl : x20_1 = true := by simpa using c1
   refine Evr.condT rfl (Evr.sr rfl (Opl.p1 (n := Opl.nil ?_)))
   obtain rfl := sinj H
   refine Evr.ret1 Try.func93 rfl ?_
   show (.lit (.bool false) : PV) = _
   first | rfl | (simp only [go_sem]; rfl)
  rw [if_neg c1] at H
  obtain rfl : x20_1 = false := by simpa using c1
  refine Evr.condF rfl (Evr.skip (Evr.seq (Evr.sr rfl (Opl.p1 (v := .ptr i2 1) (n := Opl.ldb (v := v0_1) h2 rfl T27 rfl rfl rfl rfl (Opl.len (xs := l0_1) (by exact hv0_1) K27 rfl rfl rfl rfl (Opl.p1 (n := Opl.nil (Evr.block ?_)))))))))
  refine Evr.loop (Evr.rounds (n := k1) (Inv := fun n tm S => n ≤ k1 ∧ ∃ (x24_1 : Int) (i3 : Abs.Id), impl_ruleOk.l0 n a1 l0_1 (l0_1.length : Int) x24_1 l0_0 l0_1 l0_2 = some r ∧ Has tm [(1, .lit (.int .i64 a1)), (2, .ptr i3 0), (22, v0_1), (23, .lit (.int .i64 (l0_1.length : Int))), (24, .lit (.int .i64 x24_1))] ∧ Box (.ptr i3 0) [v0_0, v0_1, v0_2] S) ?_ ?_ ?_)
  · exact ⟨Nat.le_refl _, _, _, H, ⟨rfl, rfl, rfl, rfl, rfl, trivial⟩, h2⟩
  ·
   rintro tm S ⟨_, _, _, H, -⟩
   simp [impl_ruleOk.l0] at H
  ·
   rintro n1 ih1 tm S ⟨hle, x24_1, i3, H, hh, h3⟩
   simp only [impl_ruleOk.l0] at H
   rw [hh.eq]
   refine Evr.sr rfl (Opl.p1 (n := Opl.nil (Evr.seq ?_)))
   by_cases c2 : x24_1 < (l0_1.length : Int)
   case neg =>
    rw [if_neg c2] at H
    have e8 : (decide (x24_1 < (l0_1.length : Int))) = false := by simpa using c2
    try rw [e8]
    refine Evr.condF rfl (Evr.exit rfl (Evr.sr rfl (Opl.p1 (n := Opl.nil ?_))))
    obtain rfl := sinj H
    refine Evr.ret1 Try.func93 rfl ?_
    show (.lit (.bool true) : PV) = _
    first | rfl | (simp only [go_sem]; rfl)
   rw [if_pos c2] at H
   have e1 : (decide (x24_1 < (l0_1.length : Int))) = true := by simpa using c2
   try rw [e1]
   refine Evr.condT rfl (Evr.skip (Evr.seq (Evr.block (Evr.sr rfl (Opl.p1 (n := ?_))))))
   obtain ⟨c3, H⟩ := peel H
   obtain ⟨c4, H⟩ := peel H
   refine Opl.idx (M := (cInt .i64)) (xs := l0_1) (j := x24_1) (0 : Int) (by exact hv0_1) rfl (by omega) (by omega) K27 Z3 rfl rfl ?_
   rintro p1 q1 h4
   obtain rfl : p1 = [.lit (.int .i64 (rd l0_1 x24_1))] := h4
   refine Opl.lda (.lit (.int .i64 (rd l0_1 x24_1))) rfl T3 rfl rfl rfl rfl (Opl.p1 (n := Opl.p1 (n := Opl.nil (Evr.seq ?_))))
   refine Evr.join (fun tm S => ∃ (kq2 : Nat) (x57_1 : Bool) (i4 : Abs.Id), impl_ruleOk.j2 kq2 a1 l0_1 (l0_1.length : Int) x24_1 x57_1 l0_0 l0_1 l0_2 = some r ∧ kq2 ≤ n1 ∧ Has tm [(1, .lit (.int .i64 a1)), (2, .ptr i4 0), (22, v0_1), (23, .lit (.int .i64 (l0_1.length : Int))), (24, .lit (.int .i64 x24_1)), (57, .lit (.bool x57_1))] ∧ Box (.ptr i4 0) [v0_0, v0_1, v0_2] S) ?_ fun hk2 => ?_
   ·
    rintro tm S ⟨kq2, x57_1, i4, H, hle, hh, h5⟩
    rw [hh.eq]
    obtain _ | k2 := kq2
    · simp [impl_ruleOk.j2] at H
    simp only [impl_ruleOk.j2] at H
    by_cases c5 : x57_1 = true
    case pos =>
     rw [if_pos c5] at H
     obtain rfl : x57_1 = true := by simpa using c5
     refine Evr.condT rfl (Evr.sr rfl (Opl.p1 (n := Opl.nil ?_)))
     obtain rfl := sinj H
     refine Evr.ret1 Try.func93 rfl ?_
     show (.lit (.bool false) : PV) = _
     first | rfl | (simp only [go_sem]; rfl)
    rw [if_neg c5] at H
    obtain rfl : x57_1 = false := by simpa using c5
    refine Evr.condF rfl (Evr.skip (Evr.inBlock (Evr.regionN rfl (Opl.add (k := .i64) (a := x24_1) (b := 1) K3 rfl rfl rfl rfl (Opl.one (v := .lit (.int .i64 (wrap64 (x24_1 + 1)))) rfl rfl rfl (Opl.nil ?_))))))
    exact ih1 _ (by omega) _ _ ⟨by omega, _, _, H, ⟨rfl, rfl, rfl, rfl, rfl, trivial⟩, h5⟩
   ·
    refine Evr.regionN rfl (Opl.p1 (n := Opl.p1 (n := Opl.subi (k := .i64) (a := a1) (b := 1) K3 rfl rfl rfl rfl ?_)))
    obtain ⟨t506, h_t506, H⟩ := obs H
    refine Opl.callc (impl_in.ev h_t506) rfl rfl rfl rfl ⟨(.lit _), (.lit _), (.lit _), trivial⟩ (by decide) (Opl.p1 (n := Opl.one (v := .lit (.bool (!t506))) rfl rfl rfl ?_))
    by_cases c6 : t506 = true
    case neg =>
     rw [if_neg c6] at H
     have e7 : (!t506) = true := by simpa using c6
     try rw [e7]
     refine Opl.sk8 rfl rfl rfl rfl rfl rfl rfl rfl (Opl.sk4 rfl rfl rfl rfl (Opl.p1 (n := Opl.one (v := .lit (.bool true)) rfl rfl rfl (Opl.sk8 rfl rfl rfl rfl rfl rfl rfl rfl (Opl.p1 (n := Opl.nil ?_))))))
     exact hk2 _ _ ⟨_, _, _, H, by omega, ⟨rfl, rfl, rfl, rfl, rfl, (by first | rfl | (show PV.lit (.bool _) = _; congr 2; simp_all)), trivial⟩, h3⟩
    rw [if_pos c6] at H
    have e2 : (!t506) = false := by simpa using c6
    try rw [e2]
    refine Opl.one (v := .lit (.int .i64 x24_1)) rfl rfl rfl (Opl.p1 (n := Opl.one (v := .lit (.bool (decide (x24_1 > 0)))) rfl rfl rfl ?_))
    by_cases c7 : x24_1 > 0
    case neg =>
     rw [if_neg c7] at H
     have e6 : (decide (x24_1 > 0)) = false := by simpa using c7
     try rw [e6]
     refine Opl.sk8 rfl rfl rfl rfl rfl rfl rfl rfl (Opl.p1 (n := Opl.p1 (n := Opl.one (v := .lit (.bool false)) rfl rfl rfl (Opl.p1 (v := .ptr i3 2) (n := Opl.ldb (v := v0_2) h3 rfl T104 rfl rfl rfl rfl (Opl.one (v := .lit (.int .i64 x24_1)) rfl rfl rfl ?_))))))
     obtain ⟨c12, H⟩ := peel H
     refine Opl.idx (M := (cSl cITerm)) (xs := l0_2) (j := x24_1) ([] : List ITerm) (by exact hv0_2) rfl (by omega) (by omega) K104 Z66 rfl rfl ?_
     rintro p4 q4 h9
     obtain ⟨pv2, rfl, h10⟩ := h9
     refine Opl.lda (pv2) rfl T66 rfl rfl rfl rfl (Opl.one (v := .lit (.int .i64 a1)) rfl rfl rfl ?_)
     obtain ⟨t511, h_t511, H⟩ := obs H
     refine Opl.callc (impl_kindOf.ev h10 h_t511) rfl rfl rfl rfl ⟨h10.plain, (.lit _), trivial⟩ (by decide) (Opl.p1 (n := Opl.p1 (n := Opl.nil ?_)))
     exact hk2 _ _ ⟨_, _, _, H, by omega, ⟨rfl, rfl, rfl, rfl, rfl, (by first | rfl | (show PV.lit (.bool _) = _; congr 2; simp_all)), trivial⟩, h3⟩
    rw [if_pos c7] at H
    have e3 : (decide (x24_1 > 0)) = true := by simpa using c7
    try rw [e3]
    refine Opl.p1 (v := .ptr i3 1) (n := Opl.ldb (v := v0_1) h3 rfl T27 rfl rfl rfl rfl (Opl.one (v := .lit (.int .i64 x24_1)) rfl rfl rfl (Opl.subi (k := .i64) (a := x24_1) (b := 1) K3 rfl rfl rfl rfl ?_)))
    obtain ⟨c8, H⟩ := peel H
    obtain ⟨c9, H⟩ := peel H
    refine Opl.idx (M := (cInt .i64)) (xs := l0_1) (j := (wrap64 (x24_1 - 1))) (0 : Int) (by exact hv0_1) rfl (by omega) (by omega) K27 Z3 rfl rfl ?_
    rintro p2 q2 h6
    obtain rfl : p2 = [.lit (.int .i64 (rd l0_1 (wrap64 (x24_1 - 1))))] := h6
    refine Opl.lda (.lit (.int .i64 (rd l0_1 (wrap64 (x24_1 - 1))))) rfl T3 rfl rfl rfl rfl (Opl.one (v := .lit (.int .i64 (rd l0_1 x24_1))) rfl rfl rfl (Opl.geq (a := (rd l0_1 (wrap64 (x24_1 - 1)))) (b := (rd l0_1 x24_1)) K3 rfl rfl rfl rfl (Opl.p1 (n := Opl.p1 (n := Opl.one (v := .lit (.bool (decide ((rd l0_1 (wrap64 (x24_1 - 1))) ≥ (rd l0_1 x24_1))))) rfl rfl rfl ?_)))))
    by_cases c10 : (rd l0_1 (wrap64 (x24_1 - 1))) ≥ (rd l0_1 x24_1)
    case pos =>
     rw [if_pos c10] at H
     have e4 : (decide ((rd l0_1 (wrap64 (x24_1 - 1))) ≥ (rd l0_1 x24_1))) = true := by simpa using c10
     try rw [e4]
     refine Opl.sk8 rfl rfl rfl rfl rfl rfl rfl rfl (Opl.p1 (n := Opl.nil ?_))
     exact hk2 _ _ ⟨_, _, _, H, by omega, ⟨rfl, rfl, rfl, rfl, rfl, (by first | rfl | (show PV.lit (.bool _) = _; congr 2; simp_all)), trivial⟩, h3⟩
    rw [if_neg c10] at H
    have e5 : (decide ((rd l0_1 (wrap64 (x24_1 - 1))) ≥ (rd l0_1 x24_1))) = false := by simpa using c10
    try rw [e5]
    refine Opl.p1 (v := .ptr i3 2) (n := Opl.ldb (v := v0_2) h3 rfl T104 rfl rfl rfl rfl (Opl.one (v := .lit (.int .i64 x24_1)) rfl rfl rfl ?_))
    obtain ⟨c11, H⟩ := peel H
    refine Opl.idx (M := (cSl cITerm)) (xs := l0_2) (j := x24_1) ([] : List ITerm) (by exact hv0_2) rfl (by omega) (by omega) K104 Z66 rfl rfl ?_
    rintro p3 q3 h7
    obtain ⟨pv1, rfl, h8⟩ := h7
    refine Opl.lda (pv1) rfl T66 rfl rfl rfl rfl (Opl.one (v := .lit (.int .i64 a1)) rfl rfl rfl ?_)
    obtain ⟨t509, h_t509, H⟩ := obs H
    refine Opl.callc (impl_kindOf.ev h8 h_t509) rfl rfl rfl rfl ⟨h8.plain, (.lit _), trivial⟩ (by decide) (Opl.p1 (n := Opl.p1 (n := Opl.nil ?_)))
    exact hk2 _ _ ⟨_, _, _, H, by omega, ⟨rfl, rfl, rfl, rfl, rfl, (by first | rfl | (show PV.lit (.bool _) = _; congr 2; simp_all)), trivial⟩, h3⟩
 ·
  refine Evr.regionN rfl (Opl.p1 (v := .ptr i1 0) (n := Opl.ldb (v := v0_0) h1 rfl T66 rfl rfl rfl rfl (Opl.p1 (n := ?_))))
  obtain ⟨t504, h_t504, H⟩ := obs H
  refine Opl.callc (impl_kindOf.ev hv0_0 h_t504) rfl rfl rfl rfl ⟨hv0_0.plain, (.lit _), trivial⟩ (by decide) (Opl.p1 (n := Opl.p1 (n := ?_)))
  by_cases c13 : t504 = 2
  case neg =>
   rw [if_neg c13] at H
   have e10 : (t504 != 2) = true := by simpa using c13
   try rw [e10]
   refine Opl.sk4 rfl rfl rfl rfl (Opl.sk2 rfl rfl (Opl.skp rfl (Opl.p1 (n := Opl.nil ?_))))
   exact hk1 _ _ ⟨_, _, _, H, ⟨rfl, rfl, (by first | rfl | (show PV.lit (.bool _) = _; congr 2; simp_all)), trivial⟩, h1⟩
  rw [if_pos c13] at H
  have e9 : (t504 != 2) = false := by simpa using c13
  try rw [e9]
  refine Opl.p1 (v := .ptr i1 1) (n := Opl.ldb (v := v0_1) h1 rfl T27 rfl rfl rfl rfl (Opl.len (xs := l0_1) (by exact hv0_1) K27 rfl rfl rfl rfl (Opl.p1 (v := .ptr i1 2) (n := Opl.ldb (v := v0_2) h1 rfl T104 rfl rfl rfl rfl (Opl.len (xs := l0_2) (by exact hv0_2) K104 rfl rfl rfl rfl (Opl.p1 (n := Opl.p1 (n := Opl.nil ?_))))))))
  exact hk1 _ _ ⟨_, _, _, H, ⟨rfl, rfl, (by first | rfl | (show PV.lit (.bool _) = _; congr 2; simp_all)), trivial⟩, h1⟩
theorem impl_SystemValid_2.ev {k : Nat} {l0_0 : List ITerm} {v0_0 : PV} (hv0_0 : Sl cITerm l0_0 v0_0) {l0_1 : List Int} {v0_1 : PV} (hv0_1 : Sl (cInt .i64) l0_1 v0_1) {l0_2 : List (List ITerm)} {v0_2 : PV} (hv0_2 : Sl (cSl cITerm) l0_2 v0_2) {l1_0 : List IVar} {v1_0 : PV} (hv1_0 : Sl cIVar l1_0 v1_0) {l1_1 : List IRule} {v1_1 : PV} (hv1_1 : Sl cIRule l1_1 v1_1) {r : Bool} (H : impl_SystemValid_2.f k l0_0 l0_1 l0_2 l1_0 l1_1 = some r) : Ret Try.prog 92 [.agg [v0_0, v0_1, v0_2], .fel (v1_0 :: v1_1 :: [])] fun v S => v = .lit (.bool r) := by
 unfold impl_SystemValid_2.f at H
 refine Ret.intro Try.func92 rfl (Nat.le_of_ble_eq_true rfl) rfl ?_
 rw [tm2]
 refine Evr.sr rfl (Opl.box (cs := [v0_0, v0_1, v0_2]) rfl rfl rfl rfl ?_)
 rintro i1 S h1 u1 w1
 refine Opl.p1 (n := Opl.nil (Evr.sr rfl (Opl.ldb (v := .agg [v0_0, v0_1, v0_2]) h1 rfl T106 rfl rfl rfl rfl (Opl.p1 (v := .fel (v1_0 :: v1_1 :: [])) (n := Opl.lda (v1_0) rfl T23 rfl rfl rfl rfl (Opl.len (xs := l1_0) (by exact hv1_0) K23 rfl rfl rfl rfl ?_))))))
 obtain ⟨t519, h_t519, H⟩ := obs H
 refine Opl.callc (impl_ruleOk.ev hv0_0 hv0_1 hv0_2 h_t519) rfl rfl rfl rfl ⟨(.aggL ⟨hv0_0.plain, hv0_1.plain, hv0_2.plain, trivial⟩), (.lit _), trivial⟩ (by decide) (Opl.p1 (n := Opl.p1 (n := Opl.nil ?_)))
 obtain rfl := sinj H
 refine Evr.ret1 Try.func92 rfl ?_
 show (.lit (.bool (!t519)) : PV) = _
 first | rfl | (simp only [go_sem]; rfl)
theorem slices_IndexFunc_at_impl_SystemValid_2.ev {k : Nat} {l0 : List IRule} {v0 : PV} (hv0 : Sl cIRule l0 v0) {l2_0 : List IVar} {v2_0 : PV} (hv2_0 : Sl cIVar l2_0 v2_0) {l2_1 : List IRule} {v2_1 : PV} (hv2_1 : Sl cIRule l2_1 v2_1) {r : Int} (H : slices_IndexFunc_at_impl_SystemValid_2.f k l0 l2_0 l2_1 = some r) : Ret Try.prog 149 [v0, .fn 92 [.fel (v2_0 :: v2_1 :: [])]] fun v S => v = .lit (.int .i64 r) := by
 unfold slices_IndexFunc_at_impl_SystemValid_2.f at H
 refine Ret.intro Try.func149 rfl (Nat.le_of_ble_eq_true rfl) rfl ?_
 rw [tm2]
 refine Evr.sr rfl (Opl.p1 (n := Opl.nil (Evr.seq (Evr.sr rfl (Opl.p1 (n := Opl.len (xs := l0) (by exact hv0) K24 rfl rfl rfl rfl (Opl.p1 (n := Opl.nil (Evr.block ?_)))))))))
 refine Evr.loop (Evr.rounds (n := k) (Inv := fun n tm S => n ≤ k ∧ ∃ (x8_1 : Int), slices_IndexFunc_at_impl_SystemValid_2.l0 n l0 (l0.length : Int) x8_1 l2_0 l2_1 = some r ∧ Has tm [(0, v0), (1, .fn 92 [.fel (v2_0 :: v2_1 :: [])]), (7, .lit (.int .i64 (l0.length : Int))), (8, .lit (.int .i64 x8_1))]) ?_ ?_ ?_)
 · exact ⟨Nat.le_refl _, _, H, ⟨rfl, rfl, rfl, rfl, trivial⟩⟩
 ·
  rintro tm S ⟨_, _, H, -⟩
  simp [slices_IndexFunc_at_impl_SystemValid_2.l0] at H
 ·
  rintro n1 ih1 tm S ⟨hle, x8_1, H, hh⟩
  simp only [slices_IndexFunc_at_impl_SystemValid_2.l0] at H
  rw [hh.eq]
  refine Evr.sr rfl (Opl.p1 (n := Opl.nil (Evr.seq ?_)))
  by_cases c1 : x8_1 < (l0.length : Int)
  case neg =>
   rw [if_neg c1] at H
   have e2 : (decide (x8_1 < (l0.length : Int))) = false := by simpa using c1
   try rw [e2]
   refine Evr.condF rfl (Evr.exit rfl (Evr.sr rfl (Opl.p1 (n := Opl.nil ?_))))
   obtain rfl := sinj H
   refine Evr.ret1 Try.func149 rfl ?_
   show (.lit (.int .i64 (-1)) : PV) = _
   first | rfl | (simp only [go_sem]; rfl)
  rw [if_pos c1] at H
  have e1 : (decide (x8_1 < (l0.length : Int))) = true := by simpa using c1
  try rw [e1]
  refine Evr.condT rfl (Evr.skip (Evr.seq (Evr.block (Evr.sr rfl (Opl.p1 (n := Opl.p1 (n := Opl.nil (Evr.sr rfl (Opl.p1 (n := Opl.p1 (n := Opl.p1 (n := ?_))))))))))))
  obtain ⟨c2, H⟩ := peel H
  obtain ⟨c3, H⟩ := peel H
  refine Opl.idx (M := cIRule) (xs := l0) (j := x8_1) zIRule (by exact hv0) rfl (by omega) (by omega) K24 Z106 rfl rfl ?_
  rintro p1 q1 h1
  obtain ⟨pv1, pv2, pv3, rfl, h2, h3, h4⟩ := cIRule_R (x := (rd_IRule l0 x8_1)) h1
  refine Opl.lda (.agg [pv1, pv2, pv3]) rfl T106 rfl rfl rfl rfl ?_
  obtain ⟨t522, h_t522, H⟩ := obs H
  refine Opl.callc (impl_SystemValid_2.ev h2 h3 h4 hv2_0 hv2_1 h_t522) rfl rfl rfl rfl ⟨(.aggL ⟨h2.plain, h3.plain, h4.plain, trivial⟩), (.felL ⟨hv2_0.plain, hv2_1.plain, trivial⟩), trivial⟩ (by decide) (Opl.nil ?_)
  by_cases c4 : t522 = true
  case pos =>
   rw [if_pos c4] at H
   obtain rfl : t522 = true := by simpa using c4
   refine Evr.condT rfl (Evr.sr rfl (Opl.p1 (n := Opl.p1 (n := Opl.nil ?_))))
   obtain rfl := sinj H
   refine Evr.ret1 Try.func149 rfl ?_
   show (.lit (.int .i64 x8_1) : PV) = _
   first | rfl | (simp only [go_sem]; rfl)
  rw [if_neg c4] at H
  obtain rfl : t522 = false := by simpa using c4
  refine Evr.condF rfl (Evr.skip (Evr.inBlock (Evr.regionN rfl (Opl.add (k := .i64) (a := x8_1) (b := 1) K3 rfl rfl rfl rfl (Opl.one (v := .lit (.int .i64 (wrap64 (x8_1 + 1)))) rfl rfl rfl (Opl.nil ?_))))))
  exact ih1 _ (by omega) _ _ ⟨by omega, _, H, ⟨rfl, rfl, rfl, rfl, trivial⟩⟩
theorem slices_ContainsFunc_at_impl_SystemValid_2.ev {k : Nat} {l0 : List IRule} {v0 : PV} (hv0 : Sl cIRule l0 v0) {l2_0 : List IVar} {v2_0 : PV} (hv2_0 : Sl cIVar l2_0 v2_0) {l2_1 : List IRule} {v2_1 : PV} (hv2_1 : Sl cIRule l2_1 v2_1) {r : Bool} (H : slices_ContainsFunc_at_impl_SystemValid_2.f k l0 l2_0 l2_1 = some r) : Ret Try.prog 91 [v0, .fn 92 [.fel (v2_0 :: v2_1 :: [])]] fun v S => v = .lit (.bool r) := by
 unfold slices_ContainsFunc_at_impl_SystemValid_2.f at H
 refine Ret.intro Try.func91 rfl (Nat.le_of_ble_eq_true rfl) rfl ?_
 rw [tm2]
 refine Evr.sr rfl (Opl.p1 (n := Opl.nil (Evr.sr rfl (Opl.p1 (n := Opl.p1 (n := ?_))))))
 obtain ⟨t524, h_t524, H⟩ := obs H
 refine Opl.callc (slices_IndexFunc_at_impl_SystemValid_2.ev hv0 hv2_0 hv2_1 h_t524) rfl rfl rfl rfl ⟨hv0.plain, (.fnL ⟨(.felL ⟨hv2_0.plain, hv2_1.plain, trivial⟩), trivial⟩), trivial⟩ (by decide) (Opl.p1 (n := Opl.p1 (n := Opl.nil ?_)))
 obtain rfl := sinj H
 refine Evr.ret1 Try.func91 rfl ?_
 show (.lit (.bool (decide (t524 ≥ 0))) : PV) = _
 first | rfl | (simp only [go_sem]; rfl)
theorem impl_SystemValid.ev {k : Nat} {l0_0 : List IVar} {v0_0 : PV} (hv0_0 : Sl cIVar l0_0 v0_0) {l0_1 : List IRule} {v0_1 : PV} (hv0_1 : Sl cIRule l0_1 v0_1) {r : Bool} (H : impl_SystemValid.f k l0_0 l0_1 = some r) : Ret Try.prog 26 [.agg [v0_0, v0_1]] fun v S => v = .lit (.bool r) := by
 unfold impl_SystemValid.f at H
 refine Ret.intro Try.func26 rfl (Nat.le_of_ble_eq_true rfl) rfl ?_
 rw [tm1]
 refine Evr.sr rfl (Opl.box (cs := [v0_0, v0_1]) rfl rfl rfl rfl ?_)
 rintro i1 S h1 u1 w1
 refine Opl.p1 (n := Opl.nil (Evr.seq (Evr.seq ?_)))
 refine Evr.join (fun tm S => ∃ (kq1 : Nat) (x24_1 : Bool) (i2 : Abs.Id), impl_SystemValid.j0 kq1 x24_1 l0_0 l0_1 = some r ∧ Has tm [(1, .ptr i2 0), (24, .lit (.bool x24_1))] ∧ Box (.ptr i2 0) [v0_0, v0_1] S) ?_ fun hk1 => ?_
 ·
  rintro tm S ⟨kq1, x24_1, i2, H, hh, h2⟩
  rw [hh.eq]
  obtain _ | k1 := kq1
  · simp [impl_SystemValid.j0] at H
  simp only [impl_SystemValid.j0] at H
  by_cases c1 : x24_1 = true
  case pos =>
   rw [if_pos c1] at H
   obtain rfl : x24_1 = true := by simpa using c1
   refine Evr.condT rfl (Evr.sr rfl (Opl.p1 (n := Opl.nil ?_)))
   obtain rfl := sinj H
   refine Evr.ret1 Try.func26 rfl ?_
   show (.lit (.bool false) : PV) = _
   first | rfl | (simp only [go_sem]; rfl)
  rw [if_neg c1] at H
  obtain rfl : x24_1 = false := by simpa using c1
  refine Evr.condF rfl (Evr.skip (Evr.sr rfl (Opl.p1 (v := .ptr i2 1) (n := Opl.ldb (v := v0_1) h2 rfl T24 rfl rfl rfl rfl (Opl.p1 (n := ?_))))))
  obtain ⟨t529, h_t529, H⟩ := obs H
  refine Opl.callw (slices_ContainsFunc_at_impl_SystemValid_2.ev hv0_1 hv0_0 hv0_1 h_t529) rfl rfl rfl (.cons (.refl _) (.cons (View.fnV (.cons (View.boxV h2 (.cons (.refl _) (.cons (.refl _) .nil))) .nil)) .nil)) ⟨hv0_1.plain, (.fnL ⟨(.felL ⟨hv0_0.plain, hv0_1.plain, trivial⟩), trivial⟩), trivial⟩ (by decide) (Opl.p1 (n := Opl.p1 (n := Opl.nil ?_)))
  obtain rfl := sinj H
  refine Evr.ret1 Try.func26 rfl ?_
  show (.lit (.bool (!t529)) : PV) = _
  first | rfl | (simp only [go_sem]; rfl)
 ·
  refine Evr.regionN rfl (Opl.p1 (v := .ptr i1 0) (n := Opl.ldb (v := v0_0) h1 rfl T23 rfl rfl rfl rfl (Opl.len (xs := l0_0) (by exact hv0_0) K23 rfl rfl rfl rfl ?_)))
  obtain ⟨t526, h_t526, H⟩ := obs H
  refine Opl.callc (impl_in.ev h_t526) rfl rfl rfl rfl ⟨(.lit _), (.lit _), (.lit _), trivial⟩ (by decide) (Opl.p1 (n := Opl.p1 (n := ?_)))
  by_cases c2 : t526 = true
  case neg =>
   rw [if_neg c2] at H
   have e4 : (!t526) = true := by simpa using c2
   try rw [e4]
   refine Opl.sk4 rfl rfl rfl rfl (Opl.p1 (n := Opl.p1 (n := Opl.sk2 rfl rfl (Opl.skp rfl (Opl.p1 (n := Opl.p1 (n := Opl.sk4 rfl rfl rfl rfl (Opl.p1 (n := Opl.nil ?_)))))))))
   exact hk1 _ _ ⟨_, _, _, H, ⟨rfl, (by first | rfl | (show PV.lit (.bool _) = _; congr 2; simp_all)), trivial⟩, h1⟩
  rw [if_pos c2] at H
  have e1 : (!t526) = false := by simpa using c2
  try rw [e1]
  refine Opl.p1 (v := .ptr i1 1) (n := Opl.ldb (v := v0_1) h1 rfl T24 rfl rfl rfl rfl (Opl.len (xs := l0_1) (by exact hv0_1) K24 rfl rfl rfl rfl (Opl.p1 (n := Opl.p1 (n := Opl.p1 (n := ?_))))))
  by_cases c3 : (l0_1.length : Int) > 8
  case pos =>
   rw [if_pos c3] at H
   have e2 : (decide ((l0_1.length : Int) > 8)) = true := by simpa using c3
   try rw [e2]
   refine Opl.sk2 rfl rfl (Opl.skp rfl (Opl.p1 (n := Opl.p1 (n := Opl.sk4 rfl rfl rfl rfl (Opl.p1 (n := Opl.nil ?_))))))
   exact hk1 _ _ ⟨_, _, _, H, ⟨rfl, (by first | rfl | (show PV.lit (.bool _) = _; congr 2; simp_all)), trivial⟩, h1⟩
  rw [if_neg c3] at H
  have e3 : (decide ((l0_1.length : Int) > 8)) = false := by simpa using c3
  try rw [e3]
  refine Opl.p1 (v := .ptr i1 0) (n := Opl.ldb (v := v0_0) h1 rfl T23 rfl rfl rfl rfl ?_)
  obtain ⟨t527, h_t527, H⟩ := obs H
  refine Opl.callc (slices_ContainsFunc_at_impl_SystemValid_1.ev hv0_0 h_t527) rfl rfl rfl rfl ⟨hv0_0.plain, (.lit _), trivial⟩ (by decide) (Opl.p1 (n := Opl.p1 (n := ?_)))
  by_cases c4 : t527 = true
  case pos =>
   rw [if_pos c4] at H
   obtain rfl : t527 = true := by simpa using c4
   refine Opl.sk4 rfl rfl rfl rfl (Opl.p1 (n := Opl.nil ?_))
   exact hk1 _ _ ⟨_, _, _, H, ⟨rfl, (by first | rfl | (show PV.lit (.bool _) = _; congr 2; simp_all)), trivial⟩, h1⟩
  rw [if_neg c4] at H
  obtain rfl : t527 = false := by simpa using c4
  refine Opl.p1 (v := .ptr i1 0) (n := Opl.ldb (v := v0_0) h1 rfl T23 rfl rfl rfl rfl ?_)
  obtain ⟨t528, h_t528, H⟩ := obs H
  refine Opl.callc (impl_size.ev hv0_0 h_t528) rfl rfl rfl rfl ⟨hv0_0.plain, trivial⟩ (by decide) (Opl.p1 (n := Opl.p1 (n := Opl.nil ?_)))
  exact hk1 _ _ ⟨_, _, _, H, ⟨rfl, (by first | rfl | (show PV.lit (.bool _) = _; congr 2; simp_all)), trivial⟩, h1⟩
theorem impl_setOk.ev {k : Nat} {l0 : List Int} {v0 : PV} (hv0 : Sl (cInt .i64) l0 v0) {a1 : Int} {r : Bool} (H : impl_setOk.f k l0 a1 = some r) : Ret Try.prog 61 [v0, .lit (.int .i64 a1)] fun v S => v = .lit (.bool r) := by
 unfold impl_setOk.f at H
 refine Ret.intro Try.func61 rfl (Nat.le_of_ble_eq_true rfl) rfl ?_
 rw [tm2]
 refine Evr.sr rfl (Opl.p1 (n := Opl.nil (Evr.seq (Evr.sr rfl (Opl.p1 (n := Opl.len (xs := l0) (by exact hv0) K27 rfl rfl rfl rfl (Opl.p1 (n := Opl.nil (Evr.block ?_)))))))))
 refine Evr.loop (Evr.rounds (n := k) (Inv := fun n tm S => n ≤ k ∧ ∃ (x9_1 : Int), impl_setOk.l0 n l0 a1 l0 (l0.length : Int) x9_1 = some r ∧ Has tm [(0, v0), (1, .lit (.int .i64 a1)), (7, v0), (8, .lit (.int .i64 (l0.length : Int))), (9, .lit (.int .i64 x9_1))]) ?_ ?_ ?_)
 · exact ⟨Nat.le_refl _, _, H, ⟨rfl, rfl, rfl, rfl, rfl, trivial⟩⟩
 ·
  rintro tm S ⟨_, _, H, -⟩
  simp [impl_setOk.l0] at H
 ·
  rintro n1 ih1 tm S ⟨hle, x9_1, H, hh⟩
  simp only [impl_setOk.l0] at H
  rw [hh.eq]
  refine Evr.sr rfl (Opl.p1 (n := Opl.nil (Evr.seq ?_)))
  by_cases c1 : x9_1 < (l0.length : Int)
  case neg =>
   rw [if_neg c1] at H
   have e8 : (decide (x9_1 < (l0.length : Int))) = false := by simpa using c1
   try rw [e8]
   refine Evr.condF rfl (Evr.exit rfl (Evr.sr rfl (Opl.p1 (n := Opl.nil ?_))))
   obtain rfl := sinj H
   refine Evr.ret1 Try.func61 rfl ?_
   show (.lit (.bool true) : PV) = _
   first | rfl | (simp only [go_sem]; rfl)
  rw [if_pos c1] at H
  have e1 : (decide (x9_1 < (l0.length : Int))) = true := by simpa using c1
  try rw [e1]
  refine Evr.condT rfl (Evr.skip (Evr.seq (Evr.block (Evr.sr rfl (Opl.p1 (n := ?_))))))
  obtain ⟨c2, H⟩ := peel H
  obtain ⟨c3, H⟩ := peel H
  refine Opl.idx (M := (cInt .i64)) (xs := l0) (j := x9_1) (0 : Int) (by exact hv0) rfl (by omega) (by omega) K27 Z3 rfl rfl ?_
  rintro p1 q1 h1
  obtain rfl : p1 = [.lit (.int .i64 (rd l0 x9_1))] := h1
  refine Opl.lda (.lit (.int .i64 (rd l0 x9_1))) rfl T3 rfl rfl rfl rfl (Opl.p1 (n := Opl.p1 (n := Opl.nil (Evr.sr rfl (Opl.p1 (n := Opl.p1 (n := Opl.subi (k := .i64) (a := a1) (b := 1) K3 rfl rfl rfl rfl ?_)))))))
  obtain ⟨t531, h_t531, H⟩ := obs H
  refine Opl.callc (impl_in.ev h_t531) rfl rfl rfl rfl ⟨(.lit _), (.lit _), (.lit _), trivial⟩ (by decide) (Opl.p1 (n := Opl.one (v := .lit (.bool (!t531))) rfl rfl rfl ?_))
  by_cases c4 : t531 = true
  case neg =>
   rw [if_neg c4] at H
   have e7 : (!t531) = true := by simpa using c4
   try rw [e7]
   refine Opl.sk8 rfl rfl rfl rfl rfl rfl rfl rfl (Opl.sk2 rfl rfl (Opl.skp rfl (Opl.p1 (n := Opl.nil (Evr.condT rfl (Evr.sr rfl (Opl.one (v := .lit (.bool false)) rfl rfl rfl (Opl.nil ?_))))))))
   obtain _ | k3 := n1
   · simp [impl_setOk.j1] at H
   simp only [impl_setOk.j1] at H
   rw [if_pos (by first | rfl | trivial)] at H
   obtain rfl := sinj H
   refine Evr.ret1 Try.func61 rfl ?_
   show (.lit (.bool false) : PV) = _
   first | rfl | (simp only [go_sem]; rfl)
  rw [if_pos c4] at H
  have e2 : (!t531) = false := by simpa using c4
  try rw [e2]
  refine Opl.one (v := .lit (.int .i64 x9_1)) rfl rfl rfl (Opl.p1 (n := Opl.one (v := .lit (.bool (decide (x9_1 > 0)))) rfl rfl rfl ?_))
  by_cases c5 : x9_1 > 0
  case neg =>
   rw [if_neg c5] at H
   have e6 : (decide (x9_1 > 0)) = false := by simpa using c5
   try rw [e6]
   refine Opl.sk4 rfl rfl rfl rfl (Opl.sk2 rfl rfl (Opl.skp rfl (Opl.p1 (n := Opl.p1 (n := Opl.nil (Evr.condF rfl (Evr.skip (Evr.inBlock (Evr.regionN rfl (Opl.add (k := .i64) (a := x9_1) (b := 1) K3 rfl rfl rfl rfl (Opl.one (v := .lit (.int .i64 (wrap64 (x9_1 + 1)))) rfl rfl rfl (Opl.nil ?_))))))))))))
   obtain _ | k2 := n1
   · simp [impl_setOk.j1] at H
   simp only [impl_setOk.j1] at H
   rw [if_neg (by first | decide | exact id)] at H
   exact ih1 _ (by omega) _ _ ⟨by omega, _, H, ⟨rfl, rfl, rfl, rfl, rfl, trivial⟩⟩
  rw [if_pos c5] at H
  have e3 : (decide (x9_1 > 0)) = true := by simpa using c5
  try rw [e3]
  refine Opl.one (v := v0) rfl rfl rfl (Opl.one (v := .lit (.int .i64 x9_1)) rfl rfl rfl (Opl.subi (k := .i64) (a := x9_1) (b := 1) K3 rfl rfl rfl rfl ?_))
  obtain ⟨c6, H⟩ := peel H
  obtain ⟨c7, H⟩ := peel H
  obtain _ | k1 := n1
  · simp [impl_setOk.j1] at H
  simp only [impl_setOk.j1] at H
  refine Opl.idx (M := (cInt .i64)) (xs := l0) (j := (wrap64 (x9_1 - 1))) (0 : Int) (by exact hv0) rfl (by omega) (by omega) K27 Z3 rfl rfl ?_
  rintro p2 q2 h2
  obtain rfl : p2 = [.lit (.int .i64 (rd l0 (wrap64 (x9_1 - 1))))] := h2
  refine Opl.lda (.lit (.int .i64 (rd l0 (wrap64 (x9_1 - 1))))) rfl T3 rfl rfl rfl rfl (Opl.one (v := .lit (.int .i64 (rd l0 x9_1))) rfl rfl rfl (Opl.geq (a := (rd l0 (wrap64 (x9_1 - 1)))) (b := (rd l0 x9_1)) K3 rfl rfl rfl rfl (Opl.p1 (n := Opl.p1 (n := Opl.nil ?_)))))
  by_cases c8 : (decide ((rd l0 (wrap64 (x9_1 - 1))) ≥ (rd l0 x9_1))) = true
  case pos =>
   rw [if_pos c8] at H
   have e4 : (decide ((rd l0 (wrap64 (x9_1 - 1))) ≥ (rd l0 x9_1))) = true := by simpa using c8
   try rw [e4]
   refine Evr.condT rfl (Evr.sr rfl (Opl.one (v := .lit (.bool false)) rfl rfl rfl (Opl.nil ?_)))
   obtain rfl := sinj H
   refine Evr.ret1 Try.func61 rfl ?_
   show (.lit (.bool false) : PV) = _
   first | rfl | (simp only [go_sem]; rfl)
  rw [if_neg c8] at H
  have e5 : (decide ((rd l0 (wrap64 (x9_1 - 1))) ≥ (rd l0 x9_1))) = false := by simpa using c8
  try rw [e5]
  refine Evr.condF rfl (Evr.skip (Evr.inBlock (Evr.regionN rfl (Opl.add (k := .i64) (a := x9_1) (b := 1) K3 rfl rfl rfl rfl (Opl.one (v := .lit (.int .i64 (wrap64 (x9_1 + 1)))) rfl rfl rfl (Opl.nil ?_))))))
  exact ih1 _ (by omega) _ _ ⟨by omega, _, H, ⟨rfl, rfl, rfl, rfl, rfl, trivial⟩⟩
theorem impl_SetValid.ev {k : Nat} {l0_0 : List IVar} {v0_0 : PV} (hv0_0 : Sl cIVar l0_0 v0_0) {l0_1 : List IRule} {v0_1 : PV} (hv0_1 : Sl cIRule l0_1 v0_1) {l1 : List Int} {v1 : PV} (hv1 : Sl (cInt .i64) l1 v1) {r : Bool} (H : impl_SetValid.f k l0_0 l0_1 l1 = some r) : Ret Try.prog 12 [.agg [v0_0, v0_1], v1] fun v S => v = .lit (.bool r) := by
 unfold impl_SetValid.f at H
 refine Ret.intro Try.func12 rfl (Nat.le_of_ble_eq_true rfl) rfl ?_
 rw [tm2]
 refine Evr.sr rfl (Opl.box (cs := [v0_0, v0_1]) rfl rfl rfl rfl ?_)
 rintro i1 S h1 u1 w1
 refine Opl.p1 (n := Opl.nil (Evr.sr rfl (Opl.ldb (v := .agg [v0_0, v0_1]) h1 rfl T26 rfl rfl rfl rfl ?_)))
 obtain ⟨t534, h_t534, H⟩ := obs H
 refine Opl.callc (impl_SystemValid.ev hv0_0 hv0_1 h_t534) rfl rfl rfl rfl ⟨(.aggL ⟨hv0_0.plain, hv0_1.plain, trivial⟩), trivial⟩ (by decide) (Opl.p1 (n := ?_))
 by_cases c1 : t534 = true
 case neg =>
  rw [if_neg c1] at H
  obtain rfl : t534 = false := by simpa using c1
  refine Opl.sk4 rfl rfl rfl rfl (Opl.skp rfl (Opl.p1 (n := Opl.p1 (n := Opl.nil ?_))))
  obtain rfl := sinj H
  refine Evr.ret1 Try.func12 rfl ?_
  show (.lit (.bool false) : PV) = _
  first | rfl | (simp only [go_sem]; rfl)
 rw [if_pos c1] at H
 obtain rfl : t534 = true := by simpa using c1
 refine Opl.p1 (n := Opl.p1 (v := .ptr i1 0) (n := Opl.ldb (v := v0_0) h1 rfl T23 rfl rfl rfl rfl ?_))
 obtain ⟨t535, h_t535, H⟩ := obs H
 refine Opl.callc (impl_size.ev hv0_0 h_t535) rfl rfl rfl rfl ⟨hv0_0.plain, trivial⟩ (by decide) ?_
 obtain ⟨t536, h_t536, H⟩ := obs H
 refine Opl.callc (impl_setOk.ev hv1 h_t536) rfl rfl rfl rfl ⟨hv1.plain, (.lit _), trivial⟩ (by decide) (Opl.p1 (n := Opl.p1 (n := Opl.nil ?_)))
 obtain rfl := sinj H
 refine Evr.ret1 Try.func12 rfl ?_
 show (.lit (.bool t536) : PV) = _
 first | rfl | (simp only [go_sem]; rfl)
theorem impl_cubeHas.ev {k : Nat} {l0 : List Int} {v0 : PV} (hv0 : Sl (cInt .i64) l0 v0) {l1 : List Int} {v1 : PV} (hv1 : Sl (cInt .i64) l1 v1) {r : Bool} (H : impl_cubeHas.f k l0 l1 = some r) : Ret Try.prog 131 [v0, v1] fun v S => v = .lit (.bool r) := by
 unfold impl_cubeHas.f at H
 refine Ret.intro Try.func131 rfl (Nat.le_of_ble_eq_true rfl) rfl ?_
 rw [tm2]
 refine Evr.sr rfl (Opl.p1 (n := Opl.nil (Evr.seq (Evr.sr rfl (Opl.p1 (n := Opl.len (xs := l0) (by exact hv0) K27 rfl rfl rfl rfl (Opl.p1 (n := Opl.nil (Evr.block ?_)))))))))
 refine Evr.loop (Evr.rounds (n := k) (Inv := fun n tm S => n ≤ k ∧ ∃ (x9_1 : Int), impl_cubeHas.l0 n l1 l0 (l0.length : Int) x9_1 = some r ∧ Has tm [(1, v1), (7, v0), (8, .lit (.int .i64 (l0.length : Int))), (9, .lit (.int .i64 x9_1))]) ?_ ?_ ?_)
 · exact ⟨Nat.le_refl _, _, H, ⟨rfl, rfl, rfl, rfl, trivial⟩⟩
 ·
  rintro tm S ⟨_, _, H, -⟩
  simp [impl_cubeHas.l0] at H
 ·
  rintro n1 ih1 tm S ⟨hle, x9_1, H, hh⟩
  simp only [impl_cubeHas.l0] at H
  rw [hh.eq]
  refine Evr.sr rfl (Opl.p1 (n := Opl.nil (Evr.seq ?_)))
  by_cases c1 : x9_1 < (l0.length : Int)
  case neg =>
   rw [if_neg c1] at H
   have e6 : (decide (x9_1 < (l0.length : Int))) = false := by simpa using c1
   try rw [e6]
   refine Evr.condF rfl (Evr.exit rfl (Evr.sr rfl (Opl.p1 (n := Opl.nil ?_))))
   obtain rfl := sinj H
   refine Evr.ret1 Try.func131 rfl ?_
   show (.lit (.bool true) : PV) = _
   first | rfl | (simp only [go_sem]; rfl)
  rw [if_pos c1] at H
  have e1 : (decide (x9_1 < (l0.length : Int))) = true := by simpa using c1
  try rw [e1]
  refine Evr.condT rfl (Evr.skip (Evr.seq (Evr.block (Evr.sr rfl (Opl.p1 (n := ?_))))))
  obtain ⟨c2, H⟩ := peel H
  obtain ⟨c3, H⟩ := peel H
  refine Opl.idx (M := (cInt .i64)) (xs := l0) (j := x9_1) (0 : Int) (by exact hv0) rfl (by omega) (by omega) K27 Z3 rfl rfl ?_
  rintro p1 q1 h1
  obtain rfl : p1 = [.lit (.int .i64 (rd l0 x9_1))] := h1
  refine Opl.lda (.lit (.int .i64 (rd l0 x9_1))) rfl T3 rfl rfl rfl rfl (Opl.p1 (n := Opl.p1 (n := Opl.nil (Evr.sr rfl (Opl.p1 (n := Opl.p1 (n := Opl.p1 (n := ?_))))))))
  by_cases c4 : (rd l0 x9_1) = 2
  case pos =>
   rw [if_pos c4] at H
   have e2 : ((rd l0 x9_1) != 2) = false := by simpa using c4
   try rw [e2]
   refine Opl.sk4 rfl rfl rfl rfl (Opl.sk2 rfl rfl (Opl.p1 (n := Opl.nil (Evr.condF rfl (Evr.skip (Evr.inBlock (Evr.regionN rfl (Opl.add (k := .i64) (a := x9_1) (b := 1) K3 rfl rfl rfl rfl (Opl.one (v := .lit (.int .i64 (wrap64 (x9_1 + 1)))) rfl rfl rfl (Opl.nil ?_))))))))))
   exact ih1 _ (by omega) _ _ ⟨by omega, _, H, ⟨rfl, rfl, rfl, rfl, trivial⟩⟩
  rw [if_neg c4] at H
  have e3 : ((rd l0 x9_1) != 2) = true := by simpa using c4
  try rw [e3]
  refine Opl.p1 (n := Opl.p1 (n := Opl.p1 (n := ?_)))
  obtain ⟨c5, H⟩ := peel H
  refine Opl.idx (M := (cInt .i64)) (xs := l1) (j := x9_1) (0 : Int) (by exact hv1) rfl (by omega) (by omega) K27 Z3 rfl rfl ?_
  rintro p2 q2 h2
  obtain rfl : p2 = [.lit (.int .i64 (rd l1 x9_1))] := h2
  refine Opl.lda (.lit (.int .i64 (rd l1 x9_1))) rfl T3 rfl rfl rfl rfl (Opl.p1 (n := Opl.p1 (n := Opl.nil ?_)))
  by_cases c6 : (rd l0 x9_1) = (rd l1 x9_1)
  case neg =>
   rw [if_neg c6] at H
   have e5 : ((rd l0 x9_1) != (rd l1 x9_1)) = true := by simpa using c6
   try rw [e5]
   refine Evr.condT rfl (Evr.sr rfl (Opl.p1 (n := Opl.nil ?_)))
   obtain rfl := sinj H
   refine Evr.ret1 Try.func131 rfl ?_
   show (.lit (.bool false) : PV) = _
   first | rfl | (simp only [go_sem]; rfl)
  rw [if_pos c6] at H
  have e4 : ((rd l0 x9_1) != (rd l1 x9_1)) = false := by simpa using c6
  try rw [e4]
  refine Evr.condF rfl (Evr.skip (Evr.inBlock (Evr.regionN rfl (Opl.add (k := .i64) (a := x9_1) (b := 1) K3 rfl rfl rfl rfl (Opl.one (v := .lit (.int .i64 (wrap64 (x9_1 + 1)))) rfl rfl rfl (Opl.nil ?_))))))
  exact ih1 _ (by omega) _ _ ⟨by omega, _, H, ⟨rfl, rfl, rfl, rfl, trivial⟩⟩
theorem impl_clone_int.ev {l0 : List Int} {v0 : PV} (hv0 : Sl (cInt .i64) l0 v0) {r : List Int} (H : impl_clone_int.f l0 = some r) : Ret Try.prog 81 [v0] fun v S => Vec (cInt .i64) r v S := by
 unfold impl_clone_int.f at H
 refine Ret.intro Try.func81 rfl (Nat.le_of_ble_eq_true rfl) rfl ?_
 rw [tm1]
 obtain ⟨c1, H⟩ := peel H
 obtain rfl := sinj H
 refine Evr.seq (Evr.regionN rfl (Opl.p1 (n := Opl.nil (Evr.seq (Evr.seq (Evr.regionN rfl (Opl.p1 (n := Opl.len (by exact hv0) K27 rfl rfl rfl rfl (Opl.p1 (n := Opl.nil ?_))))))))))
 by_cases c2 : (l0.length : Int) = 0
 · have e1 : ((l0.length : Int) == 0) = true := by simpa using c2
   try rw [e1]
   refine Evr.condT rfl (Evr.seq (Evr.regionN rfl (Opl.p1 (n := Opl.nil ?_))))
   obtain rfl : l0 = [] := List.eq_nil_of_length_eq_zero (by omega)
   refine Evr.ret1 Try.func81 rfl ?_
   exact .nil
 · have e1 : ((l0.length : Int) == 0) = false := by simpa using c2
   try rw [e1]
   refine Evr.condF rfl (Evr.skip (Evr.seq (Evr.regionN rfl (Opl.p1 (n := Opl.len (by exact hv0) K27 rfl rfl rfl rfl ?_)))))
   refine Opl.make (M := (cInt .i64)) (m := (l0.length : Int)) (0 : Int) (by exact rfl) rfl rfl K27 T3 rfl (by omega) (by show (_ : Nat) * 8 ≤ 281474976710656; omega) (by omega) rfl rfl rfl ?_
   rintro pv1 S h1 u1 w1
   refine Opl.p1 (n := Opl.nil (Evr.seq (Evr.regionN rfl (Opl.p1 (n := Opl.p1 (n := ?_))))))
   refine Opl.copy (M := (cInt .i64)) (ys := l0) h1 (by exact hv0) (oInt .i64) rfl (by simp) (by simp; omega) K27 Z3 rfl rfl rfl rfl rfl ?_
   rintro S h2 u2
   refine Opl.nil (Evr.seq (Evr.regionN rfl (Opl.p1 (n := Opl.p1 (n := Opl.nil ?_)))))
   refine Evr.ret1 Try.func81 rfl ?_
   exact h2
theorem impl_listOf.ev {k : Nat} {l0 : List Bool} {v0 : PV} (hv0 : Sl cBool l0 v0) {r : (List Int)} (H : impl_listOf.f k l0 = some r) : Ret Try.prog 74 [v0] fun v S => Vec (cInt .i64) r v S := by
 unfold impl_listOf.f at H
 refine Ret.intro Try.func74 rfl (Nat.le_of_ble_eq_true rfl) rfl ?_
 rw [tm1]
 refine Evr.sr rfl (Opl.p1 (n := Opl.nil (Evr.sr rfl (Opl.p1 (n := Opl.nil (Evr.seq (Evr.sr rfl (Opl.p1 (n := Opl.len (xs := l0) (by exact hv0) K91 rfl rfl rfl rfl (Opl.p1 (n := Opl.nil (Evr.block ?_))))))))))))
 refine Evr.loop (Evr.rounds (n := k) (Inv := fun n tm S => n ≤ k ∧ ∃ (x3_1 : List Int) (x8_1 : Int) (pv1 : PV), impl_listOf.l0 n x3_1 l0 (l0.length : Int) x8_1 = some r ∧ Has tm [(3, pv1), (6, v0), (7, .lit (.int .i64 (l0.length : Int))), (8, .lit (.int .i64 x8_1))] ∧ Vec (cInt .i64) x3_1 pv1 S) ?_ ?_ ?_)
 · exact ⟨Nat.le_refl _, _, _, _, H, ⟨rfl, rfl, rfl, rfl, trivial⟩, .nil⟩
 ·
  rintro tm S ⟨_, _, _, _, H, -⟩
  simp [impl_listOf.l0] at H
 ·
  rintro n1 ih1 tm S ⟨hle, x3_1, x8_1, pv1, H, hh, h1⟩
  simp only [impl_listOf.l0] at H
  rw [hh.eq]
  refine Evr.sr rfl (Opl.p1 (n := Opl.nil (Evr.seq ?_)))
  by_cases c1 : x8_1 < (l0.length : Int)
  case neg =>
   rw [if_neg c1] at H
   have e4 : (decide (x8_1 < (l0.length : Int))) = false := by simpa using c1
   try rw [e4]
   refine Evr.condF rfl (Evr.exit rfl (Evr.sr rfl (Opl.p1 (n := ?_))))
   obtain ⟨t598, h_t598, H⟩ := obs H
   obtain ⟨pv5, h8, -, h9⟩ := Out.vec h1
   refine Opl.callav (sInt .i64) (impl_clone_int.ev h9 h_t598) rfl rfl rfl (.cons h8 .nil) ⟨h9.plain, trivial⟩ rfl ?_
   rintro pv6 S h10 u3 w3
   have ap3 := w3.vec h1
   have h11 := u3.vec h1 ap3
   refine Opl.p1 (n := Opl.nil ?_)
   obtain rfl := sinj H
   refine Evr.ret1 Try.func74 rfl ?_
   show Vec _ _ pv6 _
   exact h10
  rw [if_pos c1] at H
  have e1 : (decide (x8_1 < (l0.length : Int))) = true := by simpa using c1
  try rw [e1]
  refine Evr.condT rfl (Evr.skip (Evr.seq (Evr.block (Evr.sr rfl (Opl.p1 (n := ?_))))))
  obtain ⟨c2, H⟩ := peel H
  obtain ⟨c3, H⟩ := peel H
  refine Opl.idx (M := cBool) (xs := l0) (j := x8_1) false (by exact hv0) rfl (by omega) (by omega) K91 Z4 rfl rfl ?_
  rintro p1 q1 h2
  obtain rfl : p1 = [.lit (.bool (rdOf false l0 x8_1))] := h2
  refine Opl.lda (.lit (.bool (rdOf false l0 x8_1))) rfl T4 rfl rfl rfl rfl (Opl.p1 (n := Opl.p1 (n := Opl.nil (Evr.sr rfl (Opl.p1 (n := Opl.nil ?_))))))
  refine Evr.join (fun tm S => ∃ (kq1 : Nat) (x3_2 : List Int) (pv2 : PV), impl_listOf.l0 kq1 x3_2 l0 (l0.length : Int) (wrap64 (x8_1 + 1)) = some r ∧ kq1 ≤ n1 ∧ Has tm [(3, pv2), (6, v0), (7, .lit (.int .i64 (l0.length : Int))), (8, .lit (.int .i64 x8_1))] ∧ Vec (cInt .i64) x3_2 pv2 S) ?_ fun hk1 => ?_
  ·
   rintro tm S ⟨kq1, x3_2, pv2, H, hle, hh, h3⟩
   rw [hh.eq]
   refine Evr.inBlock (Evr.regionN rfl (Opl.add (k := .i64) (a := x8_1) (b := 1) K3 rfl rfl rfl rfl (Opl.one (v := .lit (.int .i64 (wrap64 (x8_1 + 1)))) rfl rfl rfl (Opl.nil ?_))))
   exact ih1 _ (by omega) _ _ ⟨by omega, _, _, _, H, ⟨rfl, rfl, rfl, rfl, trivial⟩, h3⟩
  ·
   by_cases c4 : rdOf false l0 x8_1 = true
   case neg =>
    rw [if_neg c4] at H
    have e3 : (rdOf false l0 x8_1) = false := by simpa using c4
    try rw [e3]
    refine Evr.condF rfl (Evr.skip ?_)
    exact hk1 _ _ ⟨_, _, _, H, by omega, ⟨rfl, rfl, rfl, rfl, trivial⟩, h1⟩
   rw [if_pos c4] at H
   have e2 : (rdOf false l0 x8_1) = true := by simpa using c4
   try rw [e2]
   refine Evr.condT rfl (Evr.regionN rfl (Opl.p1 (n := Opl.p1 (n := Opl.lits (M := (cInt .i64)) (ys := [x8_1]) [.tmp 15] K27 T3 rfl rfl rfl (by exact ⟨rfl, trivial⟩) rfl (by decide) rfl rfl rfl ?_))))
   rintro pv3 S h4 u1 w1
   have ap1 := w1.vec h1
   have h5 := u1.vec h1 ap1
   obtain ⟨c5, H⟩ := peel H
   refine Opl.app (M := (cInt .i64)) (xs := x3_1) (ys := [x8_1]) (v := pv1) h5 (.vec h4) (oInt .i64) rfl rfl K27 T3 rfl rfl (by (try simp only [List.length_cons, List.length_nil]); omega) (by show (_ + _) * 8 ≤ 140737488355328; (try simp only [List.length_cons, List.length_nil]); omega) rfl rfl rfl rfl rfl ?_
   rintro pv4 S h6 u2 w2
   have ap2 := w2.vec h4
   have h7 := u2.vec h4 ap1.symm
   refine Opl.p1 (n := Opl.nil ?_)
   exact hk1 _ _ ⟨_, _, _, H, by omega, ⟨rfl, rfl, rfl, rfl, trivial⟩, h6⟩
theorem impl_stateAt.ev {k : Nat} {l0_0 : List IVar} {v0_0 : PV} (hv0_0 : Sl cIVar l0_0 v0_0) {l0_1 : List IRule} {v0_1 : PV} (hv0_1 : Sl cIRule l0_1 v0_1) {a1 : Int} {r : (List Int)} (H : impl_stateAt.f k l0_0 l0_1 a1 = some r) : Ret Try.prog 141 [.agg [v0_0, v0_1], .lit (.int .i64 a1)] fun v S => Vec (cInt .i64) r v S := by
 unfold impl_stateAt.f at H
 refine Ret.intro Try.func141 rfl (Nat.le_of_ble_eq_true rfl) rfl ?_
 rw [tm2]
 refine Evr.sr rfl (Opl.box (cs := [v0_0, v0_1]) rfl rfl rfl rfl ?_)
 rintro i1 S h1 u1 w1
 refine Opl.p1 (n := Opl.nil (Evr.sr rfl (Opl.p1 (v := .ptr i1 0) (n := Opl.ldb (v := v0_0) h1 rfl T23 rfl rfl rfl rfl (Opl.len (xs := l0_0) (by exact hv0_0) K23 rfl rfl rfl rfl ?_)))))
 obtain ⟨c1, H⟩ := peel H
 obtain ⟨c2, H⟩ := peel H
 obtain ⟨y570, hy_, H⟩ := obs H
 obtain rfl := Option.some.inj hy_
 refine Opl.make (M := (cInt .i64)) (m := (l0_0.length : Int)) (0 : Int) (by exact rfl) rfl rfl K27 T3 rfl (by omega) (by show ((l0_0.length : Int)).toNat * 8 ≤ 281474976710656; omega) (by omega) rfl rfl rfl ?_
 rintro pv1 S h2 u2 w2
 have ap1 := w2.box h1
 have h3 := u2.box h1 ap1
 refine Opl.p1 (n := Opl.nil (Evr.seq (Evr.sr rfl (Opl.p1 (n := Opl.lenv (xs := (List.replicate (l0_0.length : Int).toNat (0 : Int))) (by exact h2) K27 rfl rfl rfl rfl (Opl.subi (k := .i64) (a := ((List.replicate (l0_0.length : Int).toNat (0 : Int)).length : Int)) (b := 1) K3 rfl rfl rfl rfl (Opl.one (v := .lit (.int .i64 (wrap64 (((List.replicate (l0_0.length : Int).toNat (0 : Int)).length : Int) - 1)))) rfl rfl rfl (Opl.nil (Evr.block ?_)))))))))
 refine Evr.loop (Evr.rounds (n := k) (Inv := fun n tm S => n ≤ k ∧ ∃ (x1_1 : Int) (x5_1 : List Int) (x6_1 : Int) (i2 : Abs.Id) (pv2 : PV), impl_stateAt.l0 n x1_1 x5_1 x6_1 l0_0 l0_1 = some r ∧ Has tm [(1, .lit (.int .i64 x1_1)), (2, .ptr i2 0), (5, pv2), (6, .lit (.int .i64 x6_1))] ∧ Box (.ptr i2 0) [v0_0, v0_1] S ∧ Vec (cInt .i64) x5_1 pv2 S ∧ Ap (.ptr i2 0) pv2) ?_ ?_ ?_)
 · exact ⟨Nat.le_refl _, _, _, _, _, _, H, ⟨rfl, rfl, rfl, rfl, trivial⟩, h3, h2, ap1⟩
 ·
  rintro tm S ⟨_, _, _, _, _, _, H, -⟩
  simp [impl_stateAt.l0] at H
 ·
  rintro n1 ih1 tm S ⟨hle, x1_1, x5_1, x6_1, i2, pv2, H, hh, h4, h5, ap2⟩
  simp only [impl_stateAt.l0] at H
  rw [hh.eq]
  refine Evr.seq (Evr.sr rfl (Opl.p1 (n := Opl.p1 (n := Opl.nil ?_))))
  by_cases c3 : x6_1 ≥ 0
  case neg =>
   rw [if_neg c3] at H
   have e2 : (decide (x6_1 ≥ 0)) = false := by simpa using c3
   try rw [e2]
   refine Evr.condF rfl (Evr.exit rfl (Evr.sr rfl (Opl.p1 (n := Opl.p1 (n := Opl.nil ?_)))))
   obtain rfl := sinj H
   refine Evr.ret1 Try.func141 rfl ?_
   show Vec _ _ pv2 _
   exact h5
  rw [if_pos c3] at H
  have e1 : (decide (x6_1 ≥ 0)) = true := by simpa using c3
  try rw [e1]
  refine Evr.condT rfl (Evr.skip (Evr.seq (Evr.block (Evr.sr rfl (Opl.p1 (v := .ptr i2 0) (n := Opl.ldb (v := v0_0) h4 rfl T23 rfl rfl rfl rfl (Opl.p1 (n := ?_))))))))
  obtain ⟨c4, H⟩ := peel H
  obtain ⟨c5, H⟩ := peel H
  obtain ⟨c6, H⟩ := peelN H
  obtain ⟨c7, H⟩ := peel H
  refine Opl.idx (M := cIVar) (xs := l0_0) (j := x6_1) zIVar (by exact hv0_0) rfl (by omega) (by omega) K23 Z101 rfl rfl ?_
  rintro p1 q1 h6
  obtain rfl := cIVar_R (x := (rd_IVar l0_0 x6_1)) h6
  refine Opl.lda (.agg [.lit (.int .i64 ((rd_IVar l0_0 x6_1).f0)), .lit (.int .i64 ((rd_IVar l0_0 x6_1).f1)), .lit (.int .i64 ((rd_IVar l0_0 x6_1).f2))]) rfl T101 rfl rfl rfl rfl (Opl.alloc T101 rfl rfl rfl ?_)
  rintro i3 S h7 u3 w3
  have ap3 := w3.box h4
  have h8 := u3.box h4 ap3
  have ap4 := w3.vec h5
  have h9 := u3.vec h5 ap4
  refine Opl.stb (vs := [.lit (.int .i64 ((rd_IVar l0_0 x6_1).f0)), .lit (.int .i64 ((rd_IVar l0_0 x6_1).f1)), .lit (.int .i64 ((rd_IVar l0_0 x6_1).f2))]) h7 rfl rfl Z101 rfl (Nat.le_of_ble_eq_true rfl) rfl rfl rfl rfl ?_
  rintro S (h10 : Box (.ptr i3 0) [.lit (.int .i64 ((rd_IVar l0_0 x6_1).f0)), .lit (.int .i64 ((rd_IVar l0_0 x6_1).f1)), .lit (.int .i64 ((rd_IVar l0_0 x6_1).f2))] _) u4
  have h11 := u4.box h8 ap3
  have h12 := u4.vec h9 ap4
  refine Opl.nil (Evr.sr rfl (Opl.p1 (v := .ptr i3 1) (n := Opl.ldb (v := .lit (.int .i64 ((rd_IVar l0_0 x6_1).f1))) h10 rfl T3 rfl rfl rfl rfl (Opl.p1 (v := .ptr i3 0) (n := Opl.ldb (v := .lit (.int .i64 ((rd_IVar l0_0 x6_1).f0))) h10 rfl T3 rfl rfl rfl rfl (Opl.subi (k := .i64) (a := ((rd_IVar l0_0 x6_1).f1)) (b := ((rd_IVar l0_0 x6_1).f0)) K3 rfl rfl rfl rfl (Opl.add (k := .i64) (a := (wrap64 (((rd_IVar l0_0 x6_1).f1) - ((rd_IVar l0_0 x6_1).f0)))) (b := 1) K3 rfl rfl rfl rfl (Opl.one (v := .lit (.int .i64 (wrap64 ((wrap64 (((rd_IVar l0_0 x6_1).f1) - ((rd_IVar l0_0 x6_1).f0))) + 1)))) rfl rfl rfl (Opl.nil (Evr.seq (Evr.regionD rfl (by kernel_rfl) (Opl.one (v := pv2) rfl rfl rfl (Opl.one (v := .lit (.int .i64 x6_1)) rfl rfl rfl (Opl.p1 (v := .ptr i3 0) (n := Opl.ldb (v := .lit (.int .i64 ((rd_IVar l0_0 x6_1).f0))) h10 rfl T3 rfl rfl rfl rfl (Opl.one (v := .lit (.int .i64 x1_1)) rfl rfl rfl (Opl.one (v := .lit (.int .i64 (wrap64 ((wrap64 (((rd_IVar l0_0 x6_1).f1) - ((rd_IVar l0_0 x6_1).f0))) + 1)))) rfl rfl rfl (Opl.one (v := .lit (.int .i64 (Int.tmod x1_1 (wrap64 ((wrap64 (((rd_IVar l0_0 x6_1).f1) - ((rd_IVar l0_0 x6_1).f0))) + 1))))) rfl rfl (by simp only [go_sem]; rw [if_neg (by first | assumption | decide | omega)]; rfl) (Opl.add (k := .i64) (a := ((rd_IVar l0_0 x6_1).f0)) (b := (Int.tmod x1_1 (wrap64 ((wrap64 (((rd_IVar l0_0 x6_1).f1) - ((rd_IVar l0_0 x6_1).f0))) + 1)))) K3 rfl rfl rfl rfl (Opl.idv (M := (cInt .i64)) (xs := x5_1) (j := x6_1) (v := pv2) h12 rfl rfl (by omega) (by omega) K27 Z3 rfl rfl ?_))))))))))))))))))))
  rintro d1 z1 q2 h13 h14
  refine Opl.stv (M := (cInt .i64)) (xs := x5_1) (j := x6_1) (y := (wrap64 (((rd_IVar l0_0 x6_1).f0) + (Int.tmod x1_1 (wrap64 ((wrap64 (((rd_IVar l0_0 x6_1).f1) - ((rd_IVar l0_0 x6_1).f0))) + 1)))))) (vs := [.lit (.int .i64 (wrap64 (((rd_IVar l0_0 x6_1).f0) + (Int.tmod x1_1 (wrap64 ((wrap64 (((rd_IVar l0_0 x6_1).f1) - ((rd_IVar l0_0 x6_1).f0))) + 1))))))]) h13 h14 (by omega) (by omega) rfl rfl (by exact rfl) Z3 rfl rfl rfl rfl ?_
  rw [← q2]
  rintro S h15 u5
  have h16 := u5.box h11 ap2
  have h17 := u5.box h10 ap4.symm
  refine Opl.nil (Evr.regionN rfl (Opl.one (v := .lit (.int .i64 x1_1)) rfl rfl rfl (Opl.one (v := .lit (.int .i64 (wrap64 ((wrap64 (((rd_IVar l0_0 x6_1).f1) - ((rd_IVar l0_0 x6_1).f0))) + 1)))) rfl rfl rfl (Opl.one (v := .lit (.int .i64 (wrap64 (Int.tdiv x1_1 (wrap64 ((wrap64 (((rd_IVar l0_0 x6_1).f1) - ((rd_IVar l0_0 x6_1).f0))) + 1)))))) rfl rfl (by simp only [go_sem]; rw [if_neg (by first | assumption | decide | omega)]; rfl) (Opl.one (v := .lit (.int .i64 (wrap64 (Int.tdiv x1_1 (wrap64 ((wrap64 (((rd_IVar l0_0 x6_1).f1) - ((rd_IVar l0_0 x6_1).f0))) + 1)))))) rfl rfl rfl (Opl.nil (Evr.inBlock (Evr.regionN rfl (Opl.one (v := .lit (.int .i64 x6_1)) rfl rfl rfl (Opl.subi (k := .i64) (a := x6_1) (b := 1) K3 rfl rfl rfl rfl (Opl.one (v := .lit (.int .i64 (wrap64 (x6_1 - 1)))) rfl rfl rfl (Opl.nil ?_))))))))))))
  exact ih1 _ (by omega) _ _ ⟨by omega, _, _, _, _, _, H, ⟨rfl, rfl, rfl, rfl, trivial⟩, h16, h15, ap2⟩
theorem impl_bitsFor.ev {k : Nat} {a0 : Int} {r : Int} (H : impl_bitsFor.f k a0 = some r) : Ret Try.prog 184 [.lit (.int .i64 a0)] fun v S => v = .lit (.int .i64 r) := by
 unfold impl_bitsFor.f at H
 refine Ret.intro Try.func184 rfl (Nat.le_of_ble_eq_true rfl) rfl ?_
 rw [tm1]
 refine Evr.sr rfl (Opl.p1 (n := Opl.nil (Evr.sr rfl (Opl.p1 (n := Opl.nil (Evr.seq (Evr.block ?_)))))))
 refine Evr.loop (Evr.rounds (n := k) (Inv := fun n tm S => n ≤ k ∧ ∃ (x3_1 : Int), impl_bitsFor.l0 n a0 x3_1 = some r ∧ Has tm [(0, .lit (.int .i64 a0)), (3, .lit (.int .i64 x3_1))]) ?_ ?_ ?_)
 · exact ⟨Nat.le_refl _, _, H, ⟨rfl, rfl, trivial⟩⟩
 ·
  rintro tm S ⟨_, _, H, -⟩
  simp [impl_bitsFor.l0] at H
 ·
  rintro n1 ih1 tm S ⟨hle, x3_1, H, hh⟩
  simp only [impl_bitsFor.l0] at H
  rw [hh.eq]
  refine Evr.seq (Evr.sr rfl (Opl.p1 (n := ?_)))
  obtain ⟨c1, H⟩ := peel H
  refine Opl.one (v := .lit (.int .i64 (shl .i64 1 x3_1))) rfl rfl (by simp only [go_sem]; rw [if_neg (by omega)]; simp only [shl, w64, IntKind.bits]; rfl) (Opl.p1 (n := Opl.p1 (n := Opl.nil ?_)))
  by_cases c2 : (shl .i64 1 x3_1) < a0
  case neg =>
   rw [if_neg c2] at H
   have e2 : (decide ((shl .i64 1 x3_1) < a0)) = false := by simpa using c2
   try rw [e2]
   refine Evr.condF rfl (Evr.exit rfl (Evr.sr rfl (Opl.p1 (n := Opl.p1 (n := Opl.nil ?_)))))
   obtain rfl := sinj H
   refine Evr.ret1 Try.func184 rfl ?_
   show (.lit (.int .i64 x3_1) : PV) = _
   first | rfl | (simp only [go_sem]; rfl)
  rw [if_pos c2] at H
  have e1 : (decide ((shl .i64 1 x3_1) < a0)) = true := by simpa using c2
  try rw [e1]
  refine Evr.condT rfl (Evr.skip (Evr.block (Evr.regionN rfl (Opl.p1 (n := Opl.add (k := .i64) (a := x3_1) (b := 1) K3 rfl rfl rfl rfl (Opl.one (v := .lit (.int .i64 (wrap64 (x3_1 + 1)))) rfl rfl rfl (Opl.nil (Evr.inBlock ?_))))))))
  exact ih1 _ (by omega) _ _ ⟨by omega, _, H, ⟨rfl, rfl, trivial⟩⟩
theorem impl_bitsOf.ev {k : Nat} {l0_0 : List IVar} {v0_0 : PV} (hv0_0 : Sl cIVar l0_0 v0_0) {l0_1 : List IRule} {v0_1 : PV} (hv0_1 : Sl cIRule l0_1 v0_1) {r : (List Int)} (H : impl_bitsOf.f k l0_0 l0_1 = some r) : Ret Try.prog 139 [.agg [v0_0, v0_1]] fun v S => Vec (cInt .i64) r v S := by
 unfold impl_bitsOf.f at H
 refine Ret.intro Try.func139 rfl (Nat.le_of_ble_eq_true rfl) rfl ?_
 rw [tm1]
 refine Evr.sr rfl (Opl.box (cs := [v0_0, v0_1]) rfl rfl rfl rfl ?_)
 rintro i1 S h1 u1 w1
 refine Opl.p1 (n := Opl.nil (Evr.sr rfl (Opl.p1 (n := Opl.nil (Evr.seq (Evr.sr rfl (Opl.p1 (v := .ptr i1 0) (n := Opl.ldb (v := v0_0) h1 rfl T23 rfl rfl rfl rfl (Opl.len (xs := l0_0) (by exact hv0_0) K23 rfl rfl rfl rfl (Opl.p1 (n := Opl.nil (Evr.block ?_))))))))))))
 refine Evr.loop (Evr.rounds (n := k) (Inv := fun n tm S => n ≤ k ∧ ∃ (x3_1 : List Int) (x9_1 : Int) (pv1 : PV), impl_bitsOf.l0 n x3_1 l0_0 (l0_0.length : Int) x9_1 = some r ∧ Has tm [(3, pv1), (7, v0_0), (8, .lit (.int .i64 (l0_0.length : Int))), (9, .lit (.int .i64 x9_1))] ∧ Vec (cInt .i64) x3_1 pv1 S) ?_ ?_ ?_)
 · exact ⟨Nat.le_refl _, _, _, _, H, ⟨rfl, rfl, rfl, rfl, trivial⟩, .nil⟩
 ·
  rintro tm S ⟨_, _, _, _, H, -⟩
  simp [impl_bitsOf.l0] at H
 ·
  rintro n1 ih1 tm S ⟨hle, x3_1, x9_1, pv1, H, hh, h2⟩
  simp only [impl_bitsOf.l0] at H
  rw [hh.eq]
  refine Evr.sr rfl (Opl.p1 (n := Opl.nil (Evr.seq ?_)))
  by_cases c1 : x9_1 < (l0_0.length : Int)
  case neg =>
   rw [if_neg c1] at H
   have e2 : (decide (x9_1 < (l0_0.length : Int))) = false := by simpa using c1
   try rw [e2]
   refine Evr.condF rfl (Evr.exit rfl (Evr.sr rfl (Opl.p1 (n := ?_))))
   obtain ⟨t546, h_t546, H⟩ := obs H
   obtain ⟨pv4, h14, -, h15⟩ := Out.vec h2
   refine Opl.callav (sInt .i64) (impl_clone_int.ev h15 h_t546) rfl rfl rfl (.cons h14 .nil) ⟨h15.plain, trivial⟩ rfl ?_
   rintro pv5 S h16 u6 w6
   have ap6 := w6.vec h2
   have h17 := u6.vec h2 ap6
   refine Opl.p1 (n := Opl.nil ?_)
   obtain rfl := sinj H
   refine Evr.ret1 Try.func139 rfl ?_
   show Vec _ _ pv5 _
   exact h16
  rw [if_pos c1] at H
  have e1 : (decide (x9_1 < (l0_0.length : Int))) = true := by simpa using c1
  try rw [e1]
  refine Evr.condT rfl (Evr.skip (Evr.seq (Evr.block (Evr.sr rfl ?_))))
  obtain ⟨c2, H⟩ := peel H
  obtain ⟨c3, H⟩ := peel H
  refine Opl.idx (M := cIVar) (xs := l0_0) (j := x9_1) zIVar (by exact hv0_0) rfl (by omega) (by omega) K23 Z101 rfl rfl ?_
  rintro p1 q1 h3
  obtain rfl := cIVar_R (x := (rd_IVar l0_0 x9_1)) h3
  refine Opl.lda (.agg [.lit (.int .i64 ((rd_IVar l0_0 x9_1).f0)), .lit (.int .i64 ((rd_IVar l0_0 x9_1).f1)), .lit (.int .i64 ((rd_IVar l0_0 x9_1).f2))]) rfl T101 rfl rfl rfl rfl (Opl.alloc T101 rfl rfl rfl ?_)
  rintro i2 S h4 u2 w2
  have ap1 := w2.vec h2
  have h5 := u2.vec h2 ap1
  refine Opl.stb (vs := [.lit (.int .i64 ((rd_IVar l0_0 x9_1).f0)), .lit (.int .i64 ((rd_IVar l0_0 x9_1).f1)), .lit (.int .i64 ((rd_IVar l0_0 x9_1).f2))]) h4 rfl rfl Z101 rfl (Nat.le_of_ble_eq_true rfl) rfl rfl rfl rfl ?_
  rintro S (h6 : Box (.ptr i2 0) [.lit (.int .i64 ((rd_IVar l0_0 x9_1).f0)), .lit (.int .i64 ((rd_IVar l0_0 x9_1).f1)), .lit (.int .i64 ((rd_IVar l0_0 x9_1).f2))] _) u3
  have h7 := u3.vec h5 ap1
  refine Opl.nil (Evr.regionN rfl (Opl.p1 (n := Opl.p1 (v := .ptr i2 1) (n := Opl.ldb (v := .lit (.int .i64 ((rd_IVar l0_0 x9_1).f1))) h6 rfl T3 rfl rfl rfl rfl (Opl.p1 (v := .ptr i2 0) (n := Opl.ldb (v := .lit (.int .i64 ((rd_IVar l0_0 x9_1).f0))) h6 rfl T3 rfl rfl rfl rfl (Opl.subi (k := .i64) (a := ((rd_IVar l0_0 x9_1).f1)) (b := ((rd_IVar l0_0 x9_1).f0)) K3 rfl rfl rfl rfl (Opl.add (k := .i64) (a := (wrap64 (((rd_IVar l0_0 x9_1).f1) - ((rd_IVar l0_0 x9_1).f0)))) (b := 1) K3 rfl rfl rfl rfl ?_))))))))
  obtain ⟨t542, h_t542, H⟩ := obs H
  refine Opl.callc (impl_bitsFor.ev h_t542) rfl rfl rfl rfl ⟨(.lit _), trivial⟩ (by decide) (Opl.lits (M := (cInt .i64)) (ys := [t542]) [.tmp 20] K27 T3 rfl rfl rfl (by exact ⟨rfl, trivial⟩) rfl (by decide) rfl rfl rfl ?_)
  rintro pv2 S h8 u4 w4
  have ap2 := w4.vec h7
  have h9 := u4.vec h7 ap2
  have ap3 := w4.box h6
  have h10 := u4.box h6 ap3
  obtain ⟨c4, H⟩ := peel H
  refine Opl.app (M := (cInt .i64)) (xs := x3_1) (ys := [t542]) (v := pv1) h9 (.vec h8) (oInt .i64) rfl rfl K27 T3 rfl rfl (by (try simp only [List.length_cons, List.length_nil]); omega) (by show (_ + _) * 8 ≤ 140737488355328; (try simp only [List.length_cons, List.length_nil]); omega) rfl rfl rfl rfl rfl ?_
  rintro pv3 S h11 u5 w5
  have ap4 := w5.box h10
  have h12 := u5.box h10 ap1.symm
  have ap5 := w5.vec h8
  have h13 := u5.vec h8 ap2.symm
  refine Opl.one (v := pv3) rfl rfl rfl (Opl.nil (Evr.inBlock (Evr.regionN rfl (Opl.add (k := .i64) (a := x9_1) (b := 1) K3 rfl rfl rfl rfl (Opl.one (v := .lit (.int .i64 (wrap64 (x9_1 + 1)))) rfl rfl rfl (Opl.nil ?_))))))
  exact ih1 _ (by omega) _ _ ⟨by omega, _, _, _, H, ⟨rfl, rfl, rfl, rfl, trivial⟩, h11⟩
theorem impl_valueBits.ev {k : Nat} {a0 : Int} {a1 : Int} {r : (List Int)} (H : impl_valueBits.f k a0 a1 = some r) : Ret Try.prog 185 [.lit (.int .i64 a0), .lit (.int .i64 a1)] fun v S => Vec (cInt .i64) r v S := by
 unfold impl_valueBits.f at H
 refine Ret.intro Try.func185 rfl (Nat.le_of_ble_eq_true rfl) rfl ?_
 rw [tm2]
 refine Evr.sr rfl (Opl.p1 (n := Opl.nil (Evr.sr rfl (Opl.p1 (n := ?_)))))
 obtain ⟨c1, H⟩ := peel H
 obtain ⟨c2, H⟩ := peel H
 obtain ⟨y549, hy_, H⟩ := obs H
 obtain rfl := Option.some.inj hy_
 refine Opl.make (M := (cInt .i64)) (m := a1) (0 : Int) (by exact rfl) rfl rfl K27 T3 rfl (by omega) (by show (a1).toNat * 8 ≤ 281474976710656; omega) (by omega) rfl rfl rfl ?_
 rintro pv1 S h1 u1 w1
 refine Opl.p1 (n := Opl.nil (Evr.seq (Evr.sr rfl (Opl.p1 (n := Opl.lenv (xs := (List.replicate a1.toNat (0 : Int))) (by exact h1) K27 rfl rfl rfl rfl (Opl.p1 (n := Opl.nil (Evr.block ?_))))))))
 refine Evr.loop (Evr.rounds (n := k) (Inv := fun n tm S => n ≤ k ∧ ∃ (x5_1 : List Int) (x11_1 : Int) (pv2 : PV), impl_valueBits.l0 n a0 a1 x5_1 ((List.replicate (a1 : Int).toNat 0 : List Int).length : Int) x11_1 = some r ∧ Has tm [(0, .lit (.int .i64 a0)), (1, .lit (.int .i64 a1)), (5, pv2), (10, .lit (.int .i64 ((List.replicate a1.toNat (0 : Int)).length : Int))), (11, .lit (.int .i64 x11_1))] ∧ Vec (cInt .i64) x5_1 pv2 S) ?_ ?_ ?_)
 · exact ⟨Nat.le_refl _, _, _, _, H, ⟨rfl, rfl, rfl, rfl, rfl, trivial⟩, h1⟩
 ·
  rintro tm S ⟨_, _, _, _, H, -⟩
  simp [impl_valueBits.l0] at H
 ·
  rintro n1 ih1 tm S ⟨hle, x5_1, x11_1, pv2, H, hh, h2⟩
  simp only [impl_valueBits.l0] at H
  rw [hh.eq]
  refine Evr.sr rfl (Opl.p1 (n := Opl.nil (Evr.seq ?_)))
  by_cases c3 : x11_1 < ((List.replicate (a1 : Int).toNat 0 : List Int).length : Int)
  case neg =>
   rw [if_neg c3] at H
   have e2 : (decide (x11_1 < ((List.replicate a1.toNat (0 : Int)).length : Int))) = false := by simpa using c3
   try rw [e2]
   refine Evr.condF rfl (Evr.exit rfl (Evr.sr rfl (Opl.p1 (n := Opl.p1 (n := Opl.nil ?_)))))
   obtain rfl := sinj H
   refine Evr.ret1 Try.func185 rfl ?_
   show Vec _ _ pv2 _
   exact h2
  rw [if_pos c3] at H
  have e1 : (decide (x11_1 < ((List.replicate a1.toNat (0 : Int)).length : Int))) = true := by simpa using c3
  try rw [e1]
  refine Evr.condT rfl (Evr.skip (Evr.seq (Evr.block (Evr.sr rfl (Opl.p1 (n := Opl.p1 (n := Opl.nil (Evr.regionN rfl (Opl.p1 (n := Opl.p1 (n := Opl.p1 (n := Opl.p1 (n := Opl.subi (k := .i64) (a := a1) (b := 1) K3 rfl rfl rfl rfl (Opl.one (v := .lit (.int .i64 x11_1)) rfl rfl rfl (Opl.subi (k := .i64) (a := (wrap64 (a1 - 1))) (b := x11_1) K3 rfl rfl rfl rfl ?_)))))))))))))))
  obtain ⟨c4, H⟩ := peel H
  obtain ⟨c5, H⟩ := peel H
  obtain ⟨c6, H⟩ := peel H
  refine Opl.one (v := .lit (.int .i64 (shr .i64 a0 (wrap64 ((wrap64 (a1 - 1)) - x11_1))))) rfl rfl (by simp only [go_sem]; rw [if_neg (by omega), fdiv_pow]; simp only [shr, w64, IntKind.bits]; rfl) (Opl.one (v := .lit (.int .i64 (Go.bits .and .i64 (shr .i64 a0 (wrap64 ((wrap64 (a1 - 1)) - x11_1))) 1))) rfl rfl (by simp only [go_sem]; simp only [Go.bits, w64]; rfl) (Opl.idv (M := (cInt .i64)) (xs := x5_1) (j := x11_1) (v := pv2) h2 rfl rfl (by omega) (by omega) K27 Z3 rfl rfl ?_))
  rintro d1 z1 q1 h3 h4
  refine Opl.stv (M := (cInt .i64)) (xs := x5_1) (j := x11_1) (y := (Go.bits .and .i64 (shr .i64 a0 (wrap64 ((wrap64 (a1 - 1)) - x11_1))) 1)) (vs := [.lit (.int .i64 (Go.bits .and .i64 (shr .i64 a0 (wrap64 ((wrap64 (a1 - 1)) - x11_1))) 1))]) h3 h4 (by omega) (by omega) rfl rfl (by exact rfl) Z3 rfl rfl rfl rfl ?_
  rw [← q1]
  rintro S h5 u2
  refine Opl.nil (Evr.inBlock (Evr.regionN rfl (Opl.add (k := .i64) (a := x11_1) (b := 1) K3 rfl rfl rfl rfl (Opl.one (v := .lit (.int .i64 (wrap64 (x11_1 + 1)))) rfl rfl rfl (Opl.nil ?_)))))
  exact ih1 _ (by omega) _ _ ⟨by omega, _, _, _, H, ⟨rfl, rfl, rfl, rfl, rfl, trivial⟩, h5⟩
theorem impl_stateBits.ev {k : Nat} {l0_0 : List IVar} {v0_0 : PV} (hv0_0 : Sl cIVar l0_0 v0_0) {l0_1 : List IRule} {v0_1 : PV} (hv0_1 : Sl cIRule l0_1 v0_1) {l1 : List Int} {v1 : PV} (hv1 : Sl (cInt .i64) l1 v1) {r : (List Int)} (H : impl_stateBits.f k l0_0 l0_1 l1 = some r) : Ret Try.prog 140 [.agg [v0_0, v0_1], v1] fun v S => Vec (cInt .i64) r v S := by
 unfold impl_stateBits.f at H
 refine Ret.intro Try.func140 rfl (Nat.le_of_ble_eq_true rfl) rfl ?_
 rw [tm2]
 refine Evr.sr rfl (Opl.box (cs := [v0_0, v0_1]) rfl rfl rfl rfl ?_)
 rintro i1 S h1 u1 w1
 refine Opl.p1 (n := Opl.nil (Evr.sr rfl (Opl.p1 (n := Opl.nil (Evr.seq (Evr.sr rfl (Opl.ldb (v := .agg [v0_0, v0_1]) h1 rfl T26 rfl rfl rfl rfl ?_)))))))
 obtain ⟨t554, h_t554, H⟩ := obs H
 refine Opl.call ((impl_bitsOf.ev hv0_0 hv0_1 h_t554).mono fun _ _ h => Out.vec h) rfl rfl rfl rfl ⟨(.aggL ⟨hv0_0.plain, hv0_1.plain, trivial⟩), trivial⟩ (by decide) ?_
 rintro pv1 h2
 refine Opl.len (xs := t554) (by exact h2) K27 rfl rfl rfl rfl (Opl.p1 (n := Opl.nil (Evr.block ?_)))
 refine Evr.loop (Evr.rounds (n := k) (Inv := fun n tm S => n ≤ k ∧ ∃ (x5_1 : List Int) (x11_1 : Int) (i2 : Abs.Id) (pv2 : PV), impl_stateBits.l0 n l1 x5_1 t554 (t554.length : Int) x11_1 l0_0 l0_1 = some r ∧ Has tm [(1, v1), (2, .ptr i2 0), (5, pv2), (9, pv1), (10, .lit (.int .i64 (t554.length : Int))), (11, .lit (.int .i64 x11_1))] ∧ Box (.ptr i2 0) [v0_0, v0_1] S ∧ Vec (cInt .i64) x5_1 pv2 S ∧ Ap (.ptr i2 0) pv2) ?_ ?_ ?_)
 · exact ⟨Nat.le_refl _, _, _, _, _, H, ⟨rfl, rfl, rfl, rfl, rfl, rfl, trivial⟩, h1, .nil, Ap.nil.symm⟩
 ·
  rintro tm S ⟨_, _, _, _, _, H, -⟩
  simp [impl_stateBits.l0] at H
 ·
  rintro n1 ih1 tm S ⟨hle, x5_1, x11_1, i2, pv2, H, hh, h3, h4, ap1⟩
  simp only [impl_stateBits.l0] at H
  rw [hh.eq]
  refine Evr.sr rfl (Opl.p1 (n := Opl.nil (Evr.seq ?_)))
  by_cases c1 : x11_1 < (t554.length : Int)
  case neg =>
   rw [if_neg c1] at H
   have e2 : (decide (x11_1 < (t554.length : Int))) = false := by simpa using c1
   try rw [e2]
   refine Evr.condF rfl (Evr.exit rfl (Evr.sr rfl (Opl.p1 (n := ?_))))
   obtain ⟨t566, h_t566, H⟩ := obs H
   obtain ⟨pv5, h11, -, h12⟩ := Out.vec h4
   refine Opl.callav (sInt .i64) (impl_clone_int.ev h12 h_t566) rfl rfl rfl (.cons h11 .nil) ⟨h12.plain, trivial⟩ rfl ?_
   rintro pv6 S h13 u3 w3
   have ap3 := w3.box h3
   have h14 := u3.box h3 ap3
   have ap4 := w3.vec h4
   have h15 := u3.vec h4 ap4
   refine Opl.p1 (n := Opl.nil ?_)
   obtain rfl := sinj H
   refine Evr.ret1 Try.func140 rfl ?_
   show Vec _ _ pv6 _
   exact h13
  rw [if_pos c1] at H
  have e1 : (decide (x11_1 < (t554.length : Int))) = true := by simpa using c1
  try rw [e1]
  refine Evr.condT rfl (Evr.skip (Evr.seq (Evr.block (Evr.sr rfl (Opl.p1 (n := ?_))))))
  obtain ⟨c2, H⟩ := peel H
  obtain ⟨c3, H⟩ := peel H
  obtain ⟨c4, H⟩ := peel H
  obtain ⟨c5, H⟩ := peel H
  refine Opl.idx (M := (cInt .i64)) (xs := t554) (j := x11_1) (0 : Int) (by exact h2) rfl (by omega) (by omega) K27 Z3 rfl rfl ?_
  rintro p1 q1 h5
  obtain rfl : p1 = [.lit (.int .i64 (rd t554 x11_1))] := h5
  refine Opl.lda (.lit (.int .i64 (rd t554 x11_1))) rfl T3 rfl rfl rfl rfl (Opl.p1 (n := Opl.p1 (n := Opl.nil (Evr.regionD rfl (by kernel_rfl) (Opl.p1 (n := Opl.p1 (n := Opl.p1 (n := Opl.idx (M := (cInt .i64)) (xs := l1) (j := x11_1) (0 : Int) (by exact hv1) rfl (by omega) (by omega) K27 Z3 rfl rfl ?_))))))))
  rintro p2 q2 h6
  obtain rfl : p2 = [.lit (.int .i64 (rd l1 x11_1))] := h6
  refine Opl.lda (.lit (.int .i64 (rd l1 x11_1))) rfl T3 rfl rfl rfl rfl (Opl.p1 (v := .ptr i2 0) (n := Opl.ldb (v := v0_0) h3 rfl T23 rfl rfl rfl rfl (Opl.p1 (n := Opl.idx (M := cIVar) (xs := l0_0) (j := x11_1) zIVar (by exact hv0_0) rfl (by omega) (by omega) K23 Z101 rfl rfl ?_))))
  rintro p3 q3 h7
  obtain rfl := cIVar_R (x := (rd_IVar l0_0 x11_1)) h7
  refine Opl.p1 (v := .fel ((.lit (.int .i64 ((rd_IVar l0_0 x11_1).f0))) :: (.lit (.int .i64 ((rd_IVar l0_0 x11_1).f1))) :: (.lit (.int .i64 ((rd_IVar l0_0 x11_1).f2))) :: q3)) (n := Opl.lda (.lit (.int .i64 ((rd_IVar l0_0 x11_1).f0))) rfl T3 rfl rfl rfl rfl (Opl.subi (k := .i64) (a := (rd l1 x11_1)) (b := ((rd_IVar l0_0 x11_1).f0)) K3 rfl rfl rfl rfl (Opl.one (v := .lit (.int .i64 (rd t554 x11_1))) rfl rfl rfl ?_)))
  obtain ⟨t560, h_t560, H⟩ := obs H
  refine Opl.call ((impl_valueBits.ev h_t560).mono fun _ _ h => Out.vec h) rfl rfl rfl rfl ⟨(.lit _), (.lit _), trivial⟩ (by decide) ?_
  rintro pv3 h8
  obtain ⟨c6, H⟩ := peel H
  refine Opl.app (M := (cInt .i64)) (xs := x5_1) (ys := t560) (v := pv2) h4 (.sl h8) (oInt .i64) rfl rfl K27 T3 rfl rfl (by (try simp only [List.length_cons, List.length_nil]); omega) (by show (_ + _) * 8 ≤ 140737488355328; (try simp only [List.length_cons, List.length_nil]); omega) rfl rfl rfl rfl rfl ?_
  rintro pv4 S h9 u2 w2
  have ap2 := w2.box h3
  have h10 := u2.box h3 ap1
  refine Opl.one (v := pv4) rfl rfl rfl (Opl.nil (Evr.inBlock (Evr.regionN rfl (Opl.add (k := .i64) (a := x11_1) (b := 1) K3 rfl rfl rfl rfl (Opl.one (v := .lit (.int .i64 (wrap64 (x11_1 + 1)))) rfl rfl rfl (Opl.nil ?_))))))
  exact ih1 _ (by omega) _ _ ⟨by omega, _, _, _, _, H, ⟨rfl, rfl, rfl, rfl, rfl, rfl, trivial⟩, h10, h9, ap2⟩
theorem impl_cubeStates.ev {k : Nat} {l0_0 : List IVar} {v0_0 : PV} (hv0_0 : Sl cIVar l0_0 v0_0) {l0_1 : List IRule} {v0_1 : PV} (hv0_1 : Sl cIRule l0_1 v0_1) {l1 : List Int} {v1 : PV} (hv1 : Sl (cInt .i64) l1 v1) {r : (List Int)} (H : impl_cubeStates.f k l0_0 l0_1 l1 = some r) : Ret Try.prog 68 [.agg [v0_0, v0_1], v1] fun v S => Vec (cInt .i64) r v S := by
 unfold impl_cubeStates.f at H
 refine Ret.intro Try.func68 rfl (Nat.le_of_ble_eq_true rfl) rfl ?_
 rw [tm2]
 refine Evr.sr rfl (Opl.box (cs := [v0_0, v0_1]) rfl rfl rfl rfl ?_)
 rintro i1 S h1 u1 w1
 refine Opl.p1 (n := Opl.nil (Evr.sr rfl (Opl.p1 (v := .ptr i1 0) (n := Opl.ldb (v := v0_0) h1 rfl T23 rfl rfl rfl rfl ?_))))
 obtain ⟨t837, h_t837, H⟩ := obs H
 refine Opl.callc (impl_size.ev hv0_0 h_t837) rfl rfl rfl rfl ⟨hv0_0.plain, trivial⟩ (by decide) ?_
 obtain ⟨c1, H⟩ := peel H
 obtain ⟨c2, H⟩ := peel H
 obtain ⟨y838, hy_, H⟩ := obs H
 obtain rfl := Option.some.inj hy_
 refine Opl.make (M := cBool) (m := t837) false (by exact rfl) rfl rfl K91 T4 rfl (by omega) (by show (t837).toNat * 1 ≤ 281474976710656; omega) (by omega) rfl rfl rfl ?_
 rintro pv1 S h2 u2 w2
 have ap1 := w2.box h1
 have h3 := u2.box h1 ap1
 refine Opl.p1 (n := Opl.nil (Evr.seq (Evr.sr rfl (Opl.p1 (n := Opl.lenv (xs := (List.replicate t837.toNat false)) (by exact h2) K91 rfl rfl rfl rfl (Opl.p1 (n := Opl.nil (Evr.block ?_))))))))
 refine Evr.loop (Evr.rounds (n := k) (Inv := fun n tm S => n ≤ k ∧ ∃ (x5_1 : List Bool) (x13_1 : Int) (i2 : Abs.Id) (pv2 : PV), impl_cubeStates.l0 n l1 x5_1 ((List.replicate (t837 : Int).toNat false : List Bool).length : Int) x13_1 l0_0 l0_1 = some r ∧ Has tm [(1, v1), (2, .ptr i2 0), (5, pv2), (12, .lit (.int .i64 ((List.replicate t837.toNat false).length : Int))), (13, .lit (.int .i64 x13_1))] ∧ Box (.ptr i2 0) [v0_0, v0_1] S ∧ Vec cBool x5_1 pv2 S ∧ Ap (.ptr i2 0) pv2) ?_ ?_ ?_)
 · exact ⟨Nat.le_refl _, _, _, _, _, H, ⟨rfl, rfl, rfl, rfl, rfl, trivial⟩, h3, h2, ap1⟩
 ·
  rintro tm S ⟨_, _, _, _, _, H, -⟩
  simp [impl_cubeStates.l0] at H
 ·
  rintro n1 ih1 tm S ⟨hle, x5_1, x13_1, i2, pv2, H, hh, h4, h5, ap2⟩
  simp only [impl_cubeStates.l0] at H
  rw [hh.eq]
  refine Evr.sr rfl (Opl.p1 (n := Opl.nil (Evr.seq ?_)))
  by_cases c3 : x13_1 < ((List.replicate (t837 : Int).toNat false : List Bool).length : Int)
  case neg =>
   rw [if_neg c3] at H
   have e2 : (decide (x13_1 < ((List.replicate t837.toNat false).length : Int))) = false := by simpa using c3
   try rw [e2]
   refine Evr.condF rfl (Evr.exit rfl (Evr.sr rfl (Opl.p1 (n := ?_))))
   obtain ⟨t849, h_t849, H⟩ := obs H
   obtain ⟨pv5, h12, -, h13⟩ := Out.vec h5
   refine Opl.callav (sInt .i64) (impl_listOf.ev h13 h_t849) rfl rfl rfl (.cons h12 .nil) ⟨h13.plain, trivial⟩ rfl ?_
   rintro pv6 S h14 u4 w3
   have ap3 := w3.box h4
   have h15 := u4.box h4 ap3
   have ap4 := w3.vec h5
   have h16 := u4.vec h5 ap4
   refine Opl.p1 (n := Opl.nil ?_)
   obtain rfl := sinj H
   refine Evr.ret1 Try.func68 rfl ?_
   show Vec _ _ pv6 _
   exact h14
  rw [if_pos c3] at H
  have e1 : (decide (x13_1 < ((List.replicate t837.toNat false).length : Int))) = true := by simpa using c3
  try rw [e1]
  refine Evr.condT rfl (Evr.skip (Evr.seq (Evr.block (Evr.sr rfl (Opl.p1 (n := Opl.p1 (n := Opl.nil (Evr.regionD rfl (by kernel_rfl) (Opl.p1 (n := Opl.p1 (n := Opl.p1 (n := Opl.ldb (v := .agg [v0_0, v0_1]) h4 rfl T26 rfl rfl rfl rfl (Opl.ldb (v := .agg [v0_0, v0_1]) h4 rfl T26 rfl rfl rfl rfl (Opl.p1 (n := ?_)))))))))))))))
  obtain ⟨t841, h_t841, H⟩ := obs H
  refine Opl.call ((impl_stateAt.ev hv0_0 hv0_1 h_t841).mono fun _ _ h => Out.vec h) rfl rfl rfl rfl ⟨(.aggL ⟨hv0_0.plain, hv0_1.plain, trivial⟩), (.lit _), trivial⟩ (by decide) ?_
  rintro pv3 h6
  obtain ⟨t844, h_t844, H⟩ := obs H
  refine Opl.call ((impl_stateBits.ev hv0_0 hv0_1 h6 h_t844).mono fun _ _ h => Out.vec h) rfl rfl rfl rfl ⟨(.aggL ⟨hv0_0.plain, hv0_1.plain, trivial⟩), h6.plain, trivial⟩ (by decide) ?_
  rintro pv4 h7
  obtain ⟨t847, h_t847, H⟩ := obs H
  refine Opl.callc (impl_cubeHas.ev hv1 h7 h_t847) rfl rfl rfl rfl ⟨hv1.plain, h7.plain, trivial⟩ (by decide) ?_
  obtain ⟨c4, H⟩ := peel H
  obtain ⟨c5, H⟩ := peel H
  refine Opl.idv (M := cBool) (xs := x5_1) (j := x13_1) (v := pv2) h5 rfl rfl (by omega) (by omega) K91 Z4 rfl rfl ?_
  rintro d1 z1 q1 h8 h9
  refine Opl.stv (M := cBool) (xs := x5_1) (j := x13_1) (y := t847) (vs := [.lit (.bool t847)]) h8 h9 (by omega) (by omega) rfl rfl (by exact rfl) Z4 rfl rfl rfl rfl ?_
  rw [← q1]
  rintro S h10 u3
  have h11 := u3.box h4 ap2
  refine Opl.nil (Evr.inBlock (Evr.regionN rfl (Opl.add (k := .i64) (a := x13_1) (b := 1) K3 rfl rfl rfl rfl (Opl.one (v := .lit (.int .i64 (wrap64 (x13_1 + 1)))) rfl rfl rfl (Opl.nil ?_)))))
  exact ih1 _ (by omega) _ _ ⟨by omega, _, _, _, _, H, ⟨rfl, rfl, rfl, rfl, rfl, trivial⟩, h11, h10, ap2⟩
theorem impl_clone_Lint.ev {l0 : List (List Int)} {v0 : PV} (hv0 : Sl (cSl (cInt .i64)) l0 v0) {r : List (List Int)} (H : impl_clone_Lint.f l0 = some r) : Ret Try.prog 83 [v0] fun v S => Vec (cSl (cInt .i64)) r v S := by
 unfold impl_clone_Lint.f at H
 refine Ret.intro Try.func83 rfl (Nat.le_of_ble_eq_true rfl) rfl ?_
 rw [tm1]
 obtain ⟨c1, H⟩ := peel H
 obtain rfl := sinj H
 refine Evr.seq (Evr.regionN rfl (Opl.p1 (n := Opl.nil (Evr.seq (Evr.seq (Evr.regionN rfl (Opl.p1 (n := Opl.len (by exact hv0) K30 rfl rfl rfl rfl (Opl.p1 (n := Opl.nil ?_))))))))))
 by_cases c2 : (l0.length : Int) = 0
 · have e1 : ((l0.length : Int) == 0) = true := by simpa using c2
   try rw [e1]
   refine Evr.condT rfl (Evr.seq (Evr.regionN rfl (Opl.p1 (n := Opl.nil ?_))))
   obtain rfl : l0 = [] := List.eq_nil_of_length_eq_zero (by omega)
   refine Evr.ret1 Try.func83 rfl ?_
   exact .nil
 · have e1 : ((l0.length : Int) == 0) = false := by simpa using c2
   try rw [e1]
   refine Evr.condF rfl (Evr.skip (Evr.seq (Evr.regionN rfl (Opl.p1 (n := Opl.len (by exact hv0) K30 rfl rfl rfl rfl ?_)))))
   refine Opl.make (M := (cSl (cInt .i64))) (m := (l0.length : Int)) ([] : List Int) (by exact ⟨_, rfl, .nil⟩) rfl rfl K30 T27 rfl (by omega) (by show (_ : Nat) * 24 ≤ 281474976710656; omega) (by omega) rfl rfl rfl ?_
   rintro pv1 S h1 u1 w1
   refine Opl.p1 (n := Opl.nil (Evr.seq (Evr.regionN rfl (Opl.p1 (n := Opl.p1 (n := ?_))))))
   refine Opl.copy (M := (cSl (cInt .i64))) (ys := l0) h1 (by exact hv0) (oSl (cInt .i64)) rfl (by simp) (by simp; omega) K30 Z27 rfl rfl rfl rfl rfl ?_
   rintro S h2 u2
   refine Opl.nil (Evr.seq (Evr.regionN rfl (Opl.p1 (n := Opl.p1 (n := Opl.nil ?_)))))
   refine Evr.ret1 Try.func83 rfl ?_
   exact h2
theorem impl_allBits.ev {k : Nat} {l0_0 : List IVar} {v0_0 : PV} (hv0_0 : Sl cIVar l0_0 v0_0) {l0_1 : List IRule} {v0_1 : PV} (hv0_1 : Sl cIRule l0_1 v0_1) {l1 : List Int} {v1 : PV} (hv1 : Sl (cInt .i64) l1 v1) {r : (List (List Int))} (H : impl_allBits.f k l0_0 l0_1 l1 = some r) : Ret Try.prog 128 [.agg [v0_0, v0_1], v1] fun v S => Vec (cSl (cInt .i64)) r v S := by
 unfold impl_allBits.f at H
 refine Ret.intro Try.func128 rfl (Nat.le_of_ble_eq_true rfl) rfl ?_
 rw [tm2]
 refine Evr.sr rfl (Opl.box (cs := [v0_0, v0_1]) rfl rfl rfl rfl ?_)
 rintro i1 S h1 u1 w1
 refine Opl.p1 (n := Opl.nil (Evr.sr rfl (Opl.p1 (n := Opl.nil (Evr.seq (Evr.sr rfl (Opl.p1 (n := Opl.len (xs := l1) (by exact hv1) K27 rfl rfl rfl rfl (Opl.p1 (n := Opl.nil (Evr.block ?_)))))))))))
 refine Evr.loop (Evr.rounds (n := k) (Inv := fun n tm S => n ≤ k ∧ ∃ (x5_1 : List (List Int)) (x10_1 : Int) (i2 : Abs.Id) (pv1 : PV), impl_allBits.l0 n x5_1 l1 (l1.length : Int) x10_1 l0_0 l0_1 = some r ∧ Has tm [(2, .ptr i2 0), (5, pv1), (8, v1), (9, .lit (.int .i64 (l1.length : Int))), (10, .lit (.int .i64 x10_1))] ∧ Box (.ptr i2 0) [v0_0, v0_1] S ∧ Vec (cSl (cInt .i64)) x5_1 pv1 S ∧ Ap (.ptr i2 0) pv1) ?_ ?_ ?_)
 · exact ⟨Nat.le_refl _, _, _, _, _, H, ⟨rfl, rfl, rfl, rfl, rfl, trivial⟩, h1, .nil, Ap.nil.symm⟩
 ·
  rintro tm S ⟨_, _, _, _, _, H, -⟩
  simp [impl_allBits.l0] at H
 ·
  rintro n1 ih1 tm S ⟨hle, x5_1, x10_1, i2, pv1, H, hh, h2, h3, ap1⟩
  simp only [impl_allBits.l0] at H
  rw [hh.eq]
  refine Evr.sr rfl (Opl.p1 (n := Opl.nil (Evr.seq ?_)))
  by_cases c1 : x10_1 < (l1.length : Int)
  case neg =>
   rw [if_neg c1] at H
   have e2 : (decide (x10_1 < (l1.length : Int))) = false := by simpa using c1
   try rw [e2]
   refine Evr.condF rfl (Evr.exit rfl (Evr.seq (Evr.frz 5 h3 rfl ?_)))
   rintro pv6 S h13 u4
   have h14 := u4.box h2 ap1
   refine Evr.regionN rfl (Opl.p1 (n := ?_))
   obtain ⟨t587, h_t587, H⟩ := obs H
   refine Opl.calla (impl_clone_Lint.ev h13 h_t587) rfl rfl rfl rfl ⟨h13.plain, trivial⟩ rfl ?_
   rintro pv7 S h15 u5 w4
   have ap6 := w4.box h14
   have h16 := u5.box h14 ap6
   refine Opl.p1 (n := Opl.nil ?_)
   obtain rfl := sinj H
   refine Evr.ret1 Try.func128 rfl ?_
   show Vec _ _ pv7 _
   exact h15
  rw [if_pos c1] at H
  have e1 : (decide (x10_1 < (l1.length : Int))) = true := by simpa using c1
  try rw [e1]
  refine Evr.condT rfl (Evr.skip (Evr.seq (Evr.block (Evr.sr rfl ?_))))
  obtain ⟨c2, H⟩ := peel H
  obtain ⟨c3, H⟩ := peel H
  refine Opl.idx (M := (cInt .i64)) (xs := l1) (j := x10_1) (0 : Int) (by exact hv1) rfl (by omega) (by omega) K27 Z3 rfl rfl ?_
  rintro p1 q1 h4
  obtain rfl : p1 = [.lit (.int .i64 (rd l1 x10_1))] := h4
  refine Opl.lda (.lit (.int .i64 (rd l1 x10_1))) rfl T3 rfl rfl rfl rfl (Opl.p1 (n := Opl.nil (Evr.regionD rfl (by kernel_rfl) (Opl.p1 (n := Opl.ldb (v := .agg [v0_0, v0_1]) h2 rfl T26 rfl rfl rfl rfl (Opl.ldb (v := .agg [v0_0, v0_1]) h2 rfl T26 rfl rfl rfl rfl (Opl.p1 (n := ?_))))))))
  obtain ⟨t578, h_t578, H⟩ := obs H
  refine Opl.call ((impl_stateAt.ev hv0_0 hv0_1 h_t578).mono fun _ _ h => Out.vec h) rfl rfl rfl rfl ⟨(.aggL ⟨hv0_0.plain, hv0_1.plain, trivial⟩), (.lit _), trivial⟩ (by decide) ?_
  rintro pv2 h5
  obtain ⟨t581, h_t581, H⟩ := obs H
  refine Opl.call ((impl_stateBits.ev hv0_0 hv0_1 h5 h_t581).mono fun _ _ h => Out.vec h) rfl rfl rfl rfl ⟨(.aggL ⟨hv0_0.plain, hv0_1.plain, trivial⟩), h5.plain, trivial⟩ (by decide) ?_
  rintro pv3 h6
  refine Opl.lits (M := (cSl (cInt .i64))) (ys := [t581]) [.tmp 19] K30 T27 rfl rfl rfl (by exact ⟨⟨_, by first | rfl | exact h6.cells, h6⟩, trivial⟩) rfl (by decide) rfl rfl rfl ?_
  rintro pv4 S h7 u2 w2
  have ap2 := w2.box h2
  have h8 := u2.box h2 ap2
  have ap3 := w2.vec h3
  have h9 := u2.vec h3 ap3
  obtain ⟨c4, H⟩ := peel H
  refine Opl.app (M := (cSl (cInt .i64))) (xs := x5_1) (ys := [t581]) (v := pv1) h9 (.vec h7) (oSl (cInt .i64)) rfl rfl K30 T27 rfl rfl (by (try simp only [List.length_cons, List.length_nil]); omega) (by show (_ + _) * 24 ≤ 140737488355328; (try simp only [List.length_cons, List.length_nil]); omega) rfl rfl rfl rfl rfl ?_
  rintro pv5 S h10 u3 w3
  have ap4 := w3.box h8
  have h11 := u3.box h8 ap1
  have ap5 := w3.vec h7
  have h12 := u3.vec h7 ap3.symm
  refine Opl.p1 (n := Opl.nil (Evr.inBlock (Evr.regionN rfl (Opl.add (k := .i64) (a := x10_1) (b := 1) K3 rfl rfl rfl rfl (Opl.one (v := .lit (.int .i64 (wrap64 (x10_1 + 1)))) rfl rfl rfl (Opl.nil ?_))))))
  exact ih1 _ (by omega) _ _ ⟨by omega, _, _, _, _, H, ⟨rfl, rfl, rfl, rfl, rfl, trivial⟩, h11, h10, ap4⟩
theorem impl_hasNone.ev {k : Nat} {l0 : List (List Int)} {v0 : PV} (hv0 : Sl (cSl (cInt .i64)) l0 v0) {r : (List (List Int))} (H : impl_hasNone.f k l0 = some r) : Ret Try.prog 127 [v0] fun v S => Out (fun q => ∃ q1, q = .fn 178 [.fel [q1]] ∧ Sl (cSl (cInt .i64)) r q1) v S := by
 unfold impl_hasNone.f at H
 refine Ret.intro Try.func127 rfl (Nat.le_of_ble_eq_true rfl) rfl ?_
 rw [tm1]
 refine Evr.sr rfl (Opl.box (cs := [v0]) (by exact hv0.cells) rfl rfl rfl ?_)
 rintro i1 S h1 u1 w1
 refine Opl.p1 (n := Opl.nil (Evr.sr rfl (Opl.p1 (n := Opl.p1 (n := Opl.nil ?_)))))
 obtain rfl := sinj H
 refine Evr.ret1 Try.func127 rfl ?_
 show Out _ (.fn 178 [.ptr i1 0]) _
 exact (.fn1 h1 (.sl hv0))
theorem impl_hasNone_1_1.ev {k : Nat} {l0 : List Int} {v0 : PV} (hv0 : Sl (cInt .i64) l0 v0) {l1 : List Int} {v1 : PV} (hv1 : Sl (cInt .i64) l1 v1) {r : Bool} (H : impl_hasNone_1_1.f k l0 l1 = some r) : Ret Try.prog 179 [v0, .fel (v1 :: [])] fun v S => v = .lit (.bool r) := by
 unfold impl_hasNone_1_1.f at H
 refine Ret.intro Try.func179 rfl (Nat.le_of_ble_eq_true rfl) rfl ?_
 rw [tm2]
 refine Evr.sr rfl (Opl.p1 (n := Opl.nil (Evr.sr rfl (Opl.lda (v1) rfl T27 rfl rfl rfl rfl (Opl.p1 (n := ?_))))))
 obtain ⟨r1, h_r1, H⟩ := obs H
 refine Opl.callc (impl_cubeHas.ev hv1 hv0 h_r1) rfl rfl rfl rfl ⟨hv1.plain, hv0.plain, trivial⟩ (by decide) (Opl.p1 (n := Opl.nil ?_))
 obtain rfl := sinj H
 refine Evr.ret1 Try.func179 rfl ?_
 show (.lit (.bool r1) : PV) = _
 first | rfl | (simp only [go_sem]; rfl)
theorem slices_IndexFunc_int_int_at_impl_hasNone_1_1.ev {k : Nat} {l0 : List (List Int)} {v0 : PV} (hv0 : Sl (cSl (cInt .i64)) l0 v0) {l2 : List Int} {v2 : PV} (hv2 : Sl (cInt .i64) l2 v2) {r : Int} (H : slices_IndexFunc_int_int_at_impl_hasNone_1_1.f k l0 l2 = some r) : Ret Try.prog 180 [v0, .fn 179 [.fel (v2 :: [])]] fun v S => v = .lit (.int .i64 r) := by
 unfold slices_IndexFunc_int_int_at_impl_hasNone_1_1.f at H
 refine Ret.intro Try.func180 rfl (Nat.le_of_ble_eq_true rfl) rfl ?_
 rw [tm2]
 refine Evr.sr rfl (Opl.p1 (n := Opl.nil (Evr.seq (Evr.sr rfl (Opl.p1 (n := Opl.len (xs := l0) (by exact hv0) K30 rfl rfl rfl rfl (Opl.p1 (n := Opl.nil (Evr.block ?_)))))))))
 refine Evr.loop (Evr.rounds (n := k) (Inv := fun n tm S => n ≤ k ∧ ∃ (x8_1 : Int), slices_IndexFunc_int_int_at_impl_hasNone_1_1.l1 n x8_1 l0 l2 = some r ∧ Has tm [(0, v0), (1, .fn 179 [.fel (v2 :: [])]), (7, .lit (.int .i64 (l0.length : Int))), (8, .lit (.int .i64 x8_1))]) ?_ ?_ ?_)
 · exact ⟨Nat.le_refl _, _, H, ⟨rfl, rfl, rfl, rfl, trivial⟩⟩
 ·
  rintro tm S ⟨_, _, H, -⟩
  simp [slices_IndexFunc_int_int_at_impl_hasNone_1_1.l1] at H
 ·
  rintro n1 ih1 tm S ⟨hle, x8_1, H, hh⟩
  simp only [slices_IndexFunc_int_int_at_impl_hasNone_1_1.l1] at H
  rw [hh.eq]
  refine Evr.sr rfl (Opl.p1 (n := Opl.nil (Evr.seq ?_)))
  by_cases c1 : x8_1 < (l0.length : Int)
  case neg =>
   rw [if_neg c1] at H
   have e2 : (decide (x8_1 < (l0.length : Int))) = false := by simpa using c1
   try rw [e2]
   refine Evr.condF rfl (Evr.exit rfl (Evr.sr rfl (Opl.p1 (n := Opl.nil ?_))))
   obtain rfl := sinj H
   refine Evr.ret1 Try.func180 rfl ?_
   show (.lit (.int .i64 (-1)) : PV) = _
   first | rfl | (simp only [go_sem]; rfl)
  rw [if_pos c1] at H
  have e1 : (decide (x8_1 < (l0.length : Int))) = true := by simpa using c1
  try rw [e1]
  refine Evr.condT rfl (Evr.skip (Evr.seq (Evr.block (Evr.sr rfl (Opl.p1 (n := Opl.p1 (n := Opl.nil (Evr.sr rfl (Opl.p1 (n := Opl.p1 (n := Opl.p1 (n := ?_))))))))))))
  obtain ⟨c2, H⟩ := peel H
  obtain ⟨c3, H⟩ := peel H
  refine Opl.idx (M := (cSl (cInt .i64))) (xs := l0) (j := x8_1) ([] : List Int) (by exact hv0) rfl (by omega) (by omega) K30 Z27 rfl rfl ?_
  rintro p1 q1 h1
  obtain ⟨pv1, rfl, h2⟩ := h1
  refine Opl.lda (pv1) rfl T27 rfl rfl rfl rfl ?_
  obtain ⟨r1, h_r1, H⟩ := obs H
  refine Opl.callc (impl_hasNone_1_1.ev h2 hv2 h_r1) rfl rfl rfl rfl ⟨h2.plain, (.felL ⟨hv2.plain, trivial⟩), trivial⟩ (by decide) (Opl.nil ?_)
  by_cases c4 : r1 = true
  case pos =>
   rw [if_pos c4] at H
   obtain rfl : r1 = true := by simpa using c4
   refine Evr.condT rfl (Evr.sr rfl (Opl.p1 (n := Opl.p1 (n := Opl.nil ?_))))
   obtain rfl := sinj H
   refine Evr.ret1 Try.func180 rfl ?_
   show (.lit (.int .i64 x8_1) : PV) = _
   first | rfl | (simp only [go_sem]; rfl)
  rw [if_neg c4] at H
  obtain rfl : r1 = false := by simpa using c4
  refine Evr.condF rfl (Evr.skip (Evr.inBlock (Evr.regionN rfl (Opl.add (k := .i64) (a := x8_1) (b := 1) K3 rfl rfl rfl rfl (Opl.one (v := .lit (.int .i64 (wrap64 (x8_1 + 1)))) rfl rfl rfl (Opl.nil ?_))))))
  exact ih1 _ (by omega) _ _ ⟨by omega, _, H, ⟨rfl, rfl, rfl, rfl, trivial⟩⟩
theorem slices_ContainsFunc_int_int_at_impl_hasNone_1_1.ev {k : Nat} {l0 : List (List Int)} {v0 : PV} (hv0 : Sl (cSl (cInt .i64)) l0 v0) {l2 : List Int} {v2 : PV} (hv2 : Sl (cInt .i64) l2 v2) {r : Bool} (H : slices_ContainsFunc_int_int_at_impl_hasNone_1_1.f k l0 l2 = some r) : Ret Try.prog 129 [v0, .fn 179 [.fel (v2 :: [])]] fun v S => v = .lit (.bool r) := by
 unfold slices_ContainsFunc_int_int_at_impl_hasNone_1_1.f at H
 refine Ret.intro Try.func129 rfl (Nat.le_of_ble_eq_true rfl) rfl ?_
 rw [tm2]
 refine Evr.sr rfl (Opl.p1 (n := Opl.nil (Evr.sr rfl (Opl.p1 (n := Opl.p1 (n := ?_))))))
 obtain ⟨r1, h_r1, H⟩ := obs H
 refine Opl.callc (slices_IndexFunc_int_int_at_impl_hasNone_1_1.ev hv0 hv2 h_r1) rfl rfl rfl rfl ⟨hv0.plain, (.fnL ⟨(.felL ⟨hv2.plain, trivial⟩), trivial⟩), trivial⟩ (by decide) (Opl.p1 (n := Opl.p1 (n := Opl.nil ?_)))
 obtain rfl := sinj H
 refine Evr.ret1 Try.func129 rfl ?_
 show (.lit (.bool (decide (r1 ≥ 0))) : PV) = _
 first | rfl | (simp only [go_sem]; rfl)
theorem impl_hasNone_1.ev {k : Nat} {l0 : List Int} {v0 : PV} (hv0 : Sl (cInt .i64) l0 v0) {l1 : List (List Int)} {v1 : PV} (hv1 : Sl (cSl (cInt .i64)) l1 v1) {r : Bool} (H : impl_hasNone_1.f k l0 l1 = some r) : Ret Try.prog 178 [v0, .fel (v1 :: [])] fun v S => v = .lit (.bool r) := by
 unfold impl_hasNone_1.f at H
 refine Ret.intro Try.func178 rfl (Nat.le_of_ble_eq_true rfl) rfl ?_
 rw [tm2]
 refine Evr.sr rfl (Opl.box (cs := [v0]) (by exact hv0.cells) rfl rfl rfl ?_)
 rintro i1 S h1 u1 w1
 refine Opl.p1 (n := Opl.nil (Evr.sr rfl (Opl.lda (v1) rfl T30 rfl rfl rfl rfl (Opl.p1 (n := ?_)))))
 obtain ⟨r1, h_r1, H⟩ := obs H
 refine Opl.callw (slices_ContainsFunc_int_int_at_impl_hasNone_1_1.ev hv1 hv0 h_r1) rfl rfl rfl (.cons (.refl _) (.cons (View.fnV (.cons (View.boxV h1 (.cons (.refl _) .nil)) .nil)) .nil)) ⟨hv1.plain, (.fnL ⟨(.felL ⟨hv0.plain, trivial⟩), trivial⟩), trivial⟩ (by decide) (Opl.p1 (n := Opl.p1 (n := Opl.nil ?_)))
 obtain rfl := sinj H
 refine Evr.ret1 Try.func178 rfl ?_
 show (.lit (.bool (!r1)) : PV) = _
 first | rfl | (simp only [go_sem]; rfl)
theorem impl_widened_at_impl_hasNone_1.ev {k : Nat} {l0 : List Int} {v0 : PV} (hv0 : Sl (cInt .i64) l0 v0) {l2 : List (List Int)} {v2 : PV} (hv2 : Sl (cSl (cInt .i64)) l2 v2) {r : (List Int)} (H : impl_widened_at_impl_hasNone_1.f k l0 l2 = some r) : Ret Try.prog 132 [v0, .fn 178 [.fel (v2 :: [])]] fun v S => Vec (cInt .i64) r v S := by
 unfold impl_widened_at_impl_hasNone_1.f at H
 refine Ret.intro Try.func132 rfl (Nat.le_of_ble_eq_true rfl) rfl ?_
 rw [tm2]
 refine Evr.sr rfl (Opl.p1 (n := Opl.nil (Evr.sr rfl (Opl.p1 (n := ?_)))))
 obtain ⟨r1, h_r1, H⟩ := obs H
 refine Opl.calla (impl_clone_int.ev hv0 h_r1) rfl rfl rfl rfl ⟨hv0.plain, trivial⟩ rfl ?_
 rintro pv1 S h1 u1 w1
 refine Opl.p1 (n := Opl.nil (Evr.seq (Evr.sr rfl (Opl.p1 (n := Opl.len (xs := l0) (by exact hv0) K27 rfl rfl rfl rfl (Opl.p1 (n := Opl.nil (Evr.block ?_))))))))
 refine Evr.loop (Evr.rounds (n := k) (Inv := fun n tm S => n ≤ k ∧ ∃ (x5_1 : List Int) (x12_1 : Int) (pv2 : PV), impl_widened_at_impl_hasNone_1.l1 n x5_1 x12_1 l0 l2 = some r ∧ Has tm [(1, .fn 178 [.fel (v2 :: [])]), (5, pv2), (10, v0), (11, .lit (.int .i64 (l0.length : Int))), (12, .lit (.int .i64 x12_1))] ∧ Vec (cInt .i64) x5_1 pv2 S) ?_ ?_ ?_)
 · exact ⟨Nat.le_refl _, _, _, _, H, ⟨rfl, rfl, rfl, rfl, rfl, trivial⟩, h1⟩
 ·
  rintro tm S ⟨_, _, _, _, H, -⟩
  simp [impl_widened_at_impl_hasNone_1.l1] at H
 ·
  rintro n1 ih1 tm S ⟨hle, x5_1, x12_1, pv2, H, hh, h2⟩
  simp only [impl_widened_at_impl_hasNone_1.l1] at H
  rw [hh.eq]
  refine Evr.sr rfl (Opl.p1 (n := Opl.nil (Evr.seq ?_)))
  by_cases c1 : x12_1 < (l0.length : Int)
  case neg =>
   rw [if_neg c1] at H
   have e4 : (decide (x12_1 < (l0.length : Int))) = false := by simpa using c1
   try rw [e4]
   refine Evr.condF rfl (Evr.exit rfl (Evr.sr rfl (Opl.p1 (n := Opl.p1 (n := Opl.nil ?_)))))
   obtain rfl := sinj H
   refine Evr.ret1 Try.func132 rfl ?_
   show Vec _ _ pv2 _
   exact h2
  rw [if_pos c1] at H
  have e1 : (decide (x12_1 < (l0.length : Int))) = true := by simpa using c1
  try rw [e1]
  refine Evr.condT rfl (Evr.skip (Evr.seq (Evr.block (Evr.sr rfl (Opl.p1 (n := ?_))))))
  obtain ⟨c2, H⟩ := peel H
  obtain ⟨c3, H⟩ := peel H
  obtain ⟨c4, H⟩ := peel H
  obtain ⟨c5, H⟩ := peel H
  refine Opl.idx (M := (cInt .i64)) (xs := l0) (j := x12_1) (0 : Int) (by exact hv0) rfl (by first | omega | (simp only [List.length_set] at *; omega)) (by first | omega | (simp only [List.length_set] at *; omega)) K27 Z3 rfl rfl ?_
  rintro p1 q1 h3
  obtain rfl : p1 = [.lit (.int .i64 (rd l0 x12_1))] := h3
  refine Opl.lda (.lit (.int .i64 (rd l0 x12_1))) rfl T3 rfl rfl rfl rfl (Opl.p1 (n := Opl.p1 (n := Opl.nil (Evr.sr rfl (Opl.p1 (n := Opl.p1 (n := Opl.idv (M := (cInt .i64)) (xs := x5_1) (j := x12_1) (v := pv2) h2 rfl rfl (by first | omega | (simp only [List.length_set] at *; omega)) (by first | omega | (simp only [List.length_set] at *; omega)) K27 Z3 rfl rfl ?_)))))))
  rintro d1 z1 q2 h4 h5
  refine Opl.stv (M := (cInt .i64)) (xs := x5_1) (j := x12_1) (y := 2) (vs := [.lit (.int .i64 2)]) h4 h5 (by first | omega | (simp only [List.length_set] at *; omega)) (by first | omega | (simp only [List.length_set] at *; omega)) rfl rfl (by exact rfl) Z3 rfl rfl rfl rfl ?_
  rw [← q2]
  rintro S h6 u2
  refine Opl.nil (Evr.sr rfl (Opl.p1 (n := Opl.p1 (n := ?_))))
  obtain ⟨r2, h_r2, H⟩ := obs H
  obtain ⟨pv3, h7, -, h8⟩ := Out.vec h6
  refine Opl.callw (impl_hasNone_1.ev h8 hv2 h_r2) rfl rfl rfl (.cons h7 (.cons (.refl _) .nil)) ⟨h8.plain, (.felL ⟨hv2.plain, trivial⟩), trivial⟩ (by decide) (Opl.p1 (n := Opl.nil ?_))
  refine Evr.join (fun tm S => ∃ (kq1 : Nat) (x5_2 : List Int) (pv4 : PV), impl_widened_at_impl_hasNone_1.l1 kq1 x5_2 (wrap64 (x12_1 + 1)) l0 l2 = some r ∧ kq1 ≤ n1 ∧ Has tm [(1, .fn 178 [.fel (v2 :: [])]), (5, pv4), (10, v0), (11, .lit (.int .i64 (l0.length : Int))), (12, .lit (.int .i64 x12_1))] ∧ Vec (cInt .i64) x5_2 pv4 S) ?_ fun hk1 => ?_
  ·
   rintro tm S ⟨kq1, x5_2, pv4, H, hle, hh, h9⟩
   rw [hh.eq]
   refine Evr.inBlock (Evr.regionN rfl (Opl.add (k := .i64) (a := x12_1) (b := 1) K3 rfl rfl rfl rfl (Opl.one (v := .lit (.int .i64 (wrap64 (x12_1 + 1)))) rfl rfl rfl (Opl.nil ?_))))
   exact ih1 _ (by omega) _ _ ⟨by omega, _, _, _, H, ⟨rfl, rfl, rfl, rfl, rfl, trivial⟩, h9⟩
  ·
   by_cases c6 : r2 = true
   case pos =>
    rw [if_pos c6] at H
    have e2 : (!r2) = false := by simpa using c6
    try rw [e2]
    refine Evr.condF rfl (Evr.skip ?_)
    exact hk1 _ _ ⟨_, _, _, H, by omega, ⟨rfl, rfl, rfl, rfl, rfl, trivial⟩, h6⟩
   rw [if_neg c6] at H
   have e3 : (!r2) = true := by simpa using c6
   try rw [e3]
   refine Evr.condT rfl (Evr.regionN rfl (Opl.p1 (n := Opl.p1 (n := Opl.p1 (n := ?_)))))
   obtain ⟨c7, H⟩ := peel H
   obtain ⟨c8, H⟩ := peel H
   refine Opl.idv (M := (cInt .i64)) (xs := (x5_1.set x12_1.toNat 2)) (j := x12_1) (v := pv2) h6 rfl rfl (by first | omega | (simp only [List.length_set] at *; omega)) (by first | omega | (simp only [List.length_set] at *; omega)) K27 Z3 rfl rfl ?_
   rintro d2 z2 q3 h10 h11
   refine Opl.stv (M := (cInt .i64)) (xs := (x5_1.set x12_1.toNat 2)) (j := x12_1) (y := (rd l0 x12_1)) (vs := [.lit (.int .i64 (rd l0 x12_1))]) h10 h11 (by first | omega | (simp only [List.length_set] at *; omega)) (by first | omega | (simp only [List.length_set] at *; omega)) rfl rfl (by exact rfl) Z3 rfl rfl rfl rfl ?_
   rw [← q3]
   rintro S h12 u3
   refine Opl.nil ?_
   exact hk1 _ _ ⟨_, _, _, H, by omega, ⟨rfl, rfl, rfl, rfl, rfl, trivial⟩, h12⟩
theorem impl_cubesOf_1.ev {k : Nat} {l0 : List Int} {v0 : PV} (hv0 : Sl (cInt .i64) l0 v0) {l1 : List Int} {v1 : PV} (hv1 : Sl (cInt .i64) l1 v1) {r : Bool} (H : impl_cubesOf_1.f k l0 l1 = some r) : Ret Try.prog 130 [v0, .fel (v1 :: [])] fun v S => v = .lit (.bool r) := by
 unfold impl_cubesOf_1.f at H
 refine Ret.intro Try.func130 rfl (Nat.le_of_ble_eq_true rfl) rfl ?_
 rw [tm2]
 refine Evr.sr rfl (Opl.p1 (n := Opl.nil (Evr.sr rfl (Opl.p1 (n := Opl.lda (v1) rfl T27 rfl rfl rfl rfl ?_)))))
 obtain ⟨r1, h_r1, H⟩ := obs H
 refine Opl.callc (impl_cubeHas.ev hv0 hv1 h_r1) rfl rfl rfl rfl ⟨hv0.plain, hv1.plain, trivial⟩ (by decide) (Opl.p1 (n := Opl.nil ?_))
 obtain rfl := sinj H
 refine Evr.ret1 Try.func130 rfl ?_
 show (.lit (.bool r1) : PV) = _
 first | rfl | (simp only [go_sem]; rfl)
theorem slices_IndexFunc_int_int_at_impl_cubesOf_1.ev {k : Nat} {l0 : List (List Int)} {v0 : PV} (hv0 : Sl (cSl (cInt .i64)) l0 v0) {l2 : List Int} {v2 : PV} (hv2 : Sl (cInt .i64) l2 v2) {r : Int} (H : slices_IndexFunc_int_int_at_impl_cubesOf_1.f k l0 l2 = some r) : Ret Try.prog 180 [v0, .fn 130 [.fel (v2 :: [])]] fun v S => v = .lit (.int .i64 r) := by
 unfold slices_IndexFunc_int_int_at_impl_cubesOf_1.f at H
 refine Ret.intro Try.func180 rfl (Nat.le_of_ble_eq_true rfl) rfl ?_
 rw [tm2]
 refine Evr.sr rfl (Opl.p1 (n := Opl.nil (Evr.seq (Evr.sr rfl (Opl.p1 (n := Opl.len (xs := l0) (by exact hv0) K30 rfl rfl rfl rfl (Opl.p1 (n := Opl.nil (Evr.block ?_)))))))))
 refine Evr.loop (Evr.rounds (n := k) (Inv := fun n tm S => n ≤ k ∧ ∃ (x8_1 : Int), slices_IndexFunc_int_int_at_impl_cubesOf_1.l1 n x8_1 l0 l2 = some r ∧ Has tm [(0, v0), (1, .fn 130 [.fel (v2 :: [])]), (7, .lit (.int .i64 (l0.length : Int))), (8, .lit (.int .i64 x8_1))]) ?_ ?_ ?_)
 · exact ⟨Nat.le_refl _, _, H, ⟨rfl, rfl, rfl, rfl, trivial⟩⟩
 ·
  rintro tm S ⟨_, _, H, -⟩
  simp [slices_IndexFunc_int_int_at_impl_cubesOf_1.l1] at H
 ·
  rintro n1 ih1 tm S ⟨hle, x8_1, H, hh⟩
  simp only [slices_IndexFunc_int_int_at_impl_cubesOf_1.l1] at H
  rw [hh.eq]
  refine Evr.sr rfl (Opl.p1 (n := Opl.nil (Evr.seq ?_)))
  by_cases c1 : x8_1 < (l0.length : Int)
  case neg =>
   rw [if_neg c1] at H
   have e2 : (decide (x8_1 < (l0.length : Int))) = false := by simpa using c1
   try rw [e2]
   refine Evr.condF rfl (Evr.exit rfl (Evr.sr rfl (Opl.p1 (n := Opl.nil ?_))))
   obtain rfl := sinj H
   refine Evr.ret1 Try.func180 rfl ?_
   show (.lit (.int .i64 (-1)) : PV) = _
   first | rfl | (simp only [go_sem]; rfl)
  rw [if_pos c1] at H
  have e1 : (decide (x8_1 < (l0.length : Int))) = true := by simpa using c1
  try rw [e1]
  refine Evr.condT rfl (Evr.skip (Evr.seq (Evr.block (Evr.sr rfl (Opl.p1 (n := Opl.p1 (n := Opl.nil (Evr.sr rfl (Opl.p1 (n := Opl.p1 (n := Opl.p1 (n := ?_))))))))))))
  obtain ⟨c2, H⟩ := peel H
  obtain ⟨c3, H⟩ := peel H
  refine Opl.idx (M := (cSl (cInt .i64))) (xs := l0) (j := x8_1) ([] : List Int) (by exact hv0) rfl (by omega) (by omega) K30 Z27 rfl rfl ?_
  rintro p1 q1 h1
  obtain ⟨pv1, rfl, h2⟩ := h1
  refine Opl.lda (pv1) rfl T27 rfl rfl rfl rfl ?_
  obtain ⟨r1, h_r1, H⟩ := obs H
  refine Opl.callc (impl_cubesOf_1.ev h2 hv2 h_r1) rfl rfl rfl rfl ⟨h2.plain, (.felL ⟨hv2.plain, trivial⟩), trivial⟩ (by decide) (Opl.nil ?_)
  by_cases c4 : r1 = true
  case pos =>
   rw [if_pos c4] at H
   obtain rfl : r1 = true := by simpa using c4
   refine Evr.condT rfl (Evr.sr rfl (Opl.p1 (n := Opl.p1 (n := Opl.nil ?_))))
   obtain rfl := sinj H
   refine Evr.ret1 Try.func180 rfl ?_
   show (.lit (.int .i64 x8_1) : PV) = _
   first | rfl | (simp only [go_sem]; rfl)
  rw [if_neg c4] at H
  obtain rfl : r1 = false := by simpa using c4
  refine Evr.condF rfl (Evr.skip (Evr.inBlock (Evr.regionN rfl (Opl.add (k := .i64) (a := x8_1) (b := 1) K3 rfl rfl rfl rfl (Opl.one (v := .lit (.int .i64 (wrap64 (x8_1 + 1)))) rfl rfl rfl (Opl.nil ?_))))))
  exact ih1 _ (by omega) _ _ ⟨by omega, _, H, ⟨rfl, rfl, rfl, rfl, trivial⟩⟩
theorem slices_ContainsFunc_int_int_at_impl_cubesOf_1.ev {k : Nat} {l0 : List (List Int)} {v0 : PV} (hv0 : Sl (cSl (cInt .i64)) l0 v0) {l2 : List Int} {v2 : PV} (hv2 : Sl (cInt .i64) l2 v2) {r : Bool} (H : slices_ContainsFunc_int_int_at_impl_cubesOf_1.f k l0 l2 = some r) : Ret Try.prog 129 [v0, .fn 130 [.fel (v2 :: [])]] fun v S => v = .lit (.bool r) := by
 unfold slices_ContainsFunc_int_int_at_impl_cubesOf_1.f at H
 refine Ret.intro Try.func129 rfl (Nat.le_of_ble_eq_true rfl) rfl ?_
 rw [tm2]
 refine Evr.sr rfl (Opl.p1 (n := Opl.nil (Evr.sr rfl (Opl.p1 (n := Opl.p1 (n := ?_))))))
 obtain ⟨r1, h_r1, H⟩ := obs H
 refine Opl.callc (slices_IndexFunc_int_int_at_impl_cubesOf_1.ev hv0 hv2 h_r1) rfl rfl rfl rfl ⟨hv0.plain, (.fnL ⟨(.felL ⟨hv2.plain, trivial⟩), trivial⟩), trivial⟩ (by decide) (Opl.p1 (n := Opl.p1 (n := Opl.nil ?_)))
 obtain rfl := sinj H
 refine Evr.ret1 Try.func129 rfl ?_
 show (.lit (.bool (decide (r1 ≥ 0))) : PV) = _
 first | rfl | (simp only [go_sem]; rfl)
theorem impl_cubesOf.ev {k : Nat} {l0_0 : List IVar} {v0_0 : PV} (hv0_0 : Sl cIVar l0_0 v0_0) {l0_1 : List IRule} {v0_1 : PV} (hv0_1 : Sl cIRule l0_1 v0_1) {l1 : List Int} {v1 : PV} (hv1 : Sl (cInt .i64) l1 v1) {l2 : List Int} {v2 : PV} (hv2 : Sl (cInt .i64) l2 v2) {r : (List (List Int))} (H : impl_cubesOf.f k l0_0 l0_1 l1 l2 = some r) : Ret Try.prog 51 [.agg [v0_0, v0_1], v1, v2] fun v S => Vec (cSl (cInt .i64)) r v S := by
 unfold impl_cubesOf.f at H
 refine Ret.intro Try.func51 rfl (Nat.le_of_ble_eq_true rfl) rfl ?_
 rw [tm3]
 refine Evr.sr rfl (Opl.box (cs := [v0_0, v0_1]) rfl rfl rfl rfl ?_)
 rintro i1 S h1 u1 w1
 refine Opl.p1 (n := Opl.nil (Evr.sr rfl (Opl.p1 (n := Opl.nil (Evr.sr rfl (Opl.ldb (v := .agg [v0_0, v0_1]) h1 rfl T26 rfl rfl rfl rfl (Opl.p1 (n := ?_))))))))
 obtain ⟨r1, h_r1, H⟩ := obs H
 refine Opl.call ((impl_allBits.ev hv0_0 hv0_1 hv2 h_r1).mono fun _ _ h => Out.vec h) rfl rfl rfl rfl ⟨(.aggL ⟨hv0_0.plain, hv0_1.plain, trivial⟩), hv2.plain, trivial⟩ (by decide) ?_
 rintro pv1 h2
 obtain ⟨r2, h_r2, H⟩ := obs H
 refine Opl.call (impl_hasNone.ev h2 h_r2) rfl rfl rfl rfl ⟨h2.plain, trivial⟩ (by decide) ?_
 rintro _ ⟨pv3, rfl, h4⟩
 refine Opl.p1 (n := Opl.nil (Evr.seq (Evr.sr rfl (Opl.ldb (v := .agg [v0_0, v0_1]) h1 rfl T26 rfl rfl rfl rfl (Opl.p1 (n := ?_))))))
 obtain ⟨r3, h_r3, H⟩ := obs H
 refine Opl.call ((impl_allBits.ev hv0_0 hv0_1 hv1 h_r3).mono fun _ _ h => Out.vec h) rfl rfl rfl rfl ⟨(.aggL ⟨hv0_0.plain, hv0_1.plain, trivial⟩), hv1.plain, trivial⟩ (by decide) ?_
 rintro pv4 h5
 refine Opl.len (xs := r3) (by exact h5) K30 rfl rfl rfl rfl (Opl.p1 (n := Opl.nil (Evr.block ?_)))
 refine Evr.loop (Evr.rounds (n := k) (Inv := fun n tm S => n ≤ k ∧ ∃ (x7_1 : List (List Int)) (x19_1 : Int) (pv5 : PV), impl_cubesOf.l1 n x7_1 x19_1 r2 r3 = some r ∧ Has tm [(7, pv5), (8, .fn 178 [.fel (pv3 :: [])]), (17, pv4), (18, .lit (.int .i64 (r3.length : Int))), (19, .lit (.int .i64 x19_1))] ∧ Vec (cSl (cInt .i64)) x7_1 pv5 S) ?_ ?_ ?_)
 · exact ⟨Nat.le_refl _, _, _, _, H, ⟨rfl, rfl, rfl, rfl, rfl, trivial⟩, .nil⟩
 ·
  rintro tm S ⟨_, _, _, _, H, -⟩
  simp [impl_cubesOf.l1] at H
 ·
  rintro n1 ih1 tm S ⟨hle, x7_1, x19_1, pv5, H, hh, h6⟩
  simp only [impl_cubesOf.l1] at H
  rw [hh.eq]
  refine Evr.sr rfl (Opl.p1 (n := Opl.nil (Evr.seq ?_)))
  by_cases c1 : x19_1 < (r3.length : Int)
  case neg =>
   rw [if_neg c1] at H
   have e4 : (decide (x19_1 < (r3.length : Int))) = false := by simpa using c1
   try rw [e4]
   refine Evr.condF rfl (Evr.exit rfl (Evr.seq (Evr.frz 7 h6 rfl ?_)))
   rintro pv13 S h20 u5
   refine Evr.regionN rfl (Opl.p1 (n := ?_))
   obtain ⟨r6, h_r6, H⟩ := obs H
   refine Opl.calla (impl_clone_Lint.ev h20 h_r6) rfl rfl rfl rfl ⟨h20.plain, trivial⟩ rfl ?_
   rintro pv14 S h21 u6 w5
   refine Opl.p1 (n := Opl.nil ?_)
   obtain rfl := sinj H
   refine Evr.ret1 Try.func51 rfl ?_
   show Vec _ _ pv14 _
   exact h21
  rw [if_pos c1] at H
  have e1 : (decide (x19_1 < (r3.length : Int))) = true := by simpa using c1
  try rw [e1]
  refine Evr.condT rfl (Evr.skip (Evr.seq (Evr.block (Evr.sr rfl ?_))))
  obtain ⟨c2, H⟩ := peel H
  obtain ⟨c3, H⟩ := peel H
  refine Opl.idx (M := (cSl (cInt .i64))) (xs := r3) (j := x19_1) ([] : List Int) (by exact h5) rfl (by omega) (by omega) K30 Z27 rfl rfl ?_
  rintro p1 q1 h7
  obtain ⟨pv6, rfl, h8⟩ := h7
  refine Opl.lda (pv6) rfl T27 rfl rfl rfl rfl (Opl.alloc T27 rfl rfl rfl ?_)
  rintro i2 S h9 u2 w2
  have ap1 := w2.vec h6
  have h10 := u2.vec h6 ap1
  refine Opl.stb (vs := [pv6]) h9 rfl (by exact h8.cells) Z27 rfl (Nat.le_of_ble_eq_true rfl) (by simp only [List.all_cons, List.all_nil, h8.one, Bool.and_true, Bool.true_and] <;> rfl) rfl rfl rfl ?_
  rintro S (h11 : Box (.ptr i2 0) [pv6] _) u3
  have h12 := u3.vec h10 ap1
  refine Opl.nil (Evr.sr rfl (Opl.p1 (n := Opl.p1 (n := ?_))))
  obtain ⟨r4, h_r4, H⟩ := obs H
  obtain ⟨pv7, h13, -, h14⟩ := Out.vec h12
  refine Opl.callw (slices_ContainsFunc_int_int_at_impl_cubesOf_1.ev h14 h8 h_r4) rfl rfl rfl (.cons h13 (.cons (View.fnV (.cons (View.boxV h11 (.cons (.refl _) .nil)) .nil)) .nil)) ⟨h14.plain, (.fnL ⟨(.felL ⟨h8.plain, trivial⟩), trivial⟩), trivial⟩ (by decide) (Opl.p1 (n := Opl.nil ?_))
  refine Evr.join (fun tm S => ∃ (kq1 : Nat) (x7_2 : List (List Int)) (pv8 : PV), impl_cubesOf.l1 kq1 x7_2 (wrap64 (x19_1 + 1)) r2 r3 = some r ∧ kq1 ≤ n1 ∧ Has tm [(7, pv8), (8, .fn 178 [.fel (pv3 :: [])]), (17, pv4), (18, .lit (.int .i64 (r3.length : Int))), (19, .lit (.int .i64 x19_1))] ∧ Vec (cSl (cInt .i64)) x7_2 pv8 S) ?_ fun hk1 => ?_
  ·
   rintro tm S ⟨kq1, x7_2, pv8, H, hle, hh, h15⟩
   rw [hh.eq]
   refine Evr.inBlock (Evr.regionN rfl (Opl.add (k := .i64) (a := x19_1) (b := 1) K3 rfl rfl rfl rfl (Opl.one (v := .lit (.int .i64 (wrap64 (x19_1 + 1)))) rfl rfl rfl (Opl.nil ?_))))
   exact ih1 _ (by omega) _ _ ⟨by omega, _, _, _, H, ⟨rfl, rfl, rfl, rfl, rfl, trivial⟩, h15⟩
  ·
   by_cases c4 : r4 = true
   case pos =>
    rw [if_pos c4] at H
    have e2 : (!r4) = false := by simpa using c4
    try rw [e2]
    refine Evr.condF rfl (Evr.skip ?_)
    exact hk1 _ _ ⟨_, _, _, H, by omega, ⟨rfl, rfl, rfl, rfl, rfl, trivial⟩, h12⟩
   rw [if_neg c4] at H
   have e3 : (!r4) = true := by simpa using c4
   try rw [e3]
   refine Evr.condT rfl (Evr.regionN rfl (Opl.p1 (n := Opl.ldb (v := pv6) h11 rfl T27 rfl rfl rfl rfl (Opl.p1 (n := ?_)))))
   obtain ⟨r5, h_r5, H⟩ := obs H
   refine Opl.call ((impl_widened_at_impl_hasNone_1.ev h8 h4 h_r5).mono fun _ _ h => Out.vec h) rfl rfl rfl rfl ⟨h8.plain, (.fnL ⟨(.felL ⟨h4.plain, trivial⟩), trivial⟩), trivial⟩ (by decide) ?_
   rintro pv9 h16
   refine Opl.liti (M := (cSl (cInt .i64))) (ys := [r5]) [.tmp 30] K30 T27 rfl rfl rfl (by exact ⟨⟨_, by first | rfl | exact h16.cells, h16⟩, trivial⟩) rfl (by decide) rfl rfl ?_
   rintro pv11 h17
   obtain ⟨c5, H⟩ := peel H
   refine Opl.app (M := (cSl (cInt .i64))) (xs := x7_1) (ys := [r5]) (v := pv5) h12 (.sl h17) (oSl (cInt .i64)) rfl rfl K30 T27 rfl rfl (by (try simp only [List.length_cons, List.length_nil]); omega) (by show (_ + _) * 24 ≤ 140737488355328; (try simp only [List.length_cons, List.length_nil]); omega) rfl rfl rfl rfl rfl ?_
   rintro pv12 S h18 u4 w4
   have ap2 := w4.box h11
   have h19 := u4.box h11 ap1.symm
   refine Opl.p1 (n := Opl.nil ?_)
   exact hk1 _ _ ⟨_, _, _, H, by omega, ⟨rfl, rfl, rfl, rfl, rfl, trivial⟩, h18⟩
theorem impl_around.ev {k : Nat} {l0_0 : List IVar} {v0_0 : PV} (hv0_0 : Sl cIVar l0_0 v0_0) {l0_1 : List IRule} {v0_1 : PV} (hv0_1 : Sl cIRule l0_1 v0_1) {l1 : List Int} {v1 : PV} (hv1 : Sl (cInt .i64) l1 v1) {l2 : List Int} {v2 : PV} (hv2 : Sl (cInt .i64) l2 v2) {r : (List Bool)} (H : impl_around.f k l0_0 l0_1 l1 l2 = some r) : Ret Try.prog 75 [.agg [v0_0, v0_1], v1, v2] fun v S => Vec cBool r v S := by
 unfold impl_around.f at H
 refine Ret.intro Try.func75 rfl (Nat.le_of_ble_eq_true rfl) rfl ?_
 rw [tm3]
 refine Evr.sr rfl (Opl.box (cs := [v0_0, v0_1]) rfl rfl rfl rfl ?_)
 rintro i1 S h1 u1 w1
 refine Opl.p1 (n := Opl.nil (Evr.sr rfl (Opl.p1 (v := .ptr i1 0) (n := Opl.ldb (v := v0_0) h1 rfl T23 rfl rfl rfl rfl ?_))))
 obtain ⟨r1, h_r1, H⟩ := obs H
 refine Opl.callc (impl_size.ev hv0_0 h_r1) rfl rfl rfl rfl ⟨hv0_0.plain, trivial⟩ (by decide) ?_
 obtain ⟨c1, H⟩ := peel H
 obtain ⟨c2, H⟩ := peel H
 refine Opl.make (M := cBool) (m := r1) false (by exact rfl) rfl rfl K91 T4 rfl (by omega) (by show (r1).toNat * 1 ≤ 281474976710656; omega) (by omega) rfl rfl rfl ?_
 rintro pv1 S h2 u2 w2
 have ap1 := w2.box h1
 have h3 := u2.box h1 ap1
 refine Opl.p1 (n := Opl.nil (Evr.seq (Evr.sr rfl (Opl.ldb (v := .agg [v0_0, v0_1]) h3 rfl T26 rfl rfl rfl rfl (Opl.p1 (n := Opl.p1 (n := ?_)))))))
 obtain ⟨r2, h_r2, H⟩ := obs H
 refine Opl.call ((impl_cubesOf.ev hv0_0 hv0_1 hv1 hv2 h_r2).mono fun _ _ h => Out.vec h) rfl rfl rfl rfl ⟨(.aggL ⟨hv0_0.plain, hv0_1.plain, trivial⟩), hv1.plain, hv2.plain, trivial⟩ (by decide) ?_
 rintro pv2 h4
 refine Opl.len (xs := r2) (by exact h4) K30 rfl rfl rfl rfl (Opl.p1 (n := Opl.nil (Evr.block ?_)))
 refine Evr.loop (Evr.rounds (n := k) (Inv := fun n tm S => n ≤ k ∧ ∃ (x7q2_1 : List Bool) (x21_1 : Int) (i2 : Abs.Id) (pv3 : PV), impl_around.l1 n x7q2_1 x21_1 l0_0 l0_1 r2 = some r ∧ Has tm [(3, .ptr i2 0), (7, pv3), (19, pv2), (20, .lit (.int .i64 (r2.length : Int))), (21, .lit (.int .i64 x21_1))] ∧ Box (.ptr i2 0) [v0_0, v0_1] S ∧ Vec cBool x7q2_1 pv3 S ∧ Ap (.ptr i2 0) pv3) ?_ ?_ ?_)
 · exact ⟨Nat.le_refl _, _, _, _, _, H, ⟨rfl, rfl, rfl, rfl, rfl, trivial⟩, h3, h2, ap1⟩
 ·
  rintro tm S ⟨_, _, _, _, _, H, -⟩
  simp [impl_around.l1] at H
 ·
  rintro n1 ih1 tm S ⟨hle, x7q2_1, x21_1, i2, pv3, H, hh, h5, h6, ap2⟩
  simp only [impl_around.l1] at H
  rw [hh.eq]
  refine Evr.sr rfl (Opl.p1 (n := Opl.nil (Evr.seq ?_)))
  by_cases c3 : x21_1 < (r2.length : Int)
  case neg =>
   rw [if_neg c3] at H
   have e4 : (decide (x21_1 < (r2.length : Int))) = false := by simpa using c3
   try rw [e4]
   refine Evr.condF rfl (Evr.exit rfl (Evr.sr rfl (Opl.p1 (n := Opl.p1 (n := Opl.nil ?_)))))
   obtain rfl := sinj H
   refine Evr.ret1 Try.func75 rfl ?_
   show Vec _ _ pv3 _
   exact h6
  rw [if_pos c3] at H
  have e1 : (decide (x21_1 < (r2.length : Int))) = true := by simpa using c3
  try rw [e1]
  refine Evr.condT rfl (Evr.skip (Evr.seq (Evr.block (Evr.sr rfl ?_))))
  obtain ⟨c4, H⟩ := peel H
  obtain ⟨c5, H⟩ := peel H
  refine Opl.idx (M := (cSl (cInt .i64))) (xs := r2) (j := x21_1) ([] : List Int) (by exact h4) rfl (by omega) (by omega) K30 Z27 rfl rfl ?_
  rintro p1 q1 h7
  obtain ⟨pv4, rfl, h8⟩ := h7
  refine Opl.lda (pv4) rfl T27 rfl rfl rfl rfl (Opl.p1 (n := Opl.nil (Evr.sr rfl (Opl.ldb (v := .agg [v0_0, v0_1]) h5 rfl T26 rfl rfl rfl rfl (Opl.p1 (n := ?_))))))
  obtain ⟨r3, h_r3, H⟩ := obs H
  refine Opl.call ((impl_cubeStates.ev hv0_0 hv0_1 h8 h_r3).mono fun _ _ h => Out.vec h) rfl rfl rfl rfl ⟨(.aggL ⟨hv0_0.plain, hv0_1.plain, trivial⟩), h8.plain, trivial⟩ (by decide) ?_
  rintro pv5 h9
  refine Opl.len (xs := r3) (by exact h9) K27 rfl rfl rfl rfl (Opl.p1 (n := Opl.nil (Evr.block ?_)))
  refine Evr.loop (Evr.rounds (n := n1) (Inv := fun n tm S => n ≤ n1 ∧ ∃ (x7q3_1 : List Bool) (x29q2_1 : Int) (i3 : Abs.Id) (pv6 : PV), impl_around.l2 n x7q3_1 x29q2_1 l0_0 l0_1 r2 x21_1 r3 = some r ∧ Has tm [(3, .ptr i3 0), (7, pv6), (19, pv2), (20, .lit (.int .i64 (r2.length : Int))), (21, .lit (.int .i64 x21_1)), (27, pv5), (28, .lit (.int .i64 (r3.length : Int))), (29, .lit (.int .i64 x29q2_1))] ∧ Box (.ptr i3 0) [v0_0, v0_1] S ∧ Vec cBool x7q3_1 pv6 S ∧ Ap (.ptr i3 0) pv6) ?_ ?_ ?_)
  · exact ⟨Nat.le_refl _, _, _, _, _, H, ⟨rfl, rfl, rfl, rfl, rfl, rfl, rfl, rfl, trivial⟩, h5, h6, ap2⟩
  ·
   rintro tm S ⟨_, _, _, _, _, H, -⟩
   simp [impl_around.l2] at H
  ·
   rintro n2 ih2 tm S ⟨hle, x7q3_1, x29q2_1, i3, pv6, H, hh, h10, h11, ap3⟩
   simp only [impl_around.l2] at H
   rw [hh.eq]
   refine Evr.sr rfl (Opl.p1 (n := Opl.nil (Evr.seq ?_)))
   by_cases c6 : x29q2_1 < (r3.length : Int)
   case neg =>
    rw [if_neg c6] at H
    have e3 : (decide (x29q2_1 < (r3.length : Int))) = false := by simpa using c6
    try rw [e3]
    refine Evr.condF rfl (Evr.exit rfl (Evr.inBlock (Evr.regionN rfl (Opl.add (k := .i64) (a := x21_1) (b := 1) K3 rfl rfl rfl rfl (Opl.one (v := .lit (.int .i64 (wrap64 (x21_1 + 1)))) rfl rfl rfl (Opl.nil ?_))))))
    exact ih1 _ (by omega) _ _ ⟨by omega, _, _, _, _, H, ⟨rfl, rfl, rfl, rfl, rfl, trivial⟩, h10, h11, ap3⟩
   rw [if_pos c6] at H
   have e2 : (decide (x29q2_1 < (r3.length : Int))) = true := by simpa using c6
   try rw [e2]
   refine Evr.condT rfl (Evr.skip (Evr.seq (Evr.block (Evr.sr rfl ?_))))
   obtain ⟨c7, H⟩ := peel H
   obtain ⟨c8, H⟩ := peel H
   obtain ⟨c9, H⟩ := peel H
   obtain ⟨c10, H⟩ := peel H
   refine Opl.idx (M := (cInt .i64)) (xs := r3) (j := x29q2_1) (0 : Int) (by exact h9) rfl (by omega) (by omega) K27 Z3 rfl rfl ?_
   rintro p2 q2 h12
   obtain rfl : p2 = [.lit (.int .i64 (rd r3 x29q2_1))] := h12
   refine Opl.lda (.lit (.int .i64 (rd r3 x29q2_1))) rfl T3 rfl rfl rfl rfl (Opl.p1 (n := Opl.nil (Evr.regionN rfl (Opl.p1 (n := Opl.p1 (n := Opl.idv (M := cBool) (xs := x7q3_1) (j := (rd r3 x29q2_1)) (v := pv6) h11 rfl rfl (by omega) (by omega) K91 Z4 rfl rfl ?_))))))
   rintro d1 z1 q3 h13 h14
   refine Opl.stv (M := cBool) (xs := x7q3_1) (j := (rd r3 x29q2_1)) (y := true) (vs := [.lit (.bool true)]) h13 h14 (by omega) (by omega) rfl rfl (by exact rfl) Z4 rfl rfl rfl rfl ?_
   rw [← q3]
   rintro S h15 u3
   have h16 := u3.box h10 ap3
   refine Opl.nil (Evr.inBlock (Evr.regionN rfl (Opl.add (k := .i64) (a := x29q2_1) (b := 1) K3 rfl rfl rfl rfl (Opl.one (v := .lit (.int .i64 (wrap64 (x29q2_1 + 1)))) rfl rfl rfl (Opl.nil ?_)))))
   exact ih2 _ (by omega) _ _ ⟨by omega, _, _, _, _, H, ⟨rfl, rfl, rfl, rfl, rfl, rfl, rfl, rfl, trivial⟩, h16, h15, ap3⟩
theorem slices_Index_int_int.ev {k : Nat} {l0 : List Int} {v0 : PV} (hv0 : Sl (cInt .i64) l0 v0) {a1 : Int} {r : Int} (H : slices_Index_int_int.f k l0 a1 = some r) : Ret Try.prog 143 [v0, .lit (.int .i64 a1)] fun v S => v = .lit (.int .i64 r) := by
 unfold slices_Index_int_int.f at H
 refine Ret.intro Try.func143 rfl (Nat.le_of_ble_eq_true rfl) rfl ?_
 rw [tm2]
 refine Evr.sr rfl (Opl.p1 (n := Opl.nil (Evr.seq (Evr.sr rfl (Opl.p1 (n := Opl.len (xs := l0) (by exact hv0) K27 rfl rfl rfl rfl (Opl.p1 (n := Opl.nil (Evr.block ?_)))))))))
 refine Evr.loop (Evr.rounds (n := k) (Inv := fun n tm S => n ≤ k ∧ ∃ (x8_1 : Int), slices_Index_int_int.l0 n l0 a1 (l0.length : Int) x8_1 = some r ∧ Has tm [(0, v0), (1, .lit (.int .i64 a1)), (7, .lit (.int .i64 (l0.length : Int))), (8, .lit (.int .i64 x8_1))]) ?_ ?_ ?_)
 · exact ⟨Nat.le_refl _, _, H, ⟨rfl, rfl, rfl, rfl, trivial⟩⟩
 ·
  rintro tm S ⟨_, _, H, -⟩
  simp [slices_Index_int_int.l0] at H
 ·
  rintro n1 ih1 tm S ⟨hle, x8_1, H, hh⟩
  simp only [slices_Index_int_int.l0] at H
  rw [hh.eq]
  refine Evr.sr rfl (Opl.p1 (n := Opl.nil (Evr.seq ?_)))
  by_cases c1 : x8_1 < (l0.length : Int)
  case neg =>
   rw [if_neg c1] at H
   have e4 : (decide (x8_1 < (l0.length : Int))) = false := by simpa using c1
   try rw [e4]
   refine Evr.condF rfl (Evr.exit rfl (Evr.sr rfl (Opl.p1 (n := Opl.nil ?_))))
   obtain rfl := sinj H
   refine Evr.ret1 Try.func143 rfl ?_
   show (.lit (.int .i64 (-1)) : PV) = _
   first | rfl | (simp only [go_sem]; rfl)
  rw [if_pos c1] at H
  have e1 : (decide (x8_1 < (l0.length : Int))) = true := by simpa using c1
  try rw [e1]
  refine Evr.condT rfl (Evr.skip (Evr.seq (Evr.block (Evr.sr rfl (Opl.p1 (n := Opl.p1 (n := Opl.nil (Evr.sr rfl (Opl.p1 (n := Opl.p1 (n := Opl.p1 (n := ?_))))))))))))
  obtain ⟨c2, H⟩ := peel H
  obtain ⟨c3, H⟩ := peel H
  refine Opl.idx (M := (cInt .i64)) (xs := l0) (j := x8_1) (0 : Int) (by exact hv0) rfl (by omega) (by omega) K27 Z3 rfl rfl ?_
  rintro p1 q1 h1
  obtain rfl : p1 = [.lit (.int .i64 (rd l0 x8_1))] := h1
  refine Opl.lda (.lit (.int .i64 (rd l0 x8_1))) rfl T3 rfl rfl rfl rfl (Opl.p1 (n := Opl.nil ?_))
  by_cases c4 : a1 = (rd l0 x8_1)
  case pos =>
   rw [if_pos c4] at H
   have e2 : (a1 == (rd l0 x8_1)) = true := by simpa using c4
   try rw [e2]
   refine Evr.condT rfl (Evr.sr rfl (Opl.p1 (n := Opl.p1 (n := Opl.nil ?_))))
   obtain rfl := sinj H
   refine Evr.ret1 Try.func143 rfl ?_
   show (.lit (.int .i64 x8_1) : PV) = _
   first | rfl | (simp only [go_sem]; rfl)
  rw [if_neg c4] at H
  have e3 : (a1 == (rd l0 x8_1)) = false := by simpa using c4
  try rw [e3]
  refine Evr.condF rfl (Evr.skip (Evr.inBlock (Evr.regionN rfl (Opl.add (k := .i64) (a := x8_1) (b := 1) K3 rfl rfl rfl rfl (Opl.one (v := .lit (.int .i64 (wrap64 (x8_1 + 1)))) rfl rfl rfl (Opl.nil ?_))))))
  exact ih1 _ (by omega) _ _ ⟨by omega, _, H, ⟨rfl, rfl, rfl, rfl, trivial⟩⟩
theorem slices_Contains_int_int.ev {k : Nat} {l0 : List Int} {v0 : PV} (hv0 : Sl (cInt .i64) l0 v0) {a1 : Int} {r : Bool} (H : slices_Contains_int_int.f k l0 a1 = some r) : Ret Try.prog 73 [v0, .lit (.int .i64 a1)] fun v S => v = .lit (.bool r) := by
 unfold slices_Contains_int_int.f at H
 refine Ret.intro Try.func73 rfl (Nat.le_of_ble_eq_true rfl) rfl ?_
 rw [tm2]
 refine Evr.sr rfl (Opl.p1 (n := Opl.nil (Evr.sr rfl (Opl.p1 (n := Opl.p1 (n := ?_))))))
 obtain ⟨t885, h_t885, H⟩ := obs H
 refine Opl.callc (slices_Index_int_int.ev hv0 h_t885) rfl rfl rfl rfl ⟨hv0.plain, (.lit _), trivial⟩ (by decide) (Opl.p1 (n := Opl.p1 (n := Opl.nil ?_)))
 obtain rfl := sinj H
 refine Evr.ret1 Try.func73 rfl ?_
 show (.lit (.bool (decide (t885 ≥ 0))) : PV) = _
 first | rfl | (simp only [go_sem]; rfl)
theorem impl_Around_1.ev {k : Nat} {a0 : Int} {l1 : List Int} {v1 : PV} (hv1 : Sl (cInt .i64) l1 v1) {r : Bool} (H : impl_Around_1.f k a0 l1 = some r) : Ret Try.prog 72 [.lit (.int .i64 a0), .fel (v1 :: [])] fun v S => v = .lit (.bool r) := by
 unfold impl_Around_1.f at H
 refine Ret.intro Try.func72 rfl (Nat.le_of_ble_eq_true rfl) rfl ?_
 rw [tm2]
 refine Evr.sr rfl (Opl.p1 (n := Opl.nil (Evr.sr rfl (Opl.lda (v1) rfl T27 rfl rfl rfl rfl (Opl.p1 (n := ?_))))))
 obtain ⟨r1, h_r1, H⟩ := obs H
 refine Opl.callc (slices_Contains_int_int.ev hv1 h_r1) rfl rfl rfl rfl ⟨hv1.plain, (.lit _), trivial⟩ (by decide) (Opl.p1 (n := Opl.nil ?_))
 obtain rfl := sinj H
 refine Evr.ret1 Try.func72 rfl ?_
 show (.lit (.bool r1) : PV) = _
 first | rfl | (simp only [go_sem]; rfl)
theorem slices_IndexFunc_int_int_at_impl_Around_1.ev {k : Nat} {l0 : List Int} {v0 : PV} (hv0 : Sl (cInt .i64) l0 v0) {l2 : List Int} {v2 : PV} (hv2 : Sl (cInt .i64) l2 v2) {r : Int} (H : slices_IndexFunc_int_int_at_impl_Around_1.f k l0 l2 = some r) : Ret Try.prog 142 [v0, .fn 72 [.fel (v2 :: [])]] fun v S => v = .lit (.int .i64 r) := by
 unfold slices_IndexFunc_int_int_at_impl_Around_1.f at H
 refine Ret.intro Try.func142 rfl (Nat.le_of_ble_eq_true rfl) rfl ?_
 rw [tm2]
 refine Evr.sr rfl (Opl.p1 (n := Opl.nil (Evr.seq (Evr.sr rfl (Opl.p1 (n := Opl.len (xs := l0) (by exact hv0) K27 rfl rfl rfl rfl (Opl.p1 (n := Opl.nil (Evr.block ?_)))))))))
 refine Evr.loop (Evr.rounds (n := k) (Inv := fun n tm S => n ≤ k ∧ ∃ (x8_1 : Int), slices_IndexFunc_int_int_at_impl_Around_1.l1 n x8_1 l0 l2 = some r ∧ Has tm [(0, v0), (1, .fn 72 [.fel (v2 :: [])]), (7, .lit (.int .i64 (l0.length : Int))), (8, .lit (.int .i64 x8_1))]) ?_ ?_ ?_)
 · exact ⟨Nat.le_refl _, _, H, ⟨rfl, rfl, rfl, rfl, trivial⟩⟩
 ·
  rintro tm S ⟨_, _, H, -⟩
  simp [slices_IndexFunc_int_int_at_impl_Around_1.l1] at H
 ·
  rintro n1 ih1 tm S ⟨hle, x8_1, H, hh⟩
  simp only [slices_IndexFunc_int_int_at_impl_Around_1.l1] at H
  rw [hh.eq]
  refine Evr.sr rfl (Opl.p1 (n := Opl.nil (Evr.seq ?_)))
  by_cases c1 : x8_1 < (l0.length : Int)
  case neg =>
   rw [if_neg c1] at H
   have e2 : (decide (x8_1 < (l0.length : Int))) = false := by simpa using c1
   try rw [e2]
   refine Evr.condF rfl (Evr.exit rfl (Evr.sr rfl (Opl.p1 (n := Opl.nil ?_))))
   obtain rfl := sinj H
   refine Evr.ret1 Try.func142 rfl ?_
   show (.lit (.int .i64 (-1)) : PV) = _
   first | rfl | (simp only [go_sem]; rfl)
  rw [if_pos c1] at H
  have e1 : (decide (x8_1 < (l0.length : Int))) = true := by simpa using c1
  try rw [e1]
  refine Evr.condT rfl (Evr.skip (Evr.seq (Evr.block (Evr.sr rfl (Opl.p1 (n := Opl.p1 (n := Opl.nil (Evr.sr rfl (Opl.p1 (n := Opl.p1 (n := Opl.p1 (n := ?_))))))))))))
  obtain ⟨c2, H⟩ := peel H
  obtain ⟨c3, H⟩ := peel H
  refine Opl.idx (M := (cInt .i64)) (xs := l0) (j := x8_1) (0 : Int) (by exact hv0) rfl (by omega) (by omega) K27 Z3 rfl rfl ?_
  rintro p1 q1 h1
  obtain rfl : p1 = [.lit (.int .i64 (rd l0 x8_1))] := h1
  refine Opl.lda (.lit (.int .i64 (rd l0 x8_1))) rfl T3 rfl rfl rfl rfl ?_
  obtain ⟨r1, h_r1, H⟩ := obs H
  refine Opl.callc (impl_Around_1.ev hv2 h_r1) rfl rfl rfl rfl ⟨(.lit _), (.felL ⟨hv2.plain, trivial⟩), trivial⟩ (by decide) (Opl.nil ?_)
  by_cases c4 : r1 = true
  case pos =>
   rw [if_pos c4] at H
   obtain rfl : r1 = true := by simpa using c4
   refine Evr.condT rfl (Evr.sr rfl (Opl.p1 (n := Opl.p1 (n := Opl.nil ?_))))
   obtain rfl := sinj H
   refine Evr.ret1 Try.func142 rfl ?_
   show (.lit (.int .i64 x8_1) : PV) = _
   first | rfl | (simp only [go_sem]; rfl)
  rw [if_neg c4] at H
  obtain rfl : r1 = false := by simpa using c4
  refine Evr.condF rfl (Evr.skip (Evr.inBlock (Evr.regionN rfl (Opl.add (k := .i64) (a := x8_1) (b := 1) K3 rfl rfl rfl rfl (Opl.one (v := .lit (.int .i64 (wrap64 (x8_1 + 1)))) rfl rfl rfl (Opl.nil ?_))))))
  exact ih1 _ (by omega) _ _ ⟨by omega, _, H, ⟨rfl, rfl, rfl, rfl, trivial⟩⟩
theorem slices_ContainsFunc_int_int_at_impl_Around_1.ev {k : Nat} {l0 : List Int} {v0 : PV} (hv0 : Sl (cInt .i64) l0 v0) {l2 : List Int} {v2 : PV} (hv2 : Sl (cInt .i64) l2 v2) {r : Bool} (H : slices_ContainsFunc_int_int_at_impl_Around_1.f k l0 l2 = some r) : Ret Try.prog 71 [v0, .fn 72 [.fel (v2 :: [])]] fun v S => v = .lit (.bool r) := by
 unfold slices_ContainsFunc_int_int_at_impl_Around_1.f at H
 refine Ret.intro Try.func71 rfl (Nat.le_of_ble_eq_true rfl) rfl ?_
 rw [tm2]
 refine Evr.sr rfl (Opl.p1 (n := Opl.nil (Evr.sr rfl (Opl.p1 (n := Opl.p1 (n := ?_))))))
 obtain ⟨r1, h_r1, H⟩ := obs H
 refine Opl.callc (slices_IndexFunc_int_int_at_impl_Around_1.ev hv0 hv2 h_r1) rfl rfl rfl rfl ⟨hv0.plain, (.fnL ⟨(.felL ⟨hv2.plain, trivial⟩), trivial⟩), trivial⟩ (by decide) (Opl.p1 (n := Opl.p1 (n := Opl.nil ?_)))
 obtain rfl := sinj H
 refine Evr.ret1 Try.func71 rfl ?_
 show (.lit (.bool (decide (r1 ≥ 0))) : PV) = _
 first | rfl | (simp only [go_sem]; rfl)
theorem impl_Around.ev {k : Nat} {l0_0 : List IVar} {v0_0 : PV} (hv0_0 : Sl cIVar l0_0 v0_0) {l0_1 : List IRule} {v0_1 : PV} (hv0_1 : Sl cIRule l0_1 v0_1) {l1 : List Int} {v1 : PV} (hv1 : Sl (cInt .i64) l1 v1) {l2 : List Int} {v2 : PV} (hv2 : Sl (cInt .i64) l2 v2) {r : (List Int) × Bool} (H : impl_Around.f k l0_0 l0_1 l1 l2 = some r) : Ret Try.prog 19 [.agg [v0_0, v0_1], v1, v2] fun v S => Out (fun q => ∃ q1 q2, q = .tup [q1, q2] ∧ Sl (cInt .i64) r.1 q1 ∧ q2 = .lit (.bool r.2)) v S := by
 unfold impl_Around.f at H
 refine Ret.intro Try.func19 rfl (Nat.le_of_ble_eq_true rfl) rfl ?_
 rw [tm3]
 refine Evr.sr rfl (Opl.box (cs := [v0_0, v0_1]) rfl rfl rfl rfl ?_)
 rintro i1 S h1 u1 w1
 refine Opl.box (cs := [v2]) (by exact hv2.cells) rfl rfl rfl ?_
 rintro i2 S h2 u2 w2
 have ap1 := w2.box h1
 have h3 := u2.box h1 ap1
 refine Opl.p1 (n := Opl.p1 (n := Opl.nil (Evr.seq (Evr.seq (Evr.regionD rfl (by kernel_rfl) (Opl.ldb (v := .agg [v0_0, v0_1]) h3 rfl T26 rfl rfl rfl rfl (Opl.p1 (n := ?_))))))))
 obtain ⟨r1, h_r1, H⟩ := obs H
 refine Opl.callc (impl_SetValid.ev hv0_0 hv0_1 hv1 h_r1) rfl rfl rfl rfl ⟨(.aggL ⟨hv0_0.plain, hv0_1.plain, trivial⟩), hv1.plain, trivial⟩ (by decide) (Opl.p1 (n := Opl.p1 (n := ?_)))
 by_cases c1 : r1 = true
 case neg =>
  rw [if_neg c1] at H
  have e4 : (!r1) = true := by simpa using c1
  try rw [e4]
  refine Opl.sk4 rfl rfl rfl rfl (Opl.sk2 rfl rfl (Opl.p1 (n := Opl.p1 (n := Opl.sk2 rfl rfl (Opl.skp rfl (Opl.p1 (n := Opl.nil (Evr.condT rfl (Evr.sr rfl (Opl.p1 (n := Opl.p1 (n := Opl.nil ?_))))))))))))
  obtain rfl := sinj H
  refine Evr.ret2 Try.func19 rfl ?_
  show Out _ (.tup [.lit (.slice none 0 0), .lit (.bool false)]) _
  exact .tup2 (.sl .nil) .lit
 rw [if_pos c1] at H
 have e1 : (!r1) = false := by simpa using c1
 try rw [e1]
 refine Opl.ldb (v := v2) h2 rfl T27 rfl rfl rfl rfl (Opl.p1 (v := .ptr i1 0) (n := Opl.ldb (v := v0_0) h3 rfl T23 rfl rfl rfl rfl ?_))
 obtain ⟨r2, h_r2, H⟩ := obs H
 refine Opl.callc (impl_size.ev hv0_0 h_r2) rfl rfl rfl rfl ⟨hv0_0.plain, trivial⟩ (by decide) ?_
 obtain ⟨r3, h_r3, H⟩ := obs H
 refine Opl.callc (impl_setOk.ev hv2 h_r3) rfl rfl rfl rfl ⟨hv2.plain, (.lit _), trivial⟩ (by decide) (Opl.p1 (n := Opl.p1 (n := Opl.p1 (n := ?_))))
 by_cases c2 : r3 = true
 case neg =>
  rw [if_neg c2] at H
  have e3 : (!r3) = true := by simpa using c2
  try rw [e3]
  refine Opl.sk2 rfl rfl (Opl.skp rfl (Opl.p1 (n := Opl.nil (Evr.condT rfl (Evr.sr rfl (Opl.p1 (n := Opl.p1 (n := Opl.nil ?_))))))))
  obtain rfl := sinj H
  refine Evr.ret2 Try.func19 rfl ?_
  show Out _ (.tup [.lit (.slice none 0 0), .lit (.bool false)]) _
  exact .tup2 (.sl .nil) .lit
 rw [if_pos c2] at H
 have e2 : (!r3) = false := by simpa using c2
 try rw [e2]
 refine Opl.p1 (n := Opl.p1 (n := ?_))
 obtain ⟨r4, h_r4, H⟩ := obs H
 refine Opl.callw (slices_ContainsFunc_int_int_at_impl_Around_1.ev hv1 hv2 h_r4) rfl rfl rfl (.cons (.refl _) (.cons (View.fnV (.cons (View.boxV h2 (.cons (.refl _) .nil)) .nil)) .nil)) ⟨hv1.plain, (.fnL ⟨(.felL ⟨hv2.plain, trivial⟩), trivial⟩), trivial⟩ (by decide) (Opl.p1 (n := Opl.nil ?_))
 by_cases c3 : r4 = true
 case pos =>
  rw [if_pos c3] at H
  obtain rfl : r4 = true := by simpa using c3
  refine Evr.condT rfl (Evr.sr rfl (Opl.p1 (n := Opl.p1 (n := Opl.nil ?_))))
  obtain rfl := sinj H
  refine Evr.ret2 Try.func19 rfl ?_
  show Out _ (.tup [.lit (.slice none 0 0), .lit (.bool false)]) _
  exact .tup2 (.sl .nil) .lit
 rw [if_neg c3] at H
 obtain rfl : r4 = false := by simpa using c3
 refine Evr.condF rfl (Evr.skip (Evr.sr rfl (Opl.ldb (v := .agg [v0_0, v0_1]) h3 rfl T26 rfl rfl rfl rfl (Opl.p1 (n := Opl.ldb (v := v2) h2 rfl T27 rfl rfl rfl rfl ?_)))))
 obtain ⟨r5, h_r5, H⟩ := obs H
 refine Opl.call ((impl_around.ev hv0_0 hv0_1 hv1 hv2 h_r5).mono fun _ _ h => Out.vec h) rfl rfl rfl rfl ⟨(.aggL ⟨hv0_0.plain, hv0_1.plain, trivial⟩), hv1.plain, hv2.plain, trivial⟩ (by decide) ?_
 rintro pv1 h4
 obtain ⟨r6, h_r6, H⟩ := obs H
 refine Opl.call ((impl_listOf.ev h4 h_r6).mono fun _ _ h => Out.vec h) rfl rfl rfl rfl ⟨h4.plain, trivial⟩ (by decide) ?_
 rintro pv2 h5
 refine Opl.p1 (n := Opl.p1 (n := Opl.nil ?_))
 obtain rfl := sinj H
 refine Evr.ret2 Try.func19 rfl ?_
 show Out _ (.tup [pv2, .lit (.bool true)]) _
 exact .tup2 (.sl h5) .lit
theorem impl_SetBoth_1.ev {a0 : Bool} {a1 : Bool} {r : Bool} (H : impl_SetBoth_1.f a0 a1 = some r) : Ret Try.prog 78 [.lit (.bool a0), .lit (.bool a1)] fun v S => v = .lit (.bool r) := by
 unfold impl_SetBoth_1.f at H
 refine Ret.intro Try.func78 rfl (Nat.le_of_ble_eq_true rfl) rfl ?_
 rw [tm2]
 refine Evr.sr rfl (Opl.p1 (n := Opl.nil (Evr.sr rfl (Opl.p1 (n := Opl.p1 (n := ?_))))))
 by_cases c1 : a0 = true
 case pos =>
  rw [if_pos c1] at H
  obtain rfl : a0 = true := by simpa using c1
  refine Opl.p1 (n := Opl.p1 (n := Opl.p1 (n := Opl.nil ?_)))
  obtain rfl := sinj H
  refine Evr.ret1 Try.func78 rfl ?_
  show (.lit (.bool a1) : PV) = _
  first | rfl | (simp only [go_sem]; rfl)
 rw [if_neg c1] at H
 obtain rfl : a0 = false := by simpa using c1
 refine Opl.skp rfl (Opl.p1 (n := Opl.p1 (n := Opl.nil ?_)))
 obtain rfl := sinj H
 refine Evr.ret1 Try.func78 rfl ?_
 show (.lit (.bool false) : PV) = _
 first | rfl | (simp only [go_sem]; rfl)
theorem impl_marks.ev {k : Nat} {l0 : List Int} {v0 : PV} (hv0 : Sl (cInt .i64) l0 v0) {a1 : Int} {r : (List Bool)} (H : impl_marks.f k l0 a1 = some r) : Ret Try.prog 133 [v0, .lit (.int .i64 a1)] fun v S => Vec cBool r v S := by
 unfold impl_marks.f at H
 refine Ret.intro Try.func133 rfl (Nat.le_of_ble_eq_true rfl) rfl ?_
 rw [tm2]
 refine Evr.sr rfl (Opl.p1 (n := Opl.nil (Evr.sr rfl (Opl.p1 (n := ?_)))))
 obtain ⟨c1, H⟩ := peel H
 obtain ⟨c2, H⟩ := peel H
 refine Opl.make (M := cBool) (m := a1) false (by exact rfl) rfl rfl K91 T4 rfl (by omega) (by show (a1).toNat * 1 ≤ 281474976710656; omega) (by omega) rfl rfl rfl ?_
 rintro pv1 S h1 u1 w1
 refine Opl.p1 (n := Opl.nil (Evr.seq (Evr.sr rfl (Opl.p1 (n := Opl.len (xs := l0) (by exact hv0) K27 rfl rfl rfl rfl (Opl.p1 (n := Opl.nil (Evr.block ?_))))))))
 refine Evr.loop (Evr.rounds (n := k) (Inv := fun n tm S => n ≤ k ∧ ∃ (x5_1 : List Bool) (x12_1 : Int) (pv2 : PV), impl_marks.l0 n x5_1 l0 (l0.length : Int) x12_1 = some r ∧ Has tm [(5, pv2), (10, v0), (11, .lit (.int .i64 (l0.length : Int))), (12, .lit (.int .i64 x12_1))] ∧ Vec cBool x5_1 pv2 S) ?_ ?_ ?_)
 · exact ⟨Nat.le_refl _, _, _, _, H, ⟨rfl, rfl, rfl, rfl, trivial⟩, h1⟩
 ·
  rintro tm S ⟨_, _, _, _, H, -⟩
  simp [impl_marks.l0] at H
 ·
  rintro n1 ih1 tm S ⟨hle, x5_1, x12_1, pv2, H, hh, h2⟩
  simp only [impl_marks.l0] at H
  rw [hh.eq]
  refine Evr.sr rfl (Opl.p1 (n := Opl.nil (Evr.seq ?_)))
  by_cases c3 : x12_1 < (l0.length : Int)
  case neg =>
   rw [if_neg c3] at H
   have e2 : (decide (x12_1 < (l0.length : Int))) = false := by simpa using c3
   try rw [e2]
   refine Evr.condF rfl (Evr.exit rfl (Evr.sr rfl (Opl.p1 (n := Opl.p1 (n := Opl.nil ?_)))))
   obtain rfl := sinj H
   refine Evr.ret1 Try.func133 rfl ?_
   show Vec _ _ pv2 _
   exact h2
  rw [if_pos c3] at H
  have e1 : (decide (x12_1 < (l0.length : Int))) = true := by simpa using c3
  try rw [e1]
  refine Evr.condT rfl (Evr.skip (Evr.seq (Evr.block (Evr.sr rfl ?_))))
  obtain ⟨c4, H⟩ := peel H
  obtain ⟨c5, H⟩ := peel H
  obtain ⟨c6, H⟩ := peel H
  obtain ⟨c7, H⟩ := peel H
  refine Opl.idx (M := (cInt .i64)) (xs := l0) (j := x12_1) (0 : Int) (by exact hv0) rfl (by omega) (by omega) K27 Z3 rfl rfl ?_
  rintro p1 q1 h3
  obtain rfl : p1 = [.lit (.int .i64 (rd l0 x12_1))] := h3
  refine Opl.lda (.lit (.int .i64 (rd l0 x12_1))) rfl T3 rfl rfl rfl rfl (Opl.p1 (n := Opl.nil (Evr.regionN rfl (Opl.p1 (n := Opl.p1 (n := Opl.idv (M := cBool) (xs := x5_1) (j := (rd l0 x12_1)) (v := pv2) h2 rfl rfl (by omega) (by omega) K91 Z4 rfl rfl ?_))))))
  rintro d1 z1 q2 h4 h5
  refine Opl.stv (M := cBool) (xs := x5_1) (j := (rd l0 x12_1)) (y := true) (vs := [.lit (.bool true)]) h4 h5 (by omega) (by omega) rfl rfl (by exact rfl) Z4 rfl rfl rfl rfl ?_
  rw [← q2]
  rintro S h6 u2
  refine Opl.nil (Evr.inBlock (Evr.regionN rfl (Opl.add (k := .i64) (a := x12_1) (b := 1) K3 rfl rfl rfl rfl (Opl.one (v := .lit (.int .i64 (wrap64 (x12_1 + 1)))) rfl rfl rfl (Opl.nil ?_)))))
  exact ih1 _ (by omega) _ _ ⟨by omega, _, _, _, H, ⟨rfl, rfl, rfl, rfl, trivial⟩, h6⟩
theorem loop_example_wholecheck_impl_setOf_at_impl_SetBoth_1.ev {k : Nat} {l0 : List Int} {v0 : PV} (hv0 : Sl (cInt .i64) l0 v0) {l1 : List Int} {v1 : PV} (hv1 : Sl (cInt .i64) l1 v1) {r : (List Int)} (H : loop_example_wholecheck_impl_setOf_at_impl_SetBoth_1.f k l0 l1 = some r) : Ret Try.prog 64 [v0, v1, .lit (.func (.func 78) #[] #[])] fun v S => Vec (cInt .i64) r v S := by
 unfold loop_example_wholecheck_impl_setOf_at_impl_SetBoth_1.f at H
 refine Ret.intro Try.func64 rfl (Nat.le_of_ble_eq_true rfl) rfl ?_
 rw [tm3]
 refine Evr.sr rfl (Opl.p1 (n := Opl.nil (Evr.seq (Evr.seq ?_))))
 refine Evr.join (fun tm S => ∃ (kq1 : Nat) (x18_1 : Bool), loop_example_wholecheck_impl_setOf_at_impl_SetBoth_1.j0 kq1 l0 l1 x18_1 = some r ∧ Has tm [(0, v0), (1, v1), (2, .lit (.func (.func 78) #[] #[])), (18, .lit (.bool x18_1))]) ?_ fun hk1 => ?_
 ·
  rintro tm S ⟨kq1, x18_1, H, hh⟩
  rw [hh.eq]
  obtain _ | k1 := kq1
  · simp [loop_example_wholecheck_impl_setOf_at_impl_SetBoth_1.j0] at H
  simp only [loop_example_wholecheck_impl_setOf_at_impl_SetBoth_1.j0] at H
  by_cases c1 : x18_1 = true
  case pos =>
   rw [if_pos c1] at H
   obtain rfl : x18_1 = true := by simpa using c1
   refine Evr.condT rfl (Evr.sr rfl (Opl.p1 (n := Opl.nil ?_)))
   obtain rfl := sinj H
   refine Evr.ret1 Try.func64 rfl ?_
   show Vec _ _ (.lit (.slice none 0 0)) _
   exact .nil
  rw [if_neg c1] at H
  obtain rfl : x18_1 = false := by simpa using c1
  refine Evr.condF rfl (Evr.skip (Evr.sr rfl (Opl.p1 (n := ?_))))
  obtain ⟨t929, h_t929, H⟩ := obs H
  refine Opl.call ((impl_marks.ev hv0 h_t929).mono fun _ _ h => Out.vec h) rfl rfl rfl rfl ⟨hv0.plain, (.lit _), trivial⟩ (by decide) ?_
  rintro pv1 h1
  refine Opl.p1 (n := ?_)
  obtain ⟨t932, h_t932, H⟩ := obs H
  refine Opl.call ((impl_marks.ev hv1 h_t932).mono fun _ _ h => Out.vec h) rfl rfl rfl rfl ⟨hv1.plain, (.lit _), trivial⟩ (by decide) ?_
  rintro pv2 h2
  refine Opl.p1 (n := Opl.p1 (n := Opl.nil (Evr.sr rfl ?_)))
  obtain ⟨c2, H⟩ := peel H
  obtain ⟨y935, hy_, H⟩ := obs H
  obtain rfl := Option.some.inj hy_
  refine Opl.make (M := cBool) (m := (400 : Int)) false (by exact rfl) rfl rfl K91 T4 rfl (by omega) (by show ((400 : Int)).toNat * 1 ≤ 281474976710656; omega) (by omega) rfl rfl rfl ?_
  rintro pv3 S h3 u1 w1
  refine Opl.p1 (n := Opl.nil (Evr.seq (Evr.sr rfl (Opl.p1 (n := Opl.lenv (xs := (List.replicate (400 : Int).toNat false)) (by exact h3) K91 rfl rfl rfl rfl (Opl.p1 (n := Opl.nil (Evr.block ?_))))))))
  refine Evr.loop (Evr.rounds (n := k1) (Inv := fun n tm S => n ≤ k1 ∧ ∃ (x9_1 : List Bool) (x26_1 : Int) (pv4 : PV), loop_example_wholecheck_impl_setOf_at_impl_SetBoth_1.l0 n t929 t932 x9_1 ((List.replicate 400 false : List Bool).length : Int) x26_1 = some r ∧ Has tm [(2, .lit (.func (.func 78) #[] #[])), (7, pv1), (8, pv2), (9, pv4), (25, .lit (.int .i64 ((List.replicate (400 : Int).toNat false).length : Int))), (26, .lit (.int .i64 x26_1))] ∧ Vec cBool x9_1 pv4 S) ?_ ?_ ?_)
  · exact ⟨Nat.le_refl _, _, _, _, H, ⟨rfl, rfl, rfl, rfl, rfl, rfl, trivial⟩, h3⟩
  ·
   rintro tm S ⟨_, _, _, _, H, -⟩
   simp [loop_example_wholecheck_impl_setOf_at_impl_SetBoth_1.l0] at H
  ·
   rintro n1 ih1 tm S ⟨hle, x9_1, x26_1, pv4, H, hh, h4⟩
   simp only [loop_example_wholecheck_impl_setOf_at_impl_SetBoth_1.l0] at H
   rw [hh.eq]
   refine Evr.sr rfl (Opl.p1 (n := Opl.nil (Evr.seq ?_)))
   by_cases c3 : x26_1 < ((List.replicate 400 false : List Bool).length : Int)
   case neg =>
    rw [if_neg c3] at H
    have e2 : (decide (x26_1 < ((List.replicate (400 : Int).toNat false).length : Int))) = false := by simpa using c3
    try rw [e2]
    refine Evr.condF rfl (Evr.exit rfl (Evr.sr rfl (Opl.p1 (n := ?_))))
    obtain ⟨t942, h_t942, H⟩ := obs H
    obtain ⟨pv5, h10, -, h11⟩ := Out.vec h4
    refine Opl.callav (sInt .i64) (impl_listOf.ev h11 h_t942) rfl rfl rfl (.cons h10 .nil) ⟨h11.plain, trivial⟩ rfl ?_
    rintro pv6 S h12 u3 w2
    have ap1 := w2.vec h4
    have h13 := u3.vec h4 ap1
    refine Opl.p1 (n := Opl.nil ?_)
    obtain rfl := sinj H
    refine Evr.ret1 Try.func64 rfl ?_
    show Vec _ _ pv6 _
    exact h12
   rw [if_pos c3] at H
   have e1 : (decide (x26_1 < ((List.replicate (400 : Int).toNat false).length : Int))) = true := by simpa using c3
   try rw [e1]
   refine Evr.condT rfl (Evr.skip (Evr.seq (Evr.block (Evr.sr rfl (Opl.p1 (n := Opl.p1 (n := Opl.nil (Evr.regionD rfl (by kernel_rfl) (Opl.p1 (n := Opl.p1 (n := Opl.p1 (n := Opl.p1 (n := Opl.p1 (n := ?_))))))))))))))
   obtain ⟨c4, H⟩ := peel H
   obtain ⟨c5, H⟩ := peel H
   obtain ⟨c6, H⟩ := peel H
   refine Opl.idx (M := cBool) (xs := t929) (j := x26_1) false (by exact h1) rfl (by omega) (by omega) K91 Z4 rfl rfl ?_
   rintro p1 q1 h5
   obtain rfl : p1 = [.lit (.bool (rdOf false t929 x26_1))] := h5
   refine Opl.lda (.lit (.bool (rdOf false t929 x26_1))) rfl T4 rfl rfl rfl rfl (Opl.p1 (n := Opl.p1 (n := Opl.idx (M := cBool) (xs := t932) (j := x26_1) false (by exact h2) rfl (by omega) (by omega) K91 Z4 rfl rfl ?_)))
   rintro p2 q2 h6
   obtain rfl : p2 = [.lit (.bool (rdOf false t932 x26_1))] := h6
   refine Opl.lda (.lit (.bool (rdOf false t932 x26_1))) rfl T4 rfl rfl rfl rfl ?_
   obtain ⟨t940, h_t940, H⟩ := obs H
   refine Opl.callc (impl_SetBoth_1.ev h_t940) rfl rfl rfl rfl ⟨(.lit _), (.lit _), trivial⟩ (by decide) ?_
   obtain ⟨c7, H⟩ := peel H
   refine Opl.idv (M := cBool) (xs := x9_1) (j := x26_1) (v := pv4) h4 rfl rfl (by omega) (by omega) K91 Z4 rfl rfl ?_
   rintro d1 z1 q3 h7 h8
   refine Opl.stv (M := cBool) (xs := x9_1) (j := x26_1) (y := t940) (vs := [.lit (.bool t940)]) h7 h8 (by omega) (by omega) rfl rfl (by exact rfl) Z4 rfl rfl rfl rfl ?_
   rw [← q3]
   rintro S h9 u2
   refine Opl.nil (Evr.inBlock (Evr.regionN rfl (Opl.add (k := .i64) (a := x26_1) (b := 1) K3 rfl rfl rfl rfl (Opl.one (v := .lit (.int .i64 (wrap64 (x26_1 + 1)))) rfl rfl rfl (Opl.nil ?_)))))
   exact ih1 _ (by omega) _ _ ⟨by omega, _, _, _, H, ⟨rfl, rfl, rfl, rfl, rfl, rfl, trivial⟩, h9⟩
 ·
  refine Evr.regionN rfl (Opl.p1 (n := ?_))
  obtain ⟨t927, h_t927, H⟩ := obs H
  refine Opl.callc (impl_setOk.ev hv0 h_t927) rfl rfl rfl rfl ⟨hv0.plain, (.lit _), trivial⟩ (by decide) (Opl.p1 (n := Opl.p1 (n := ?_)))
  by_cases c8 : t927 = true
  case neg =>
   rw [if_neg c8] at H
   have e4 : (!t927) = true := by simpa using c8
   try rw [e4]
   refine Opl.sk2 rfl rfl (Opl.skp rfl (Opl.p1 (n := Opl.nil ?_)))
   exact hk1 _ _ ⟨_, _, H, ⟨rfl, rfl, rfl, (by first | rfl | (show PV.lit (.bool _) = _; congr 2; simp_all)), trivial⟩⟩
  rw [if_pos c8] at H
  have e3 : (!t927) = false := by simpa using c8
  try rw [e3]
  refine Opl.p1 (n := ?_)
  obtain ⟨t928, h_t928, H⟩ := obs H
  refine Opl.callc (impl_setOk.ev hv1 h_t928) rfl rfl rfl rfl ⟨hv1.plain, (.lit _), trivial⟩ (by decide) (Opl.p1 (n := Opl.p1 (n := Opl.nil ?_)))
  exact hk1 _ _ ⟨_, _, H, ⟨rfl, rfl, rfl, (by first | rfl | (show PV.lit (.bool _) = _; congr 2; simp_all)), trivial⟩⟩
theorem impl_SetBoth.ev {k : Nat} {l0 : List Int} {v0 : PV} (hv0 : Sl (cInt .i64) l0 v0) {l1 : List Int} {v1 : PV} (hv1 : Sl (cInt .i64) l1 v1) {r : (List Int)} (H : impl_SetBoth.f k l0 l1 = some r) : Ret Try.prog 21 [v0, v1] fun v S => Vec (cInt .i64) r v S := by
 unfold impl_SetBoth.f at H
 refine Ret.intro Try.func21 rfl (Nat.le_of_ble_eq_true rfl) rfl ?_
 rw [tm2]
 refine Evr.sr rfl (Opl.p1 (n := Opl.nil (Evr.sr rfl (Opl.p1 (n := Opl.p1 (n := ?_))))))
 obtain ⟨t945, h_t945, H⟩ := obs H
 refine Opl.calla (loop_example_wholecheck_impl_setOf_at_impl_SetBoth_1.ev hv0 hv1 h_t945) rfl rfl rfl rfl ⟨hv0.plain, hv1.plain, (.lit _), trivial⟩ rfl ?_
 rintro pv1 S h1 u1 w1
 refine Opl.p1 (n := Opl.nil ?_)
 obtain rfl := sinj H
 refine Evr.ret1 Try.func21 rfl ?_
 show Vec _ _ pv1 _
 exact h1
theorem impl_SetWithout_1.ev {a0 : Bool} {a1 : Bool} {r : Bool} (H : impl_SetWithout_1.f a0 a1 = some r) : Ret Try.prog 69 [.lit (.bool a0), .lit (.bool a1)] fun v S => v = .lit (.bool r) := by
 unfold impl_SetWithout_1.f at H
 refine Ret.intro Try.func69 rfl (Nat.le_of_ble_eq_true rfl) rfl ?_
 rw [tm2]
 refine Evr.sr rfl (Opl.p1 (n := Opl.nil (Evr.sr rfl (Opl.p1 (n := Opl.p1 (n := ?_))))))
 by_cases c1 : a0 = true
 case pos =>
  rw [if_pos c1] at H
  obtain rfl : a0 = true := by simpa using c1
  refine Opl.p1 (n := Opl.p1 (n := Opl.p1 (n := Opl.p1 (n := Opl.nil ?_))))
  obtain rfl := sinj H
  refine Evr.ret1 Try.func69 rfl ?_
  show (.lit (.bool (!a1)) : PV) = _
  first | rfl | (simp only [go_sem]; rfl)
 rw [if_neg c1] at H
 obtain rfl : a0 = false := by simpa using c1
 refine Opl.sk2 rfl rfl (Opl.p1 (n := Opl.p1 (n := Opl.nil ?_)))
 obtain rfl := sinj H
 refine Evr.ret1 Try.func69 rfl ?_
 show (.lit (.bool false) : PV) = _
 first | rfl | (simp only [go_sem]; rfl)
theorem loop_example_wholecheck_impl_setOf_at_impl_SetWithout_1.ev {k : Nat} {l0 : List Int} {v0 : PV} (hv0 : Sl (cInt .i64) l0 v0) {l1 : List Int} {v1 : PV} (hv1 : Sl (cInt .i64) l1 v1) {r : (List Int)} (H : loop_example_wholecheck_impl_setOf_at_impl_SetWithout_1.f k l0 l1 = some r) : Ret Try.prog 64 [v0, v1, .lit (.func (.func 69) #[] #[])] fun v S => Vec (cInt .i64) r v S := by
 unfold loop_example_wholecheck_impl_setOf_at_impl_SetWithout_1.f at H
 refine Ret.intro Try.func64 rfl (Nat.le_of_ble_eq_true rfl) rfl ?_
 rw [tm3]
 refine Evr.sr rfl (Opl.p1 (n := Opl.nil (Evr.seq (Evr.seq ?_))))
 refine Evr.join (fun tm S => ∃ (kq1 : Nat) (x18_1 : Bool), loop_example_wholecheck_impl_setOf_at_impl_SetWithout_1.j0 kq1 l0 l1 x18_1 = some r ∧ Has tm [(0, v0), (1, v1), (2, .lit (.func (.func 69) #[] #[])), (18, .lit (.bool x18_1))]) ?_ fun hk1 => ?_
 ·
  rintro tm S ⟨kq1, x18_1, H, hh⟩
  rw [hh.eq]
  obtain _ | k1 := kq1
  · simp [loop_example_wholecheck_impl_setOf_at_impl_SetWithout_1.j0] at H
  simp only [loop_example_wholecheck_impl_setOf_at_impl_SetWithout_1.j0] at H
  by_cases c1 : x18_1 = true
  case pos =>
   rw [if_pos c1] at H
   obtain rfl : x18_1 = true := by simpa using c1
   refine Evr.condT rfl (Evr.sr rfl (Opl.p1 (n := Opl.nil ?_)))
   obtain rfl := sinj H
   refine Evr.ret1 Try.func64 rfl ?_
   show Vec _ _ (.lit (.slice none 0 0)) _
   exact .nil
  rw [if_neg c1] at H
  obtain rfl : x18_1 = false := by simpa using c1
  refine Evr.condF rfl (Evr.skip (Evr.sr rfl (Opl.p1 (n := ?_))))
  obtain ⟨t861, h_t861, H⟩ := obs H
  refine Opl.call ((impl_marks.ev hv0 h_t861).mono fun _ _ h => Out.vec h) rfl rfl rfl rfl ⟨hv0.plain, (.lit _), trivial⟩ (by decide) ?_
  rintro pv1 h1
  refine Opl.p1 (n := ?_)
  obtain ⟨t864, h_t864, H⟩ := obs H
  refine Opl.call ((impl_marks.ev hv1 h_t864).mono fun _ _ h => Out.vec h) rfl rfl rfl rfl ⟨hv1.plain, (.lit _), trivial⟩ (by decide) ?_
  rintro pv2 h2
  refine Opl.p1 (n := Opl.p1 (n := Opl.nil (Evr.sr rfl ?_)))
  obtain ⟨c2, H⟩ := peel H
  obtain ⟨y867, hy_, H⟩ := obs H
  obtain rfl := Option.some.inj hy_
  refine Opl.make (M := cBool) (m := (400 : Int)) false (by exact rfl) rfl rfl K91 T4 rfl (by omega) (by show ((400 : Int)).toNat * 1 ≤ 281474976710656; omega) (by omega) rfl rfl rfl ?_
  rintro pv3 S h3 u1 w1
  refine Opl.p1 (n := Opl.nil (Evr.seq (Evr.sr rfl (Opl.p1 (n := Opl.lenv (xs := (List.replicate (400 : Int).toNat false)) (by exact h3) K91 rfl rfl rfl rfl (Opl.p1 (n := Opl.nil (Evr.block ?_))))))))
  refine Evr.loop (Evr.rounds (n := k1) (Inv := fun n tm S => n ≤ k1 ∧ ∃ (x9_1 : List Bool) (x26_1 : Int) (pv4 : PV), loop_example_wholecheck_impl_setOf_at_impl_SetWithout_1.l0 n t861 t864 x9_1 ((List.replicate 400 false : List Bool).length : Int) x26_1 = some r ∧ Has tm [(2, .lit (.func (.func 69) #[] #[])), (7, pv1), (8, pv2), (9, pv4), (25, .lit (.int .i64 ((List.replicate (400 : Int).toNat false).length : Int))), (26, .lit (.int .i64 x26_1))] ∧ Vec cBool x9_1 pv4 S) ?_ ?_ ?_)
  · exact ⟨Nat.le_refl _, _, _, _, H, ⟨rfl, rfl, rfl, rfl, rfl, rfl, trivial⟩, h3⟩
  ·
   rintro tm S ⟨_, _, _, _, H, -⟩
   simp [loop_example_wholecheck_impl_setOf_at_impl_SetWithout_1.l0] at H
  ·
   rintro n1 ih1 tm S ⟨hle, x9_1, x26_1, pv4, H, hh, h4⟩
   simp only [loop_example_wholecheck_impl_setOf_at_impl_SetWithout_1.l0] at H
   rw [hh.eq]
   refine Evr.sr rfl (Opl.p1 (n := Opl.nil (Evr.seq ?_)))
   by_cases c3 : x26_1 < ((List.replicate 400 false : List Bool).length : Int)
   case neg =>
    rw [if_neg c3] at H
    have e2 : (decide (x26_1 < ((List.replicate (400 : Int).toNat false).length : Int))) = false := by simpa using c3
    try rw [e2]
    refine Evr.condF rfl (Evr.exit rfl (Evr.sr rfl (Opl.p1 (n := ?_))))
    obtain ⟨t874, h_t874, H⟩ := obs H
    obtain ⟨pv5, h10, -, h11⟩ := Out.vec h4
    refine Opl.callav (sInt .i64) (impl_listOf.ev h11 h_t874) rfl rfl rfl (.cons h10 .nil) ⟨h11.plain, trivial⟩ rfl ?_
    rintro pv6 S h12 u3 w2
    have ap1 := w2.vec h4
    have h13 := u3.vec h4 ap1
    refine Opl.p1 (n := Opl.nil ?_)
    obtain rfl := sinj H
    refine Evr.ret1 Try.func64 rfl ?_
    show Vec _ _ pv6 _
    exact h12
   rw [if_pos c3] at H
   have e1 : (decide (x26_1 < ((List.replicate (400 : Int).toNat false).length : Int))) = true := by simpa using c3
   try rw [e1]
   refine Evr.condT rfl (Evr.skip (Evr.seq (Evr.block (Evr.sr rfl (Opl.p1 (n := Opl.p1 (n := Opl.nil (Evr.regionD rfl (by kernel_rfl) (Opl.p1 (n := Opl.p1 (n := Opl.p1 (n := Opl.p1 (n := Opl.p1 (n := ?_))))))))))))))
   obtain ⟨c4, H⟩ := peel H
   obtain ⟨c5, H⟩ := peel H
   obtain ⟨c6, H⟩ := peel H
   refine Opl.idx (M := cBool) (xs := t861) (j := x26_1) false (by exact h1) rfl (by omega) (by omega) K91 Z4 rfl rfl ?_
   rintro p1 q1 h5
   obtain rfl : p1 = [.lit (.bool (rdOf false t861 x26_1))] := h5
   refine Opl.lda (.lit (.bool (rdOf false t861 x26_1))) rfl T4 rfl rfl rfl rfl (Opl.p1 (n := Opl.p1 (n := Opl.idx (M := cBool) (xs := t864) (j := x26_1) false (by exact h2) rfl (by omega) (by omega) K91 Z4 rfl rfl ?_)))
   rintro p2 q2 h6
   obtain rfl : p2 = [.lit (.bool (rdOf false t864 x26_1))] := h6
   refine Opl.lda (.lit (.bool (rdOf false t864 x26_1))) rfl T4 rfl rfl rfl rfl ?_
   obtain ⟨t872, h_t872, H⟩ := obs H
   refine Opl.callc (impl_SetWithout_1.ev h_t872) rfl rfl rfl rfl ⟨(.lit _), (.lit _), trivial⟩ (by decide) ?_
   obtain ⟨c7, H⟩ := peel H
   refine Opl.idv (M := cBool) (xs := x9_1) (j := x26_1) (v := pv4) h4 rfl rfl (by omega) (by omega) K91 Z4 rfl rfl ?_
   rintro d1 z1 q3 h7 h8
   refine Opl.stv (M := cBool) (xs := x9_1) (j := x26_1) (y := t872) (vs := [.lit (.bool t872)]) h7 h8 (by omega) (by omega) rfl rfl (by exact rfl) Z4 rfl rfl rfl rfl ?_
   rw [← q3]
   rintro S h9 u2
   refine Opl.nil (Evr.inBlock (Evr.regionN rfl (Opl.add (k := .i64) (a := x26_1) (b := 1) K3 rfl rfl rfl rfl (Opl.one (v := .lit (.int .i64 (wrap64 (x26_1 + 1)))) rfl rfl rfl (Opl.nil ?_)))))
   exact ih1 _ (by omega) _ _ ⟨by omega, _, _, _, H, ⟨rfl, rfl, rfl, rfl, rfl, rfl, trivial⟩, h9⟩
 ·
  refine Evr.regionN rfl (Opl.p1 (n := ?_))
  obtain ⟨t859, h_t859, H⟩ := obs H
  refine Opl.callc (impl_setOk.ev hv0 h_t859) rfl rfl rfl rfl ⟨hv0.plain, (.lit _), trivial⟩ (by decide) (Opl.p1 (n := Opl.p1 (n := ?_)))
  by_cases c8 : t859 = true
  case neg =>
   rw [if_neg c8] at H
   have e4 : (!t859) = true := by simpa using c8
   try rw [e4]
   refine Opl.sk2 rfl rfl (Opl.skp rfl (Opl.p1 (n := Opl.nil ?_)))
   exact hk1 _ _ ⟨_, _, H, ⟨rfl, rfl, rfl, (by first | rfl | (show PV.lit (.bool _) = _; congr 2; simp_all)), trivial⟩⟩
  rw [if_pos c8] at H
  have e3 : (!t859) = false := by simpa using c8
  try rw [e3]
  refine Opl.p1 (n := ?_)
  obtain ⟨t860, h_t860, H⟩ := obs H
  refine Opl.callc (impl_setOk.ev hv1 h_t860) rfl rfl rfl rfl ⟨hv1.plain, (.lit _), trivial⟩ (by decide) (Opl.p1 (n := Opl.p1 (n := Opl.nil ?_)))
  exact hk1 _ _ ⟨_, _, H, ⟨rfl, rfl, rfl, (by first | rfl | (show PV.lit (.bool _) = _; congr 2; simp_all)), trivial⟩⟩
theorem impl_SetWithout.ev {k : Nat} {l0 : List Int} {v0 : PV} (hv0 : Sl (cInt .i64) l0 v0) {l1 : List Int} {v1 : PV} (hv1 : Sl (cInt .i64) l1 v1) {r : (List Int)} (H : impl_SetWithout.f k l0 l1 = some r) : Ret Try.prog 17 [v0, v1] fun v S => Vec (cInt .i64) r v S := by
 unfold impl_SetWithout.f at H
 refine Ret.intro Try.func17 rfl (Nat.le_of_ble_eq_true rfl) rfl ?_
 rw [tm2]
 refine Evr.sr rfl (Opl.p1 (n := Opl.nil (Evr.sr rfl (Opl.p1 (n := Opl.p1 (n := ?_))))))
 obtain ⟨t877, h_t877, H⟩ := obs H
 refine Opl.calla (loop_example_wholecheck_impl_setOf_at_impl_SetWithout_1.ev hv0 hv1 h_t877) rfl rfl rfl rfl ⟨hv0.plain, hv1.plain, (.lit _), trivial⟩ rfl ?_
 rintro pv1 S h1 u1 w1
 refine Opl.p1 (n := Opl.nil ?_)
 obtain rfl := sinj H
 refine Evr.ret1 Try.func17 rfl ?_
 show Vec _ _ pv1 _
 exact h1
end Go.Proofs.Ytpjmiaooogephaa.PA
end
