/- Walks of Go functions: each is shown to answer as the Lean function beside it tells, under the conditions that its theorem names. -/
import Derived.Test.YtpbpmfckmgcdfaaDoorProg
import Derived.KernelRfl
import Derived.Below
import Derived.Deep.Draws
import Derived.Deep.AppendLies
import Derived.Maps.AppendAt
import Derived.OwnWalk
import Derived.Laws.BytesArg
import Derived.Laws.MakeOwn
import Derived.Laws.OwnMore
import Derived.Deep.OwnRows
import Derived.Tactics
import Derived.Lib.ConvBytes
import Derived.Laws.Slices
import Derived.WalkKit
import Derived.RowKit3
import Derived.Deep.LoopGhost
import Derived.Deep.QuietTactic
import Derived.BigQuiet
import Derived.WideLaws
import Derived.Deep.DeepCutAuto
import Derived.Deep.CutBlock
import Derived.Deep.RegionHeld3
import Derived.Laws.Rows
import Derived.Lib.AppendStr
import Derived.ArgAppend
import Derived.Laws.IdiomCopy
import Derived.OrdersHeld
import Derived.Laws.BitsLemmas
import Derived.RowKit
import Derived.Laws.StructEq
import Derived.Lib.SliceRun
import Derived.WalkSpells
import Derived.ChangeArms
import Derived.ChangeSlices
import Derived.Deep.Slices
import Derived.Attr
import Derived.Laws.Append
import Derived.Laws.AppendOwn
import Derived.Laws.Entries
import Derived.Calls
import Derived.Laws.Sem
import Derived.Test.YtpbpmfckmgcdfaaDoorKW042e16c87c
import Derived.Test.YtpbpmfckmgcdfaaDoorKDbb676a14e4
section
namespace Go.Proofs.YtpbpmfckmgcdfaaDoor.PA
open Go Go.Abs Go.RowKit Go.Proofs Go.Proofs.YtpbpmfckmgcdfaaDoorW.PrintWords Go.Proofs.YtpbpmfckmgcdfaaDoorW.PrintLast Go.Proofs.YtpbpmfckmgcdfaaDoorW.PrintMore
set_option maxRecDepth 100000
theorem K2 : tkAt Tryd.prog 2 = some (.int .i64) := by kernel_rfl
theorem Z2 : szAt Tryd.prog 2 = some 1 := by kernel_rfl
theorem T2 : tiOf Tryd.prog 2 = some ⟨(.int .i64), 1, 8, [.int .i64 0], []⟩ := by kernel_rfl
theorem K3 : tkAt Tryd.prog 3 = some (.int .i64) := by kernel_rfl
theorem Z3 : szAt Tryd.prog 3 = some 1 := by kernel_rfl
theorem T3 : tiOf Tryd.prog 3 = some ⟨(.int .i64), 1, 8, [.int .i64 0], []⟩ := by kernel_rfl
theorem K4 : tkAt Tryd.prog 4 = some .bool := by kernel_rfl
theorem Z4 : szAt Tryd.prog 4 = some 1 := by kernel_rfl
theorem T4 : tiOf Tryd.prog 4 = some ⟨.bool, 1, 1, [.bool false], []⟩ := by kernel_rfl
theorem K5 : tkAt Tryd.prog 5 = some (.int .u8) := by kernel_rfl
theorem Z5 : szAt Tryd.prog 5 = some 1 := by kernel_rfl
theorem T5 : tiOf Tryd.prog 5 = some ⟨(.int .u8), 1, 1, [.int .u8 0], []⟩ := by kernel_rfl
theorem K9 : tkAt Tryd.prog 9 = some .str := by kernel_rfl
theorem Z9 : szAt Tryd.prog 9 = some 1 := by kernel_rfl
theorem T9 : tiOf Tryd.prog 9 = some ⟨.str, 1, 16, [.string ("".toUTF8)], []⟩ := by kernel_rfl
theorem K22 : tkAt Tryd.prog 22 = some (.slice 55) := by kernel_rfl
theorem Z22 : szAt Tryd.prog 22 = some 1 := by kernel_rfl
theorem T22 : tiOf Tryd.prog 22 = some ⟨(.slice 55), 1, 24, [.slice none 0 0], []⟩ := by kernel_rfl
theorem K23 : tkAt Tryd.prog 23 = some (.slice 50) := by kernel_rfl
theorem Z23 : szAt Tryd.prog 23 = some 1 := by kernel_rfl
theorem T23 : tiOf Tryd.prog 23 = some ⟨(.slice 50), 1, 24, [.slice none 0 0], []⟩ := by kernel_rfl
theorem K25 : tkAt Tryd.prog 25 = some .strct := by kernel_rfl
theorem Z25 : szAt Tryd.prog 25 = some 2 := by kernel_rfl
theorem T25 : tiOf Tryd.prog 25 = some ⟨.strct, 2, 48, [.slice none 0 0, .slice none 0 0], [⟨0, 1, (.slice 55)⟩, ⟨1, 1, (.slice 50)⟩]⟩ := by kernel_rfl
theorem K28 : tkAt Tryd.prog 28 = some (.slice 53) := by kernel_rfl
theorem Z28 : szAt Tryd.prog 28 = some 1 := by kernel_rfl
theorem T28 : tiOf Tryd.prog 28 = some ⟨(.slice 53), 1, 24, [.slice none 0 0], []⟩ := by kernel_rfl
theorem K29 : tkAt Tryd.prog 29 = some (.slice 59) := by kernel_rfl
theorem Z29 : szAt Tryd.prog 29 = some 1 := by kernel_rfl
theorem T29 : tiOf Tryd.prog 29 = some ⟨(.slice 59), 1, 24, [.slice none 0 0], []⟩ := by kernel_rfl
theorem K31 : tkAt Tryd.prog 31 = some .strct := by kernel_rfl
theorem Z31 : szAt Tryd.prog 31 = some 2 := by kernel_rfl
theorem T31 : tiOf Tryd.prog 31 = some ⟨.strct, 2, 48, [.slice none 0 0, .slice none 0 0], [⟨0, 1, (.slice 53)⟩, ⟨1, 1, (.slice 59)⟩]⟩ := by kernel_rfl
theorem K37 : tkAt Tryd.prog 37 = some (.slice 3) := by kernel_rfl
theorem Z37 : szAt Tryd.prog 37 = some 1 := by kernel_rfl
theorem T37 : tiOf Tryd.prog 37 = some ⟨(.slice 3), 1, 24, [.slice none 0 0], []⟩ := by kernel_rfl
theorem K47 : tkAt Tryd.prog 47 = some (.slice 88) := by kernel_rfl
theorem Z47 : szAt Tryd.prog 47 = some 1 := by kernel_rfl
theorem T47 : tiOf Tryd.prog 47 = some ⟨(.slice 88), 1, 24, [.slice none 0 0], []⟩ := by kernel_rfl
theorem K48 : tkAt Tryd.prog 48 = some (.slice 47) := by kernel_rfl
theorem Z48 : szAt Tryd.prog 48 = some 1 := by kernel_rfl
theorem T48 : tiOf Tryd.prog 48 = some ⟨(.slice 47), 1, 24, [.slice none 0 0], []⟩ := by kernel_rfl
theorem K50 : tkAt Tryd.prog 50 = some .strct := by kernel_rfl
theorem Z50 : szAt Tryd.prog 50 = some 3 := by kernel_rfl
theorem T50 : tiOf Tryd.prog 50 = some ⟨.strct, 3, 72, [.slice none 0 0, .slice none 0 0, .slice none 0 0], [⟨0, 1, (.slice 88)⟩, ⟨1, 1, (.slice 3)⟩, ⟨2, 1, (.slice 47)⟩]⟩ := by kernel_rfl
theorem K51 : tkAt Tryd.prog 51 = some (.slice 5) := by kernel_rfl
theorem Z51 : szAt Tryd.prog 51 = some 1 := by kernel_rfl
theorem T51 : tiOf Tryd.prog 51 = some ⟨(.slice 5), 1, 24, [.slice none 0 0], []⟩ := by kernel_rfl
theorem K53 : tkAt Tryd.prog 53 = some .strct := by kernel_rfl
theorem Z53 : szAt Tryd.prog 53 = some 3 := by kernel_rfl
theorem T53 : tiOf Tryd.prog 53 = some ⟨.strct, 3, 24, [.int .i64 0, .int .i64 0, .int .i64 0], [⟨0, 1, (.int .i64)⟩, ⟨1, 1, (.int .i64)⟩, ⟨2, 1, (.int .i64)⟩]⟩ := by kernel_rfl
theorem K55 : tkAt Tryd.prog 55 = some .strct := by kernel_rfl
theorem Z55 : szAt Tryd.prog 55 = some 3 := by kernel_rfl
theorem T55 : tiOf Tryd.prog 55 = some ⟨.strct, 3, 24, [.int .i64 0, .int .i64 0, .int .i64 0], [⟨0, 1, (.int .i64)⟩, ⟨1, 1, (.int .i64)⟩, ⟨2, 1, (.int .i64)⟩]⟩ := by kernel_rfl
theorem K56 : tkAt Tryd.prog 56 = some (.slice 86) := by kernel_rfl
theorem Z56 : szAt Tryd.prog 56 = some 1 := by kernel_rfl
theorem T56 : tiOf Tryd.prog 56 = some ⟨(.slice 86), 1, 24, [.slice none 0 0], []⟩ := by kernel_rfl
theorem K57 : tkAt Tryd.prog 57 = some (.slice 56) := by kernel_rfl
theorem Z57 : szAt Tryd.prog 57 = some 1 := by kernel_rfl
theorem T57 : tiOf Tryd.prog 57 = some ⟨(.slice 56), 1, 24, [.slice none 0 0], []⟩ := by kernel_rfl
theorem K59 : tkAt Tryd.prog 59 = some .strct := by kernel_rfl
theorem Z59 : szAt Tryd.prog 59 = some 3 := by kernel_rfl
theorem T59 : tiOf Tryd.prog 59 = some ⟨.strct, 3, 72, [.slice none 0 0, .slice none 0 0, .slice none 0 0], [⟨0, 1, (.slice 86)⟩, ⟨1, 1, (.slice 3)⟩, ⟨2, 1, (.slice 56)⟩]⟩ := by kernel_rfl
theorem K63 : tkAt Tryd.prog 63 = some .func := by kernel_rfl
theorem Z63 : szAt Tryd.prog 63 = some 1 := by kernel_rfl
theorem T63 : tiOf Tryd.prog 63 = some ⟨.func, 1, 8, [.nilFunc], []⟩ := by kernel_rfl
theorem K67 : tkAt Tryd.prog 67 = some .func := by kernel_rfl
theorem Z67 : szAt Tryd.prog 67 = some 1 := by kernel_rfl
theorem T67 : tiOf Tryd.prog 67 = some ⟨.func, 1, 8, [.nilFunc], []⟩ := by kernel_rfl
theorem K86 : tkAt Tryd.prog 86 = some .strct := by kernel_rfl
theorem Z86 : szAt Tryd.prog 86 = some 4 := by kernel_rfl
theorem T86 : tiOf Tryd.prog 86 = some ⟨.strct, 4, 32, [.int .i64 0, .int .i64 0, .int .i64 0, .int .i64 0], [⟨0, 1, (.int .i64)⟩, ⟨1, 1, (.int .i64)⟩, ⟨2, 1, (.int .i64)⟩, ⟨3, 1, (.int .i64)⟩]⟩ := by kernel_rfl
theorem K88 : tkAt Tryd.prog 88 = some .strct := by kernel_rfl
theorem Z88 : szAt Tryd.prog 88 = some 4 := by kernel_rfl
theorem T88 : tiOf Tryd.prog 88 = some ⟨.strct, 4, 32, [.int .i64 0, .int .i64 0, .int .i64 0, .int .i64 0], [⟨0, 1, (.int .i64)⟩, ⟨1, 1, (.int .i64)⟩, ⟨2, 1, (.int .i64)⟩, ⟨3, 1, (.int .i64)⟩]⟩ := by kernel_rfl
theorem K90 : tkAt Tryd.prog 90 = some (.arr 24 5) := by kernel_rfl
theorem Z90 : szAt Tryd.prog 90 = some 24 := by kernel_rfl
theorem T90 : tiOf Tryd.prog 90 = some ⟨(.arr 24 5), 24, 24, [.int .u8 0, .int .u8 0, .int .u8 0, .int .u8 0, .int .u8 0, .int .u8 0, .int .u8 0, .int .u8 0, .int .u8 0, .int .u8 0, .int .u8 0, .int .u8 0, .int .u8 0, .int .u8 0, .int .u8 0, .int .u8 0, .int .u8 0, .int .u8 0, .int .u8 0, .int .u8 0, .int .u8 0, .int .u8 0, .int .u8 0, .int .u8 0], []⟩ := by kernel_rfl
theorem K91 : tkAt Tryd.prog 91 = some (.int .u64) := by kernel_rfl
theorem Z91 : szAt Tryd.prog 91 = some 1 := by kernel_rfl
theorem T91 : tiOf Tryd.prog 91 = some ⟨(.int .u64), 1, 8, [.int .u64 0], []⟩ := by kernel_rfl
def cLVar : Cd LVar := cIso (cPair (cInt .i64) (cPair (cInt .i64) (cInt .i64))) (fun x => (x.f0, x.f1, x.f2))
theorem cLVar_R {x : LVar} {c : List PV} (h : cLVar.R x c) : c = [.lit (.int .i64 x.f0), .lit (.int .i64 x.f1), .lit (.int .i64 x.f2)] := by
  obtain ⟨p0, q0, e0, g0, r0⟩ := h
  obtain ⟨p1, q1, e1, g1, r1⟩ := r0
  have g0' : p0 = _ := g0
  have g1' : p1 = _ := g1
  have g2' : q1 = _ := r1
  rw [e0, g0', e1, g1', g2']; rfl
def cLTerm : Cd LTerm := cIso (cPair (cInt .i64) (cPair (cInt .i64) (cPair (cInt .i64) (cInt .i64)))) (fun x => (x.f0, x.f1, x.f2, x.f3))
theorem cLTerm_R {x : LTerm} {c : List PV} (h : cLTerm.R x c) : c = [.lit (.int .i64 x.f0), .lit (.int .i64 x.f1), .lit (.int .i64 x.f2), .lit (.int .i64 x.f3)] := by
  obtain ⟨p0, q0, e0, g0, r0⟩ := h
  obtain ⟨p1, q1, e1, g1, r1⟩ := r0
  obtain ⟨p2, q2, e2, g2, r2⟩ := r1
  have g0' : p0 = _ := g0
  have g1' : p1 = _ := g1
  have g2' : p2 = _ := g2
  have g3' : q2 = _ := r2
  rw [e0, g0', e1, g1', e2, g2', g3']; rfl
def cLRule : Cd LRule := cIso (cPair (cSl cLTerm) (cPair (cSl (cInt .i64)) (cSl (cSl cLTerm)))) (fun x => (x.f0, x.f1, x.f2))
theorem cLRule_R {x : LRule} {c : List PV} (h : cLRule.R x c) : ∃ v0 v1 v2, c = [v0, v1, v2] ∧ Sl cLTerm x.f0 v0 ∧ Sl (cInt .i64) x.f1 v1 ∧ Sl (cSl cLTerm) x.f2 v2 := by
  obtain ⟨p0, q0, e0, g0, r0⟩ := h
  obtain ⟨p1, q1, e1, g1, r1⟩ := r0
  obtain ⟨v0, g0', s0⟩ := g0
  obtain ⟨v1, g1', s1⟩ := g1
  obtain ⟨v2, g2', s2⟩ := r1
  exact ⟨v0, v1, v2, by rw [e0, g0', e1, g1', g2']; rfl, s0, s1, s2⟩
def cLSystem : Cd LSystem := cIso (cPair (cSl cLVar) (cSl cLRule)) (fun x => (x.f0, x.f1))
theorem cLSystem_R {x : LSystem} {c : List PV} (h : cLSystem.R x c) : ∃ v0 v1, c = [v0, v1] ∧ Sl cLVar x.f0 v0 ∧ Sl cLRule x.f1 v1 := by
  obtain ⟨p0, q0, e0, g0, r0⟩ := h
  obtain ⟨v0, g0', s0⟩ := g0
  obtain ⟨v1, g1', s1⟩ := r0
  exact ⟨v0, v1, by rw [e0, g0', g1']; rfl, s0, s1⟩
def cIVar : Cd IVar := cIso (cPair (cInt .i64) (cPair (cInt .i64) (cInt .i64))) (fun x => (x.f0, x.f1, x.f2))
theorem cIVar_R {x : IVar} {c : List PV} (h : cIVar.R x c) : c = [.lit (.int .i64 x.f0), .lit (.int .i64 x.f1), .lit (.int .i64 x.f2)] := by
  obtain ⟨p0, q0, e0, g0, r0⟩ := h
  obtain ⟨p1, q1, e1, g1, r1⟩ := r0
  have g0' : p0 = _ := g0
  have g1' : p1 = _ := g1
  have g2' : q1 = _ := r1
  rw [e0, g0', e1, g1', g2']; rfl
theorem cIVar_mk {a0 : Int} {a1 : Int} {a2 : Int}  : cIVar.R ⟨a0, a1, a2⟩ [.lit (.int .i64 a0), .lit (.int .i64 a1), .lit (.int .i64 a2)] := ⟨_, _, rfl, rfl, ⟨_, _, rfl, rfl, rfl⟩⟩
theorem cIVar_z : cIVar.R zIVar (([.int .i64 0, .int .i64 0, .int .i64 0] : List Value).map .lit) := ⟨_, _, rfl, rfl, ⟨_, _, rfl, rfl, rfl⟩⟩
def cITerm : Cd ITerm := cIso (cPair (cInt .i64) (cPair (cInt .i64) (cPair (cInt .i64) (cInt .i64)))) (fun x => (x.f0, x.f1, x.f2, x.f3))
theorem cITerm_R {x : ITerm} {c : List PV} (h : cITerm.R x c) : c = [.lit (.int .i64 x.f0), .lit (.int .i64 x.f1), .lit (.int .i64 x.f2), .lit (.int .i64 x.f3)] := by
  obtain ⟨p0, q0, e0, g0, r0⟩ := h
  obtain ⟨p1, q1, e1, g1, r1⟩ := r0
  obtain ⟨p2, q2, e2, g2, r2⟩ := r1
  have g0' : p0 = _ := g0
  have g1' : p1 = _ := g1
  have g2' : p2 = _ := g2
  have g3' : q2 = _ := r2
  rw [e0, g0', e1, g1', e2, g2', g3']; rfl
theorem cITerm_mk {a0 : Int} {a1 : Int} {a2 : Int} {a3 : Int}  : cITerm.R ⟨a0, a1, a2, a3⟩ [.lit (.int .i64 a0), .lit (.int .i64 a1), .lit (.int .i64 a2), .lit (.int .i64 a3)] := ⟨_, _, rfl, rfl, ⟨_, _, rfl, rfl, ⟨_, _, rfl, rfl, rfl⟩⟩⟩
theorem cITerm_z : cITerm.R zITerm (([.int .i64 0, .int .i64 0, .int .i64 0, .int .i64 0] : List Value).map .lit) := ⟨_, _, rfl, rfl, ⟨_, _, rfl, rfl, ⟨_, _, rfl, rfl, rfl⟩⟩⟩
def cIRule : Cd IRule := cIso (cPair (cSl cITerm) (cPair (cSl (cInt .i64)) (cSl (cSl cITerm)))) (fun x => (x.f0, x.f1, x.f2))
theorem cIRule_R {x : IRule} {c : List PV} (h : cIRule.R x c) : ∃ v0 v1 v2, c = [v0, v1, v2] ∧ Sl cITerm x.f0 v0 ∧ Sl (cInt .i64) x.f1 v1 ∧ Sl (cSl cITerm) x.f2 v2 := by
  obtain ⟨p0, q0, e0, g0, r0⟩ := h
  obtain ⟨p1, q1, e1, g1, r1⟩ := r0
  obtain ⟨v0, g0', s0⟩ := g0
  obtain ⟨v1, g1', s1⟩ := g1
  obtain ⟨v2, g2', s2⟩ := r1
  exact ⟨v0, v1, v2, by rw [e0, g0', e1, g1', g2']; rfl, s0, s1, s2⟩
theorem cIRule_mk  {l0 : List ITerm} {v0 : PV} (h0 : Sl cITerm l0 v0) {l1 : List Int} {v1 : PV} (h1 : Sl (cInt .i64) l1 v1) {l2 : List (List ITerm)} {v2 : PV} (h2 : Sl (cSl cITerm) l2 v2) : cIRule.R ⟨l0, l1, l2⟩ [v0, v1, v2] := ⟨_, _, rfl, ⟨_, rfl, h0⟩, ⟨_, _, rfl, ⟨_, rfl, h1⟩, ⟨_, rfl, h2⟩⟩⟩
theorem cIRule_z : cIRule.R zIRule (([.slice none 0 0, .slice none 0 0, .slice none 0 0] : List Value).map .lit) := ⟨_, _, rfl, ⟨_, rfl, .nil⟩, ⟨_, _, rfl, ⟨_, rfl, .nil⟩, ⟨_, rfl, .nil⟩⟩⟩
attribute [go_sem] K2 Z2 T2 K3 Z3 T3 K4 Z4 T4 K5 Z5 T5 K9 Z9 T9 K22 Z22 T22 K23 Z23 T23 K25 Z25 T25 K28 Z28 T28 K29 Z29 T29 K31 Z31 T31 K37 Z37 T37 K47 Z47 T47 K48 Z48 T48 K50 Z50 T50 K51 Z51 T51 K53 Z53 T53 K55 Z55 T55 K56 Z56 T56 K57 Z57 T57 K59 Z59 T59 K63 Z63 T63 K67 Z67 T67 K86 Z86 T86 K88 Z88 T88 K90 Z90 T90 K91 Z91 T91
end Go.Proofs.YtpbpmfckmgcdfaaDoor.PA
end
section
namespace Go.Proofs.YtpbpmfckmgcdfaaDoor.PA
open Go Go.Abs Go.RowKit Go.Proofs Go.Proofs.YtpbpmfckmgcdfaaDoorW.PrintWords Go.Proofs.YtpbpmfckmgcdfaaDoorW.PrintLast Go.Proofs.YtpbpmfckmgcdfaaDoorW.PrintMore
set_option maxRecDepth 100000
set_option maxHeartbeats 4000000
set_option linter.unusedVariables false
set_option linter.unusedSimpArgs false
theorem impl_in.ev {a0 : Int} {a1 : Int} {a2 : Int} {r : Bool} (H : impl_in.f a0 a1 a2 = some r) : Ret Tryd.prog 26 [.lit (.int .i64 a0), .lit (.int .i64 a1), .lit (.int .i64 a2)] fun v S => v = .lit (.bool r) := by
 unfold impl_in.f at H
 refine Ret.intro Tryd.func26 rfl (Nat.le_of_ble_eq_true rfl) rfl ?_
 rw [tm3]
 refine Evr.sr rfl (Opl.p1 (n := Opl.nil (Evr.sr rfl (Opl.p1 (n := Opl.p1 (n := Opl.p1 (n := Opl.p1 (n := ?_))))))))
 by_cases c1 : a0 ≥ a1
 case neg =>
  rw [if_neg c1] at H
  have e2 : (decide (a0 ≥ a1)) = false := by simpa using c1
  try rw [e2]
  refine Opl.skp rfl (Opl.skp rfl (Opl.skp rfl (Opl.p1 (n := Opl.p1 (n := Opl.nil ?_)))))
  obtain rfl := Option.some.inj H
  refine Evr.ret1 Tryd.func26 rfl ?_
  show (.lit (.bool false) : PV) = _
  first | rfl | (simp only [go_sem]; rfl)
 rw [if_pos c1] at H
 have e1 : (decide (a0 ≥ a1)) = true := by simpa using c1
 try rw [e1]
 refine Opl.p1 (n := Opl.p1 (n := Opl.p1 (n := Opl.p1 (n := Opl.p1 (n := Opl.nil ?_)))))
 obtain rfl := Option.some.inj H
 refine Evr.ret1 Tryd.func26 rfl ?_
 show (.lit (.bool (decide (a0 ≤ a2))) : PV) = _
 first | rfl | (simp only [go_sem]; rfl)
theorem impl_size.ev {k : Nat} {l0 : List IVar} {v0 : PV} (hv0 : Sl cIVar l0 v0) {r : Int} (H : impl_size.f k l0 = some r) : Ret Tryd.prog 30 [v0] fun v S => v = .lit (.int .i64 r) := by
 unfold impl_size.f at H
 refine Ret.intro Tryd.func30 rfl (Nat.le_of_ble_eq_true rfl) rfl ?_
 rw [tm1]
 refine Evr.sr rfl (Opl.p1 (n := Opl.nil (Evr.sr rfl (Opl.p1 (n := Opl.nil (Evr.seq (Evr.sr rfl (Opl.p1 (n := Opl.len (xs := l0) (by exact hv0) K28 rfl rfl rfl rfl (Opl.p1 (n := Opl.nil (Evr.block ?_))))))))))))
 refine Evr.loop (Evr.rounds (n := k) (Inv := fun n tm S => n ≤ k ∧ ∃ (x3_1 : Int) (x8_1 : Int), impl_size.l0 n x3_1 l0 (l0.length : Int) x8_1 = some r ∧ Has tm [(3, .lit (.int .i64 x3_1)), (6, v0), (7, .lit (.int .i64 (l0.length : Int))), (8, .lit (.int .i64 x8_1))]) ?_ ?_ ?_)
 · exact ⟨Nat.le_refl _, _, _, H, ⟨rfl, rfl, rfl, rfl, trivial⟩⟩
 ·
  rintro tm S ⟨_, _, _, H, -⟩
  simp [impl_size.l0] at H
 ·
  rintro n1 ih1 tm S ⟨hle, x3_1, x8_1, H, hh⟩
  simp only [impl_size.l0] at H
  rw [hh.eq]
  refine Evr.sr rfl (Opl.p1 (n := Opl.nil (Evr.seq ?_)))
  by_cases c1 : x8_1 < (l0.length : Int)
  case neg =>
   rw [if_neg c1] at H
   have e2 : (decide (x8_1 < (l0.length : Int))) = false := by simpa using c1
   try rw [e2]
   refine Evr.condF rfl (Evr.exit rfl (Evr.sr rfl (Opl.p1 (n := Opl.p1 (n := Opl.nil ?_)))))
   obtain rfl := Option.some.inj H
   refine Evr.ret1 Tryd.func30 rfl ?_
   show (.lit (.int .i64 x3_1) : PV) = _
   first | rfl | (simp only [go_sem]; rfl)
  rw [if_pos c1] at H
  have e1 : (decide (x8_1 < (l0.length : Int))) = true := by simpa using c1
  try rw [e1]
  refine Evr.condT rfl (Evr.skip (Evr.seq (Evr.block (Evr.sr rfl ?_))))
  obtain ⟨c2, H⟩ := peel H
  obtain ⟨c3, H⟩ := peel H
  refine Opl.idx (M := cIVar) (xs := l0) (j := x8_1) zIVar (by exact hv0) rfl (by omega) (by omega) K28 Z53 rfl rfl ?_
  rintro p1 q1 h1
  obtain rfl := cIVar_R (x := (rd_IVar l0 x8_1)) h1
  refine Opl.lda (.agg [.lit (.int .i64 ((rd_IVar l0 x8_1).f0)), .lit (.int .i64 ((rd_IVar l0 x8_1).f1)), .lit (.int .i64 ((rd_IVar l0 x8_1).f2))]) rfl T53 rfl rfl rfl rfl (Opl.alloc T53 rfl rfl rfl ?_)
  rintro i1 S h2 u1 w1
  refine Opl.stb (vs := [.lit (.int .i64 ((rd_IVar l0 x8_1).f0)), .lit (.int .i64 ((rd_IVar l0 x8_1).f1)), .lit (.int .i64 ((rd_IVar l0 x8_1).f2))]) h2 rfl rfl Z53 rfl (Nat.le_of_ble_eq_true rfl) rfl rfl rfl rfl ?_
  rintro S (h3 : Box (.ptr i1 0) [.lit (.int .i64 ((rd_IVar l0 x8_1).f0)), .lit (.int .i64 ((rd_IVar l0 x8_1).f1)), .lit (.int .i64 ((rd_IVar l0 x8_1).f2))] _) u2
  refine Opl.nil (Evr.regionN rfl (Opl.p1 (n := Opl.p1 (v := .ptr i1 1) (n := Opl.ldb (v := .lit (.int .i64 ((rd_IVar l0 x8_1).f1))) h3 rfl T3 rfl rfl rfl rfl (Opl.p1 (v := .ptr i1 0) (n := Opl.ldb (v := .lit (.int .i64 ((rd_IVar l0 x8_1).f0))) h3 rfl T3 rfl rfl rfl rfl (Opl.subi (k := .i64) (a := ((rd_IVar l0 x8_1).f1)) (b := ((rd_IVar l0 x8_1).f0)) K3 rfl rfl rfl rfl (Opl.add (k := .i64) (a := (wrap64 (((rd_IVar l0 x8_1).f1) - ((rd_IVar l0 x8_1).f0)))) (b := 1) K3 rfl rfl rfl rfl (Opl.mul (k := .i64) (a := x3_1) (b := (wrap64 ((wrap64 (((rd_IVar l0 x8_1).f1) - ((rd_IVar l0 x8_1).f0))) + 1))) K3 rfl rfl rfl rfl (Opl.one (v := .lit (.int .i64 (wrap64 (x3_1 * (wrap64 ((wrap64 (((rd_IVar l0 x8_1).f1) - ((rd_IVar l0 x8_1).f0))) + 1)))))) rfl rfl rfl (Opl.nil (Evr.inBlock (Evr.regionN rfl (Opl.add (k := .i64) (a := x8_1) (b := 1) K3 rfl rfl rfl rfl (Opl.one (v := .lit (.int .i64 (wrap64 (x8_1 + 1)))) rfl rfl rfl (Opl.nil ?_))))))))))))))))
  exact ih1 _ (by omega) _ _ ⟨by omega, _, _, H, ⟨rfl, rfl, rfl, rfl, trivial⟩⟩
theorem impl_varOk.ev {a0_0 : Int} {a0_1 : Int} {a0_2 : Int} {r : Bool} (H : impl_varOk.f a0_0 a0_1 a0_2 = some r) : Ret Tryd.prog 29 [.agg [.lit (.int .i64 a0_0), .lit (.int .i64 a0_1), .lit (.int .i64 a0_2)]] fun v S => v = .lit (.bool r) := by
 unfold impl_varOk.f at H
 refine Ret.intro Tryd.func29 rfl (Nat.le_of_ble_eq_true rfl) rfl ?_
 rw [tm1]
 refine Evr.sr rfl (Opl.box (cs := [.lit (.int .i64 a0_0), .lit (.int .i64 a0_1), .lit (.int .i64 a0_2)]) rfl rfl rfl rfl ?_)
 rintro i1 S h1 u1 w1
 refine Opl.p1 (n := Opl.nil (Evr.sr rfl (Opl.p1 (v := .ptr i1 0) (n := Opl.ldb (v := .lit (.int .i64 a0_0)) h1 rfl T3 rfl rfl rfl rfl ?_))))
 obtain ⟨t262, h_t262, H⟩ := Option.bind_eq_some_iff.1 H
 refine Opl.callc (impl_in.ev h_t262) rfl rfl rfl rfl ⟨(.lit _), (.lit _), (.lit _), trivial⟩ (by decide) (Opl.p1 (n := ?_))
 by_cases c1 : t262 = true
 case neg =>
  rw [if_neg c1] at H
  obtain rfl : t262 = false := by simpa using c1
  refine Opl.skp rfl (Opl.skp rfl (Opl.skp rfl (Opl.skp rfl (Opl.skp rfl (Opl.p1 (n := Opl.p1 (n := Opl.skp rfl (Opl.skp rfl (Opl.skp rfl (Opl.skp rfl (Opl.skp rfl (Opl.skp rfl (Opl.p1 (n := Opl.p1 (n := Opl.skp rfl (Opl.skp rfl (Opl.skp rfl (Opl.skp rfl (Opl.skp rfl (Opl.skp rfl (Opl.skp rfl (Opl.p1 (n := Opl.p1 (n := Opl.nil ?_))))))))))))))))))))))))
  obtain rfl := Option.some.inj H
  refine Evr.ret1 Tryd.func29 rfl ?_
  show (.lit (.bool false) : PV) = _
  first | rfl | (simp only [go_sem]; rfl)
 rw [if_pos c1] at H
 obtain rfl : t262 = true := by simpa using c1
 refine Opl.p1 (v := .ptr i1 1) (n := Opl.ldb (v := .lit (.int .i64 a0_1)) h1 rfl T3 rfl rfl rfl rfl (Opl.p1 (v := .ptr i1 0) (n := Opl.ldb (v := .lit (.int .i64 a0_0)) h1 rfl T3 rfl rfl rfl rfl ?_)))
 obtain ⟨t263, h_t263, H⟩ := Option.bind_eq_some_iff.1 H
 refine Opl.callc (impl_in.ev h_t263) rfl rfl rfl rfl ⟨(.lit _), (.lit _), (.lit _), trivial⟩ (by decide) (Opl.p1 (n := Opl.p1 (n := ?_)))
 by_cases c2 : t263 = true
 case neg =>
  rw [if_neg c2] at H
  obtain rfl : t263 = false := by simpa using c2
  refine Opl.skp rfl (Opl.skp rfl (Opl.skp rfl (Opl.skp rfl (Opl.skp rfl (Opl.skp rfl (Opl.p1 (n := Opl.p1 (n := Opl.skp rfl (Opl.skp rfl (Opl.skp rfl (Opl.skp rfl (Opl.skp rfl (Opl.skp rfl (Opl.skp rfl (Opl.p1 (n := Opl.p1 (n := Opl.nil ?_)))))))))))))))))
  obtain rfl := Option.some.inj H
  refine Evr.ret1 Tryd.func29 rfl ?_
  show (.lit (.bool false) : PV) = _
  first | rfl | (simp only [go_sem]; rfl)
 rw [if_pos c2] at H
 obtain rfl : t263 = true := by simpa using c2
 refine Opl.p1 (v := .ptr i1 1) (n := Opl.ldb (v := .lit (.int .i64 a0_1)) h1 rfl T3 rfl rfl rfl rfl (Opl.p1 (v := .ptr i1 0) (n := Opl.ldb (v := .lit (.int .i64 a0_0)) h1 rfl T3 rfl rfl rfl rfl (Opl.subi (k := .i64) (a := a0_1) (b := a0_0) K3 rfl rfl rfl rfl (Opl.lss (a := (wrap64 (a0_1 - a0_0))) (b := 20) K3 rfl rfl rfl rfl (Opl.one (v := .lit (.bool (decide ((wrap64 (a0_1 - a0_0)) < 20)))) rfl rfl rfl (Opl.one (v := .lit (.bool (decide ((wrap64 (a0_1 - a0_0)) < 20)))) rfl rfl rfl ?_)))))))
 by_cases c3 : (wrap64 (a0_1 - a0_0)) < 20
 case neg =>
  rw [if_neg c3] at H
  have e2 : (decide ((wrap64 (a0_1 - a0_0)) < 20)) = false := by simpa using c3
  try rw [e2]
  refine Opl.skp rfl (Opl.skp rfl (Opl.skp rfl (Opl.skp rfl (Opl.skp rfl (Opl.skp rfl (Opl.skp rfl (Opl.one (v := .lit (.bool false)) rfl rfl rfl (Opl.one (v := .lit (.bool false)) rfl rfl rfl (Opl.nil ?_)))))))))
  obtain rfl := Option.some.inj H
  refine Evr.ret1 Tryd.func29 rfl ?_
  show (.lit (.bool false) : PV) = _
  first | rfl | (simp only [go_sem]; rfl)
 rw [if_pos c3] at H
 have e1 : (decide ((wrap64 (a0_1 - a0_0)) < 20)) = true := by simpa using c3
 try rw [e1]
 refine Opl.p1 (v := .ptr i1 2) (n := Opl.ldb (v := .lit (.int .i64 a0_2)) h1 rfl T3 rfl rfl rfl rfl (Opl.p1 (v := .ptr i1 0) (n := Opl.ldb (v := .lit (.int .i64 a0_0)) h1 rfl T3 rfl rfl rfl rfl (Opl.p1 (v := .ptr i1 1) (n := Opl.ldb (v := .lit (.int .i64 a0_1)) h1 rfl T3 rfl rfl rfl rfl ?_)))))
 obtain ⟨t264, h_t264, H⟩ := Option.bind_eq_some_iff.1 H
 refine Opl.callc (impl_in.ev h_t264) rfl rfl rfl rfl ⟨(.lit _), (.lit _), (.lit _), trivial⟩ (by decide) (Opl.one (v := .lit (.bool t264)) rfl rfl rfl (Opl.one (v := .lit (.bool t264)) rfl rfl rfl (Opl.nil ?_)))
 obtain rfl := Option.some.inj H
 refine Evr.ret1 Tryd.func29 rfl ?_
 show (.lit (.bool t264) : PV) = _
 first | rfl | (simp only [go_sem]; rfl)
theorem impl_SystemValid_1.ev {a0_0 : Int} {a0_1 : Int} {a0_2 : Int} {r : Bool} (H : impl_SystemValid_1.f a0_0 a0_1 a0_2 = some r) : Ret Tryd.prog 28 [.agg [.lit (.int .i64 a0_0), .lit (.int .i64 a0_1), .lit (.int .i64 a0_2)]] fun v S => v = .lit (.bool r) := by
 unfold impl_SystemValid_1.f at H
 refine Ret.intro Tryd.func28 rfl (Nat.le_of_ble_eq_true rfl) rfl ?_
 rw [tm1]
 refine Evr.sr rfl (Opl.box (cs := [.lit (.int .i64 a0_0), .lit (.int .i64 a0_1), .lit (.int .i64 a0_2)]) rfl rfl rfl rfl ?_)
 rintro i1 S h1 u1 w1
 refine Opl.p1 (n := Opl.nil (Evr.sr rfl (Opl.ldb (v := .agg [.lit (.int .i64 a0_0), .lit (.int .i64 a0_1), .lit (.int .i64 a0_2)]) h1 rfl T53 rfl rfl rfl rfl ?_)))
 obtain ⟨t297, h_t297, H⟩ := Option.bind_eq_some_iff.1 H
 refine Opl.callc (impl_varOk.ev h_t297) rfl rfl rfl rfl ⟨(.aggL ⟨(.lit _), (.lit _), (.lit _), trivial⟩), trivial⟩ (by decide) (Opl.p1 (n := Opl.p1 (n := Opl.nil ?_)))
 obtain rfl := Option.some.inj H
 refine Evr.ret1 Tryd.func28 rfl ?_
 show (.lit (.bool (!t297)) : PV) = _
 first | rfl | (simp only [go_sem]; rfl)
theorem slices_IndexFunc_at_impl_SystemValid_1.ev {k : Nat} {l0 : List IVar} {v0 : PV} (hv0 : Sl cIVar l0 v0) {r : Int} (H : slices_IndexFunc_at_impl_SystemValid_1.f k l0 = some r) : Ret Tryd.prog 49 [v0, .lit (.func (.func 28) #[] #[])] fun v S => v = .lit (.int .i64 r) := by
 unfold slices_IndexFunc_at_impl_SystemValid_1.f at H
 refine Ret.intro Tryd.func49 rfl (Nat.le_of_ble_eq_true rfl) rfl ?_
 rw [tm2]
 refine Evr.sr rfl (Opl.p1 (n := Opl.nil (Evr.seq (Evr.sr rfl (Opl.p1 (n := Opl.len (xs := l0) (by exact hv0) K28 rfl rfl rfl rfl (Opl.p1 (n := Opl.nil (Evr.block ?_)))))))))
 refine Evr.loop (Evr.rounds (n := k) (Inv := fun n tm S => n ≤ k ∧ ∃ (x8_1 : Int), slices_IndexFunc_at_impl_SystemValid_1.l0 n l0 (l0.length : Int) x8_1 = some r ∧ Has tm [(0, v0), (1, .lit (.func (.func 28) #[] #[])), (7, .lit (.int .i64 (l0.length : Int))), (8, .lit (.int .i64 x8_1))]) ?_ ?_ ?_)
 · exact ⟨Nat.le_refl _, _, H, ⟨rfl, rfl, rfl, rfl, trivial⟩⟩
 ·
  rintro tm S ⟨_, _, H, -⟩
  simp [slices_IndexFunc_at_impl_SystemValid_1.l0] at H
 ·
  rintro n1 ih1 tm S ⟨hle, x8_1, H, hh⟩
  simp only [slices_IndexFunc_at_impl_SystemValid_1.l0] at H
  rw [hh.eq]
  refine Evr.sr rfl (Opl.p1 (n := Opl.nil (Evr.seq ?_)))
  by_cases c1 : x8_1 < (l0.length : Int)
  case neg =>
   rw [if_neg c1] at H
   have e2 : (decide (x8_1 < (l0.length : Int))) = false := by simpa using c1
   try rw [e2]
   refine Evr.condF rfl (Evr.exit rfl (Evr.sr rfl (Opl.p1 (n := Opl.nil ?_))))
   obtain rfl := Option.some.inj H
   refine Evr.ret1 Tryd.func49 rfl ?_
   show (.lit (.int .i64 (-1)) : PV) = _
   first | rfl | (simp only [go_sem]; rfl)
  rw [if_pos c1] at H
  have e1 : (decide (x8_1 < (l0.length : Int))) = true := by simpa using c1
  try rw [e1]
  refine Evr.condT rfl (Evr.skip (Evr.seq (Evr.block (Evr.sr rfl (Opl.p1 (n := Opl.p1 (n := Opl.nil (Evr.sr rfl (Opl.p1 (n := Opl.p1 (n := Opl.p1 (n := ?_))))))))))))
  obtain ⟨c2, H⟩ := peel H
  obtain ⟨c3, H⟩ := peel H
  refine Opl.idx (M := cIVar) (xs := l0) (j := x8_1) zIVar (by exact hv0) rfl (by omega) (by omega) K28 Z53 rfl rfl ?_
  rintro p1 q1 h1
  obtain rfl := cIVar_R (x := (rd_IVar l0 x8_1)) h1
  refine Opl.lda (.agg [.lit (.int .i64 ((rd_IVar l0 x8_1).f0)), .lit (.int .i64 ((rd_IVar l0 x8_1).f1)), .lit (.int .i64 ((rd_IVar l0 x8_1).f2))]) rfl T53 rfl rfl rfl rfl ?_
  obtain ⟨t299, h_t299, H⟩ := Option.bind_eq_some_iff.1 H
  refine Opl.callc (impl_SystemValid_1.ev h_t299) rfl rfl rfl rfl ⟨(.aggL ⟨(.lit _), (.lit _), (.lit _), trivial⟩), trivial⟩ (by decide) (Opl.nil ?_)
  by_cases c4 : t299 = true
  case pos =>
   rw [if_pos c4] at H
   obtain rfl : t299 = true := by simpa using c4
   refine Evr.condT rfl (Evr.sr rfl (Opl.p1 (n := Opl.p1 (n := Opl.nil ?_))))
   obtain rfl := Option.some.inj H
   refine Evr.ret1 Tryd.func49 rfl ?_
   show (.lit (.int .i64 x8_1) : PV) = _
   first | rfl | (simp only [go_sem]; rfl)
  rw [if_neg c4] at H
  obtain rfl : t299 = false := by simpa using c4
  refine Evr.condF rfl (Evr.skip (Evr.inBlock (Evr.regionN rfl (Opl.add (k := .i64) (a := x8_1) (b := 1) K3 rfl rfl rfl rfl (Opl.one (v := .lit (.int .i64 (wrap64 (x8_1 + 1)))) rfl rfl rfl (Opl.nil ?_))))))
  exact ih1 _ (by omega) _ _ ⟨by omega, _, H, ⟨rfl, rfl, rfl, rfl, trivial⟩⟩
theorem slices_ContainsFunc_at_impl_SystemValid_1.ev {k : Nat} {l0 : List IVar} {v0 : PV} (hv0 : Sl cIVar l0 v0) {r : Bool} (H : slices_ContainsFunc_at_impl_SystemValid_1.f k l0 = some r) : Ret Tryd.prog 27 [v0, .lit (.func (.func 28) #[] #[])] fun v S => v = .lit (.bool r) := by
 unfold slices_ContainsFunc_at_impl_SystemValid_1.f at H
 refine Ret.intro Tryd.func27 rfl (Nat.le_of_ble_eq_true rfl) rfl ?_
 rw [tm2]
 refine Evr.sr rfl (Opl.p1 (n := Opl.nil (Evr.sr rfl (Opl.p1 (n := Opl.p1 (n := ?_))))))
 obtain ⟨t300, h_t300, H⟩ := Option.bind_eq_some_iff.1 H
 refine Opl.callc (slices_IndexFunc_at_impl_SystemValid_1.ev hv0 h_t300) rfl rfl rfl rfl ⟨hv0.plain, (.lit _), trivial⟩ (by decide) (Opl.p1 (n := Opl.p1 (n := Opl.nil ?_)))
 obtain rfl := Option.some.inj H
 refine Evr.ret1 Tryd.func27 rfl ?_
 show (.lit (.bool (decide (t300 ≥ 0))) : PV) = _
 first | rfl | (simp only [go_sem]; rfl)
theorem impl_parts.ev {k : Nat} {a0 : Int} {r : Int × Int × Int} (H : impl_parts.f k a0 = some r) : Ret Tryd.prog 65 [.lit (.int .i64 a0)] fun v S => Out (fun q => ∃ q1 q2 q3, q = .tup [q1, q2, q3] ∧ q1 = .lit (.int .i64 r.1) ∧ q2 = .lit (.int .i64 r.2.1) ∧ q3 = .lit (.int .i64 r.2.2)) v S := by
 unfold impl_parts.f at H
 refine Ret.intro Tryd.func65 rfl (Nat.le_of_ble_eq_true rfl) rfl ?_
 rw [tm1]
 refine Evr.sr rfl (Opl.p1 (n := Opl.p1 (n := Opl.p1 (n := Opl.nil (Evr.seq (Evr.sr rfl (Opl.p1 (n := Opl.nil (Evr.block (Evr.seq (Evr.sr rfl (Opl.p1 (n := Opl.p1 (n := Opl.nil ?_))))))))))))))
 refine Evr.join (fun tm S => ∃ (kq1 : Nat) (x6_1 : Bool), impl_parts.j0 kq1 a0 x6_1 = some r ∧ Has tm [(5, .lit (.int .i64 a0)), (6, .lit (.bool x6_1))]) ?_ fun hk1 => ?_
 ·
  rintro tm S ⟨kq1, x6_1, H, hh⟩
  rw [hh.eq]
  obtain _ | k1 := kq1
  · simp [impl_parts.j0] at H
  simp only [impl_parts.j0] at H
  by_cases c1 : x6_1 = true
  case pos =>
   rw [if_pos c1] at H
   obtain rfl : x6_1 = true := by simpa using c1
   refine Evr.condT rfl (Evr.sr rfl (Opl.p1 (n := Opl.p1 (n := Opl.p1 (n := Opl.nil ?_)))))
   obtain rfl := Option.some.inj H
   refine Evr.ret3 Tryd.func65 rfl ?_
   show Out _ (.tup [.lit (.int .i64 2), .lit (.int .i64 1), .lit (.int .i64 1)]) _
   exact .tup3 .lit .lit .lit
  rw [if_neg c1] at H
  obtain rfl : x6_1 = false := by simpa using c1
  refine Evr.condF rfl (Evr.seq (Evr.sr rfl (Opl.p1 (n := Opl.p1 (n := Opl.nil ?_)))))
  refine Evr.join (fun tm S => ∃ (kq2 : Nat) (x10_1 : Bool), impl_parts.j1 kq2 a0 x10_1 = some r ∧ Has tm [(5, .lit (.int .i64 a0)), (10, .lit (.bool x10_1))]) ?_ fun hk2 => ?_
  ·
   rintro tm S ⟨kq2, x10_1, H, hh⟩
   rw [hh.eq]
   obtain _ | k2 := kq2
   · simp [impl_parts.j1] at H
   simp only [impl_parts.j1] at H
   by_cases c2 : x10_1 = true
   case pos =>
    rw [if_pos c2] at H
    obtain rfl : x10_1 = true := by simpa using c2
    refine Evr.condT rfl (Evr.sr rfl (Opl.p1 (n := Opl.p1 (n := Opl.p1 (n := Opl.nil ?_)))))
    obtain rfl := Option.some.inj H
    refine Evr.ret3 Tryd.func65 rfl ?_
    show Out _ (.tup [.lit (.int .i64 2), .lit (.int .i64 1), .lit (.int .i64 2)]) _
    exact .tup3 .lit .lit .lit
   rw [if_neg c2] at H
   obtain rfl : x10_1 = false := by simpa using c2
   refine Evr.condF rfl (Evr.sr rfl (Opl.p1 (n := Opl.p1 (n := Opl.nil ?_))))
   by_cases c3 : a0 = 7
   case pos =>
    rw [if_pos c3] at H
    have e1 : (a0 == 7) = true := by simpa using c3
    try rw [e1]
    refine Evr.condT rfl (Evr.sr rfl (Opl.p1 (n := Opl.p1 (n := Opl.p1 (n := Opl.nil ?_)))))
    obtain rfl := Option.some.inj H
    refine Evr.ret3 Tryd.func65 rfl ?_
    show Out _ (.tup [.lit (.int .i64 1), .lit (.int .i64 2), .lit (.int .i64 2)]) _
    exact .tup3 .lit .lit .lit
   rw [if_neg c3] at H
   have e2 : (a0 == 7) = false := by simpa using c3
   try rw [e2]
   refine Evr.condF rfl (Evr.seq (Evr.sr rfl (Opl.p1 (n := Opl.p1 (n := Opl.nil ?_)))))
   refine Evr.join (fun tm S => ∃ (kq3 : Nat) (x15_1 : Bool), impl_parts.j2 kq3 x15_1 = some r ∧ Has tm [(15, .lit (.bool x15_1))]) ?_ fun hk3 => ?_
   ·
    rintro tm S ⟨kq3, x15_1, H, hh⟩
    rw [hh.eq]
    obtain _ | k3 := kq3
    · simp [impl_parts.j2] at H
    simp only [impl_parts.j2] at H
    by_cases c4 : x15_1 = true
    case pos =>
     rw [if_pos c4] at H
     obtain rfl : x15_1 = true := by simpa using c4
     refine Evr.condT rfl (Evr.sr rfl (Opl.p1 (n := Opl.p1 (n := Opl.p1 (n := Opl.nil ?_)))))
     obtain rfl := Option.some.inj H
     refine Evr.ret3 Tryd.func65 rfl ?_
     show Out _ (.tup [.lit (.int .i64 2), .lit (.int .i64 2), .lit (.int .i64 2)]) _
     exact .tup3 .lit .lit .lit
    rw [if_neg c4] at H
    obtain rfl : x15_1 = false := by simpa using c4
    refine Evr.condF rfl (Evr.skip (Evr.inBlock (Evr.sr rfl (Opl.p1 (n := Opl.p1 (n := Opl.p1 (n := Opl.nil ?_)))))))
    obtain rfl := Option.some.inj H
    refine Evr.ret3 Tryd.func65 rfl ?_
    show Out _ (.tup [.lit (.int .i64 0), .lit (.int .i64 0), .lit (.int .i64 1)]) _
    exact .tup3 .lit .lit .lit
   ·
    by_cases c5 : a0 = 8
    case pos =>
     rw [if_pos c5] at H
     have e3 : (a0 == 8) = true := by simpa using c5
     try rw [e3]
     refine Evr.condT rfl (Evr.skip ?_)
     exact hk3 _ _ ⟨_, _, H, ⟨(by first | rfl | (show PV.lit (.bool _) = _; congr 2; simp_all)), trivial⟩⟩
    rw [if_neg c5] at H
    have e4 : (a0 == 8) = false := by simpa using c5
    try rw [e4]
    refine Evr.condF rfl (Evr.regionN rfl (Opl.p1 (n := Opl.p1 (n := Opl.nil ?_))))
    exact hk3 _ _ ⟨_, _, H, ⟨(by first | rfl | (show PV.lit (.bool _) = _; congr 2; simp_all)), trivial⟩⟩
  ·
   by_cases c6 : a0 = 5
   case pos =>
    rw [if_pos c6] at H
    have e5 : (a0 == 5) = true := by simpa using c6
    try rw [e5]
    refine Evr.condT rfl (Evr.skip ?_)
    exact hk2 _ _ ⟨_, _, H, ⟨rfl, (by first | rfl | (show PV.lit (.bool _) = _; congr 2; simp_all)), trivial⟩⟩
   rw [if_neg c6] at H
   have e6 : (a0 == 5) = false := by simpa using c6
   try rw [e6]
   refine Evr.condF rfl (Evr.regionN rfl (Opl.p1 (n := Opl.p1 (n := Opl.nil ?_))))
   exact hk2 _ _ ⟨_, _, H, ⟨rfl, (by first | rfl | (show PV.lit (.bool _) = _; congr 2; simp_all)), trivial⟩⟩
 ·
  by_cases c7 : a0 = 2
  case pos =>
   rw [if_pos c7] at H
   have e7 : (a0 == 2) = true := by simpa using c7
   try rw [e7]
   refine Evr.condT rfl (Evr.skip ?_)
   exact hk1 _ _ ⟨_, _, H, ⟨rfl, (by first | rfl | (show PV.lit (.bool _) = _; congr 2; simp_all)), trivial⟩⟩
  rw [if_neg c7] at H
  have e8 : (a0 == 2) = false := by simpa using c7
  try rw [e8]
  refine Evr.condF rfl (Evr.sr rfl (Opl.p1 (n := Opl.p1 (n := Opl.nil ?_))))
  refine Evr.join (fun tm S => ∃ (kq4 : Nat) (x6_2 : Bool), impl_parts.j0 kq4 a0 x6_2 = some r ∧ Has tm [(5, .lit (.int .i64 a0)), (6, .lit (.bool x6_2))]) ?_ fun hk4 => ?_
  ·
   rintro tm S ⟨kq4, x6_2, H, hh⟩
   rw [hh.eq]
   exact hk1 _ _ ⟨_, _, H, ⟨rfl, (by first | rfl | (show PV.lit (.bool _) = _; congr 2; simp_all)), trivial⟩⟩
  ·
   by_cases c8 : a0 = 3
   case pos =>
    rw [if_pos c8] at H
    have e9 : (a0 == 3) = true := by simpa using c8
    try rw [e9]
    refine Evr.condT rfl (Evr.skip ?_)
    exact hk4 _ _ ⟨_, _, H, ⟨rfl, (by first | rfl | (show PV.lit (.bool _) = _; congr 2; simp_all)), trivial⟩⟩
   rw [if_neg c8] at H
   have e10 : (a0 == 3) = false := by simpa using c8
   try rw [e10]
   refine Evr.condF rfl (Evr.regionN rfl (Opl.p1 (n := Opl.p1 (n := Opl.nil ?_))))
   exact hk4 _ _ ⟨_, _, H, ⟨rfl, (by first | rfl | (show PV.lit (.bool _) = _; congr 2; simp_all)), trivial⟩⟩
theorem impl_kindsOf.ev {k : Nat} {l0 : List ITerm} {v0 : PV} (hv0 : Sl cITerm l0 v0) {a1 : Int} {r : (List Int)} (H : impl_kindsOf.f k l0 a1 = some r) : Ret Tryd.prog 58 [v0, .lit (.int .i64 a1)] fun v S => Vec (cInt .i64) r v S ∧ (r = [] → v = .lit (.slice none 0 0)) := by
 unfold impl_kindsOf.f at H
 refine Ret.intro Tryd.func58 rfl (Nat.le_of_ble_eq_true rfl) rfl ?_
 rw [tm2]
 refine Evr.sr rfl (Opl.p1 (n := Opl.nil (Evr.seq (Evr.seq ?_))))
 refine Evr.join (fun tm S => ∃ (kq1 : Nat) (x20_1 : Bool), impl_kindsOf.j0 kq1 l0 a1 x20_1 = some r ∧ Has tm [(0, v0), (1, .lit (.int .i64 a1)), (20, .lit (.bool x20_1))]) ?_ fun hk1 => ?_
 ·
  rintro tm S ⟨kq1, x20_1, H, hh⟩
  rw [hh.eq]
  obtain _ | k1 := kq1
  · simp [impl_kindsOf.j0] at H
  simp only [impl_kindsOf.j0] at H
  by_cases c1 : x20_1 = true
  case pos =>
   rw [if_pos c1] at H
   obtain rfl : x20_1 = true := by simpa using c1
   refine Evr.condT rfl (Evr.sr rfl (Opl.p1 (n := Opl.nil ?_)))
   obtain rfl := Option.some.inj H
   refine Evr.ret1 Tryd.func58 rfl ?_
   show Vec _ _ (.lit (.slice none 0 0)) _ ∧ _
   exact ⟨.nil, by intro e; first | rfl | (have := congrArg List.length e; simp only [List.length_nil] at this; omega)⟩
  rw [if_neg c1] at H
  obtain rfl : x20_1 = false := by simpa using c1
  refine Evr.condF rfl (Evr.skip (Evr.sr rfl (Opl.p1 (n := Opl.len (xs := l0) (by exact hv0) K56 rfl rfl rfl rfl ?_))))
  obtain ⟨c2, H⟩ := peel H
  obtain ⟨c3, H⟩ := peel H
  refine Opl.make0 (M := (cInt .i64)) (m := (l0.length : Int)) rfl rfl K37 T3 rfl rfl (by omega) (by show ((l0.length : Int)).toNat * 8 ≤ 281474976710656; omega) (by omega) rfl rfl rfl ?_
  rintro pv2 S h1 u1 w1
  refine Opl.p1 (n := Opl.nil (Evr.seq (Evr.sr rfl (Opl.p1 (n := Opl.len (xs := l0) (by exact hv0) K56 rfl rfl rfl rfl (Opl.p1 (n := Opl.nil (Evr.block ?_))))))))
  refine Evr.loop (Evr.rounds (n := k1) (Inv := fun n tm S => n ≤ k1 ∧ ∃ (x5_1 : List Int) (x26_1 : Int) (pv3 : PV), impl_kindsOf.l0 n a1 x5_1 l0 (l0.length : Int) x26_1 = some r ∧ Has tm [(1, .lit (.int .i64 a1)), (5, pv3), (24, v0), (25, .lit (.int .i64 (l0.length : Int))), (26, .lit (.int .i64 x26_1))] ∧ Vec (cInt .i64) x5_1 pv3 S) ?_ ?_ ?_)
  · exact ⟨Nat.le_refl _, _, _, _, H, ⟨rfl, rfl, rfl, rfl, rfl, trivial⟩, h1⟩
  ·
   rintro tm S ⟨_, _, _, _, H, -⟩
   simp [impl_kindsOf.l0] at H
  ·
   rintro n1 ih1 tm S ⟨hle, x5_1, x26_1, pv3, H, hh, h2⟩
   simp only [impl_kindsOf.l0] at H
   rw [hh.eq]
   refine Evr.sr rfl (Opl.p1 (n := Opl.nil (Evr.seq ?_)))
   by_cases c4 : x26_1 < (l0.length : Int)
   case neg =>
    rw [if_neg c4] at H
    have e20 : (decide (x26_1 < (l0.length : Int))) = false := by simpa using c4
    try rw [e20]
    refine Evr.condF rfl (Evr.exit rfl (Evr.sr rfl (Opl.p1 (n := Opl.p1 (n := Opl.nil ?_)))))
    obtain ⟨c26, H⟩ := peel H
    obtain rfl := Option.some.inj H
    refine Evr.ret1 Tryd.func58 rfl ?_
    show Vec _ _ pv3 _ ∧ _
    exact ⟨h2, by intro e; first | rfl | (have := congrArg List.length e; simp only [List.length_nil] at this; omega)⟩
   rw [if_pos c4] at H
   have e1 : (decide (x26_1 < (l0.length : Int))) = true := by simpa using c4
   try rw [e1]
   refine Evr.condT rfl (Evr.skip (Evr.seq (Evr.block (Evr.sr rfl (Opl.p1 (n := ?_))))))
   obtain ⟨c5, H⟩ := peel H
   obtain ⟨c6, H⟩ := peel H
   refine Opl.idx (M := cITerm) (xs := l0) (j := x26_1) zITerm (by exact hv0) rfl (by omega) (by omega) K56 Z86 rfl rfl ?_
   rintro p1 q1 h3
   obtain rfl := cITerm_R (x := (rd_ITerm l0 x26_1)) h3
   refine Opl.lda (.agg [.lit (.int .i64 ((rd_ITerm l0 x26_1).f0)), .lit (.int .i64 ((rd_ITerm l0 x26_1).f1)), .lit (.int .i64 ((rd_ITerm l0 x26_1).f2)), .lit (.int .i64 ((rd_ITerm l0 x26_1).f3))]) rfl T86 rfl rfl rfl rfl (Opl.alloc T86 rfl rfl rfl ?_)
   rintro i1 S h4 u2 w2
   have ap1 := w2.vec h2
   have h5 := u2.vec h2 ap1
   refine Opl.p1 (n := Opl.stb (vs := [.lit (.int .i64 ((rd_ITerm l0 x26_1).f0)), .lit (.int .i64 ((rd_ITerm l0 x26_1).f1)), .lit (.int .i64 ((rd_ITerm l0 x26_1).f2)), .lit (.int .i64 ((rd_ITerm l0 x26_1).f3))]) h4 rfl rfl Z86 rfl (Nat.le_of_ble_eq_true rfl) rfl rfl rfl rfl ?_)
   rintro S (h6 : Box (.ptr i1 0) [.lit (.int .i64 ((rd_ITerm l0 x26_1).f0)), .lit (.int .i64 ((rd_ITerm l0 x26_1).f1)), .lit (.int .i64 ((rd_ITerm l0 x26_1).f2)), .lit (.int .i64 ((rd_ITerm l0 x26_1).f3))] _) u3
   have h7 := u3.vec h5 ap1
   refine Opl.nil (Evr.sr rfl (Opl.p1 (v := .ptr i1 0) (n := Opl.ldb (v := .lit (.int .i64 ((rd_ITerm l0 x26_1).f0))) h6 rfl T3 rfl rfl rfl rfl ?_)))
   obtain ⟨bt274, h_bt274, H⟩ := Option.bind_eq_some_iff.1 H
   refine Opl.call (impl_parts.ev h_bt274) rfl rfl rfl rfl ⟨(.lit _), trivial⟩ (by decide) ?_
   rintro _ ⟨_, _, _, rfl, rfl, rfl, rfl⟩
   refine Opl.p1 (n := Opl.p1 (v := .lit (.int .i64 bt274.1)) (n := Opl.p1 (v := .lit (.int .i64 bt274.2.1)) (n := Opl.p1 (v := .lit (.int .i64 bt274.2.2)) (n := Opl.p1 (n := Opl.p1 (n := Opl.p1 (n := Opl.nil (Evr.sr rfl (Opl.p1 (v := .ptr i1 0) (n := Opl.ldb (v := .lit (.int .i64 ((rd_ITerm l0 x26_1).f0))) h6 rfl T3 rfl rfl rfl rfl ?_))))))))))
   obtain ⟨t277, h_t277, H⟩ := Option.bind_eq_some_iff.1 H
   refine Opl.callc (impl_in.ev h_t277) rfl rfl rfl rfl ⟨(.lit _), (.lit _), (.lit _), trivial⟩ (by decide) (Opl.p1 (n := Opl.nil (Evr.seq (Evr.block (Evr.sr rfl (Opl.p1 (v := .ptr i1 0) (n := Opl.ldb (v := .lit (.int .i64 ((rd_ITerm l0 x26_1).f0))) h6 rfl T3 rfl rfl rfl rfl (Opl.p1 (n := Opl.p1 (n := Opl.nil ?_))))))))))
   refine Evr.join (fun tm S => ∃ (kq2 : Nat) (x11_1 : Bool) (pv5 : PV), impl_kindsOf.j2 kq2 a1 x5_1 bt274.2.2 x11_1 l0 (l0.length : Int) x26_1 = some r ∧ kq2 ≤ n1 ∧ Has tm [(1, .lit (.int .i64 a1)), (5, pv5), (10, .lit (.int .i64 bt274.2.2)), (11, .lit (.bool x11_1)), (24, v0), (25, .lit (.int .i64 (l0.length : Int))), (26, .lit (.int .i64 x26_1))] ∧ Vec (cInt .i64) x5_1 pv5 S) ?_ fun hk2 => ?_
   ·
    rintro tm S ⟨kq2, x11_1, pv5, H, hle, hh, h9⟩
    rw [hh.eq]
    refine Evr.inBlock (Evr.seq (Evr.sr rfl (Opl.p1 (n := Opl.p1 (n := Opl.nil ?_)))))
    obtain _ | k2 := kq2
    · simp [impl_kindsOf.j2] at H
    simp only [impl_kindsOf.j2] at H
    by_cases c7 : x11_1 = true
    case neg =>
     rw [if_neg c7] at H
     have e3 : (!x11_1) = true := by simpa using c7
     try rw [e3]
     refine Evr.condT rfl (Evr.sr rfl (Opl.p1 (n := Opl.nil ?_)))
     obtain rfl := Option.some.inj H
     refine Evr.ret1 Tryd.func58 rfl ?_
     show Vec _ _ (.lit (.slice none 0 0)) _ ∧ _
     exact ⟨.nil, by intro e; first | rfl | (have := congrArg List.length e; simp only [List.length_nil] at this; omega)⟩
    rw [if_pos c7] at H
    have e2 : (!x11_1) = false := by simpa using c7
    try rw [e2]
    refine Evr.condF rfl (Evr.skip (Evr.regionN rfl (Opl.p1 (n := Opl.p1 (n := Opl.lits (M := (cInt .i64)) (ys := [bt274.2.2]) [.tmp 128] K37 T3 rfl rfl rfl (by exact ⟨rfl, trivial⟩) rfl (by decide) rfl rfl rfl ?_)))))
    rintro pv6 S h10 u4 w4
    have ap2 := w4.vec h9
    have h11 := u4.vec h9 ap2
    obtain ⟨c8, H⟩ := peel H
    refine Opl.app (M := (cInt .i64)) (xs := x5_1) (ys := [bt274.2.2]) (v := pv5) h11 (.vec h10) (oInt .i64) rfl rfl K37 T3 rfl rfl (by (try simp only [List.length_cons, List.length_nil]); omega) (by show (_ + _) * 8 ≤ 140737488355328; (try simp only [List.length_cons, List.length_nil]); omega) rfl rfl rfl rfl rfl ?_
    rintro pv7 S h12 u5 w5
    have ap3 := w5.vec h10
    have h13 := u5.vec h10 ap2.symm
    refine Opl.p1 (n := Opl.nil (Evr.inBlock (Evr.regionN rfl (Opl.add (k := .i64) (a := x26_1) (b := 1) K3 rfl rfl rfl rfl (Opl.one (v := .lit (.int .i64 (wrap64 (x26_1 + 1)))) rfl rfl rfl (Opl.nil ?_))))))
    exact ih1 _ (by omega) _ _ ⟨by omega, _, _, _, H, ⟨rfl, rfl, rfl, rfl, rfl, trivial⟩, h12⟩
   ·
    by_cases c9 : ((rd_ITerm l0 x26_1).f0) = 0
    case pos =>
     rw [if_pos c9] at H
     have e4 : (((rd_ITerm l0 x26_1).f0) == 0) = true := by simpa using c9
     try rw [e4]
     refine Evr.condT rfl ?_
     refine Evr.join (fun tm S => ∃ (kq3 : Nat) (x11_2 : Bool) (pv8 : PV), impl_kindsOf.j2 kq3 a1 x5_1 bt274.2.2 x11_2 l0 (l0.length : Int) x26_1 = some r ∧ kq3 ≤ n1 ∧ Has tm [(1, .lit (.int .i64 a1)), (5, pv8), (10, .lit (.int .i64 bt274.2.2)), (11, .lit (.bool x11_2)), (24, v0), (25, .lit (.int .i64 (l0.length : Int))), (26, .lit (.int .i64 x26_1))] ∧ Vec (cInt .i64) x5_1 pv8 S) ?_ fun hk3 => ?_
     ·
      rintro tm S ⟨kq3, x11_2, pv8, H, hle, hh, h14⟩
      rw [hh.eq]
      exact hk2 _ _ ⟨_, _, _, H, by omega, ⟨rfl, rfl, rfl, (by first | rfl | (show PV.lit (.bool _) = _; congr 2; simp_all)), rfl, rfl, rfl, trivial⟩, h14⟩
     ·
      refine Evr.regionN rfl (Opl.p1 (v := .ptr i1 1) (n := Opl.ldb (v := .lit (.int .i64 ((rd_ITerm l0 x26_1).f1))) h6 rfl T3 rfl rfl rfl rfl ?_))
      obtain ⟨t278, h_t278, H⟩ := Option.bind_eq_some_iff.1 H
      refine Opl.callc (impl_in.ev h_t278) rfl rfl rfl rfl ⟨(.lit _), (.lit _), (.lit _), trivial⟩ (by decide) (Opl.p1 (n := ?_))
      by_cases c10 : t278 = true
      case neg =>
       rw [if_neg c10] at H
       obtain rfl : t278 = false := by simpa using c10
       refine Opl.skp rfl (Opl.skp rfl (Opl.skp rfl (Opl.p1 (n := Opl.p1 (n := Opl.skp rfl (Opl.skp rfl (Opl.skp rfl (Opl.p1 (n := Opl.p1 (n := Opl.nil ?_))))))))))
       exact hk3 _ _ ⟨_, _, _, H, by omega, ⟨rfl, rfl, rfl, (by first | rfl | (show PV.lit (.bool _) = _; congr 2; simp_all)), rfl, rfl, rfl, trivial⟩, h7⟩
      rw [if_pos c10] at H
      obtain rfl : t278 = true := by simpa using c10
      refine Opl.p1 (v := .ptr i1 2) (n := Opl.ldb (v := .lit (.int .i64 ((rd_ITerm l0 x26_1).f2))) h6 rfl T3 rfl rfl rfl rfl (Opl.p1 (n := Opl.p1 (n := Opl.p1 (n := ?_)))))
      by_cases c11 : ((rd_ITerm l0 x26_1).f2) = 0
      case neg =>
       rw [if_neg c11] at H
       have e6 : (((rd_ITerm l0 x26_1).f2) == 0) = false := by simpa using c11
       try rw [e6]
       refine Opl.skp rfl (Opl.skp rfl (Opl.skp rfl (Opl.p1 (n := Opl.p1 (n := Opl.nil ?_)))))
       exact hk3 _ _ ⟨_, _, _, H, by omega, ⟨rfl, rfl, rfl, (by first | rfl | (show PV.lit (.bool _) = _; congr 2; simp_all)), rfl, rfl, rfl, trivial⟩, h7⟩
      rw [if_pos c11] at H
      have e5 : (((rd_ITerm l0 x26_1).f2) == 0) = true := by simpa using c11
      try rw [e5]
      refine Opl.p1 (v := .ptr i1 3) (n := Opl.ldb (v := .lit (.int .i64 ((rd_ITerm l0 x26_1).f3))) h6 rfl T3 rfl rfl rfl rfl (Opl.p1 (n := Opl.p1 (n := Opl.p1 (n := Opl.nil ?_)))))
      exact hk3 _ _ ⟨_, _, _, H, by omega, ⟨rfl, rfl, rfl, (by first | rfl | (show PV.lit (.bool _) = _; congr 2; simp_all)), rfl, rfl, rfl, trivial⟩, h7⟩
    rw [if_neg c9] at H
    have e7 : (((rd_ITerm l0 x26_1).f0) == 0) = false := by simpa using c9
    try rw [e7]
    refine Evr.condF rfl (Evr.sr rfl (Opl.p1 (v := .ptr i1 0) (n := Opl.ldb (v := .lit (.int .i64 ((rd_ITerm l0 x26_1).f0))) h6 rfl T3 rfl rfl rfl rfl (Opl.p1 (n := Opl.p1 (n := Opl.nil ?_))))))
    refine Evr.join (fun tm S => ∃ (kq4 : Nat) (x11_3 : Bool) (pv9 : PV), impl_kindsOf.j2 kq4 a1 x5_1 bt274.2.2 x11_3 l0 (l0.length : Int) x26_1 = some r ∧ kq4 ≤ n1 ∧ Has tm [(1, .lit (.int .i64 a1)), (5, pv9), (10, .lit (.int .i64 bt274.2.2)), (11, .lit (.bool x11_3)), (24, v0), (25, .lit (.int .i64 (l0.length : Int))), (26, .lit (.int .i64 x26_1))] ∧ Vec (cInt .i64) x5_1 pv9 S) ?_ fun hk4 => ?_
    ·
     rintro tm S ⟨kq4, x11_3, pv9, H, hle, hh, h15⟩
     rw [hh.eq]
     exact hk2 _ _ ⟨_, _, _, H, by omega, ⟨rfl, rfl, rfl, (by first | rfl | (show PV.lit (.bool _) = _; congr 2; simp_all)), rfl, rfl, rfl, trivial⟩, h15⟩
    ·
     by_cases c12 : ((rd_ITerm l0 x26_1).f0) = 1
     case pos =>
      rw [if_pos c12] at H
      have e8 : (((rd_ITerm l0 x26_1).f0) == 1) = true := by simpa using c12
      try rw [e8]
      refine Evr.condT rfl ?_
      refine Evr.join (fun tm S => ∃ (kq5 : Nat) (x11_4 : Bool) (pv10 : PV), impl_kindsOf.j2 kq5 a1 x5_1 bt274.2.2 x11_4 l0 (l0.length : Int) x26_1 = some r ∧ kq5 ≤ n1 ∧ Has tm [(1, .lit (.int .i64 a1)), (5, pv10), (10, .lit (.int .i64 bt274.2.2)), (11, .lit (.bool x11_4)), (24, v0), (25, .lit (.int .i64 (l0.length : Int))), (26, .lit (.int .i64 x26_1))] ∧ Vec (cInt .i64) x5_1 pv10 S) ?_ fun hk5 => ?_
      ·
       rintro tm S ⟨kq5, x11_4, pv10, H, hle, hh, h16⟩
       rw [hh.eq]
       exact hk4 _ _ ⟨_, _, _, H, by omega, ⟨rfl, rfl, rfl, (by first | rfl | (show PV.lit (.bool _) = _; congr 2; simp_all)), rfl, rfl, rfl, trivial⟩, h16⟩
      ·
       refine Evr.regionN rfl (Opl.p1 (v := .ptr i1 1) (n := Opl.ldb (v := .lit (.int .i64 ((rd_ITerm l0 x26_1).f1))) h6 rfl T3 rfl rfl rfl rfl (Opl.p1 (n := Opl.subi (k := .i64) (a := a1) (b := 1) K3 rfl rfl rfl rfl ?_))))
       obtain ⟨t279, h_t279, H⟩ := Option.bind_eq_some_iff.1 H
       refine Opl.callc (impl_in.ev h_t279) rfl rfl rfl rfl ⟨(.lit _), (.lit _), (.lit _), trivial⟩ (by decide) (Opl.one (v := .lit (.bool t279)) rfl rfl rfl ?_)
       by_cases c13 : t279 = true
       case neg =>
        rw [if_neg c13] at H
        obtain rfl : t279 = false := by simpa using c13
        refine Opl.skp rfl (Opl.skp rfl (Opl.skp rfl (Opl.one (v := .lit (.bool false)) rfl rfl rfl (Opl.one (v := .lit (.bool false)) rfl rfl rfl (Opl.skp rfl (Opl.skp rfl (Opl.skp rfl (Opl.one (v := .lit (.bool false)) rfl rfl rfl (Opl.one (v := .lit (.bool false)) rfl rfl rfl (Opl.nil ?_))))))))))
        exact hk5 _ _ ⟨_, _, _, H, by omega, ⟨rfl, rfl, rfl, (by first | rfl | (show PV.lit (.bool _) = _; congr 2; simp_all)), rfl, rfl, rfl, trivial⟩, h7⟩
       rw [if_pos c13] at H
       obtain rfl : t279 = true := by simpa using c13
       refine Opl.p1 (v := .ptr i1 2) (n := Opl.ldb (v := .lit (.int .i64 ((rd_ITerm l0 x26_1).f2))) h6 rfl T3 rfl rfl rfl rfl (Opl.p1 (n := Opl.one (v := .lit (.bool (((rd_ITerm l0 x26_1).f2) == 0))) rfl rfl rfl (Opl.one (v := .lit (.bool (((rd_ITerm l0 x26_1).f2) == 0))) rfl rfl rfl ?_))))
       by_cases c14 : ((rd_ITerm l0 x26_1).f2) = 0
       case neg =>
        rw [if_neg c14] at H
        have e10 : (((rd_ITerm l0 x26_1).f2) == 0) = false := by simpa using c14
        try rw [e10]
        refine Opl.skp rfl (Opl.skp rfl (Opl.skp rfl (Opl.one (v := .lit (.bool false)) rfl rfl rfl (Opl.one (v := .lit (.bool false)) rfl rfl rfl (Opl.nil ?_)))))
        exact hk5 _ _ ⟨_, _, _, H, by omega, ⟨rfl, rfl, rfl, (by first | rfl | (show PV.lit (.bool _) = _; congr 2; simp_all)), rfl, rfl, rfl, trivial⟩, h7⟩
       rw [if_pos c14] at H
       have e9 : (((rd_ITerm l0 x26_1).f2) == 0) = true := by simpa using c14
       try rw [e9]
       refine Opl.p1 (v := .ptr i1 3) (n := Opl.ldb (v := .lit (.int .i64 ((rd_ITerm l0 x26_1).f3))) h6 rfl T3 rfl rfl rfl rfl (Opl.p1 (n := Opl.one (v := .lit (.bool (((rd_ITerm l0 x26_1).f3) == 0))) rfl rfl rfl (Opl.one (v := .lit (.bool (((rd_ITerm l0 x26_1).f3) == 0))) rfl rfl rfl (Opl.nil ?_)))))
       exact hk5 _ _ ⟨_, _, _, H, by omega, ⟨rfl, rfl, rfl, (by first | rfl | (show PV.lit (.bool _) = _; congr 2; simp_all)), rfl, rfl, rfl, trivial⟩, h7⟩
     rw [if_neg c12] at H
     have e11 : (((rd_ITerm l0 x26_1).f0) == 1) = false := by simpa using c12
     try rw [e11]
     refine Evr.condF rfl (Evr.sr rfl (Opl.p1 (n := Opl.p1 (n := Opl.nil ?_))))
     refine Evr.join (fun tm S => ∃ (kq6 : Nat) (x11_5 : Bool) (pv11 : PV), impl_kindsOf.j2 kq6 a1 x5_1 bt274.2.2 x11_5 l0 (l0.length : Int) x26_1 = some r ∧ kq6 ≤ n1 ∧ Has tm [(1, .lit (.int .i64 a1)), (5, pv11), (10, .lit (.int .i64 bt274.2.2)), (11, .lit (.bool x11_5)), (24, v0), (25, .lit (.int .i64 (l0.length : Int))), (26, .lit (.int .i64 x26_1))] ∧ Vec (cInt .i64) x5_1 pv11 S) ?_ fun hk6 => ?_
     ·
      rintro tm S ⟨kq6, x11_5, pv11, H, hle, hh, h17⟩
      rw [hh.eq]
      exact hk4 _ _ ⟨_, _, _, H, by omega, ⟨rfl, rfl, rfl, (by first | rfl | (show PV.lit (.bool _) = _; congr 2; simp_all)), rfl, rfl, rfl, trivial⟩, h17⟩
     ·
      by_cases c15 : t277 = true
      case neg =>
       rw [if_neg c15] at H
       obtain rfl : t277 = false := by simpa using c15
       refine Evr.condF rfl (Evr.skip ?_)
       exact hk6 _ _ ⟨_, _, _, H, by omega, ⟨rfl, rfl, rfl, (by first | rfl | (show PV.lit (.bool _) = _; congr 2; simp_all)), rfl, rfl, rfl, trivial⟩, h7⟩
      rw [if_pos c15] at H
      obtain rfl : t277 = true := by simpa using c15
      refine Evr.condT rfl ?_
      refine Evr.join (fun tm S => ∃ (kq7 : Nat) (x11_6 : Bool) (pv12 : PV), impl_kindsOf.j2 kq7 a1 x5_1 bt274.2.2 x11_6 l0 (l0.length : Int) x26_1 = some r ∧ kq7 ≤ n1 ∧ Has tm [(1, .lit (.int .i64 a1)), (5, pv12), (10, .lit (.int .i64 bt274.2.2)), (11, .lit (.bool x11_6)), (24, v0), (25, .lit (.int .i64 (l0.length : Int))), (26, .lit (.int .i64 x26_1))] ∧ Vec (cInt .i64) x5_1 pv12 S) ?_ fun hk7 => ?_
      ·
       rintro tm S ⟨kq7, x11_6, pv12, H, hle, hh, h18⟩
       rw [hh.eq]
       exact hk6 _ _ ⟨_, _, _, H, by omega, ⟨rfl, rfl, rfl, (by first | rfl | (show PV.lit (.bool _) = _; congr 2; simp_all)), rfl, rfl, rfl, trivial⟩, h18⟩
      ·
       refine Evr.regionN rfl (Opl.p1 (v := .ptr i1 1) (n := Opl.ldb (v := .lit (.int .i64 ((rd_ITerm l0 x26_1).f1))) h6 rfl T3 rfl rfl rfl rfl (Opl.p1 (n := Opl.p1 (n := ?_)))))
       by_cases c16 : ((rd_ITerm l0 x26_1).f1) = 0
       case neg =>
        rw [if_neg c16] at H
        have e19 : (((rd_ITerm l0 x26_1).f1) == 0) = false := by simpa using c16
        try rw [e19]
        refine Opl.skp rfl (Opl.skp rfl (Opl.skp rfl (Opl.skp rfl (Opl.skp rfl (Opl.p1 (n := Opl.p1 (n := Opl.skp rfl (Opl.skp rfl (Opl.skp rfl (Opl.skp rfl (Opl.skp rfl (Opl.p1 (n := Opl.p1 (n := Opl.skp rfl (Opl.skp rfl (Opl.skp rfl (Opl.skp rfl (Opl.skp rfl (Opl.skp rfl (Opl.skp rfl (Opl.p1 (n := Opl.p1 (n := Opl.skp rfl (Opl.skp rfl (Opl.skp rfl (Opl.skp rfl (Opl.skp rfl (Opl.skp rfl (Opl.skp rfl (Opl.p1 (n := Opl.p1 (n := Opl.skp rfl (Opl.skp rfl (Opl.skp rfl (Opl.skp rfl (Opl.skp rfl (Opl.skp rfl (Opl.skp rfl (Opl.skp rfl (Opl.skp rfl (Opl.p1 (n := Opl.p1 (n := Opl.nil ?_)))))))))))))))))))))))))))))))))))))))))))
        exact hk7 _ _ ⟨_, _, _, H, by omega, ⟨rfl, rfl, rfl, (by first | rfl | (show PV.lit (.bool _) = _; congr 2; simp_all)), rfl, rfl, rfl, trivial⟩, h7⟩
       rw [if_pos c16] at H
       have e12 : (((rd_ITerm l0 x26_1).f1) == 0) = true := by simpa using c16
       try rw [e12]
       refine Opl.p1 (v := .ptr i1 2) (n := Opl.ldb (v := .lit (.int .i64 ((rd_ITerm l0 x26_1).f2))) h6 rfl T3 rfl rfl rfl rfl (Opl.p1 (n := Opl.subi (k := .i64) (a := x26_1) (b := 1) K3 rfl rfl rfl rfl ?_)))
       obtain ⟨t280, h_t280, H⟩ := Option.bind_eq_some_iff.1 H
       refine Opl.callc (impl_in.ev h_t280) rfl rfl rfl rfl ⟨(.lit _), (.lit _), (.lit _), trivial⟩ (by decide) (Opl.one (v := .lit (.bool t280)) rfl rfl rfl (Opl.one (v := .lit (.bool t280)) rfl rfl rfl ?_))
       by_cases c17 : t280 = true
       case neg =>
        rw [if_neg c17] at H
        obtain rfl : t280 = false := by simpa using c17
        refine Opl.skp rfl (Opl.skp rfl (Opl.skp rfl (Opl.skp rfl (Opl.skp rfl (Opl.one (v := .lit (.bool false)) rfl rfl rfl (Opl.one (v := .lit (.bool false)) rfl rfl rfl (Opl.skp rfl (Opl.skp rfl (Opl.skp rfl (Opl.skp rfl (Opl.skp rfl (Opl.skp rfl (Opl.skp rfl (Opl.one (v := .lit (.bool false)) rfl rfl rfl (Opl.one (v := .lit (.bool false)) rfl rfl rfl (Opl.skp rfl (Opl.skp rfl (Opl.skp rfl (Opl.skp rfl (Opl.skp rfl (Opl.skp rfl (Opl.skp rfl (Opl.one (v := .lit (.bool false)) rfl rfl rfl (Opl.one (v := .lit (.bool false)) rfl rfl rfl (Opl.skp rfl (Opl.skp rfl (Opl.skp rfl (Opl.skp rfl (Opl.skp rfl (Opl.skp rfl (Opl.skp rfl (Opl.skp rfl (Opl.skp rfl (Opl.one (v := .lit (.bool false)) rfl rfl rfl (Opl.one (v := .lit (.bool false)) rfl rfl rfl (Opl.nil ?_))))))))))))))))))))))))))))))))))))
        exact hk7 _ _ ⟨_, _, _, H, by omega, ⟨rfl, rfl, rfl, (by first | rfl | (show PV.lit (.bool _) = _; congr 2; simp_all)), rfl, rfl, rfl, trivial⟩, h7⟩
       rw [if_pos c17] at H
       obtain rfl : t280 = true := by simpa using c17
       refine Opl.p1 (v := .ptr i1 3) (n := Opl.ldb (v := .lit (.int .i64 ((rd_ITerm l0 x26_1).f3))) h6 rfl T3 rfl rfl rfl rfl (Opl.one (v := .lit (.int .i64 x26_1)) rfl rfl rfl (Opl.subi (k := .i64) (a := x26_1) (b := 1) K3 rfl rfl rfl rfl ?_)))
       obtain ⟨t281, h_t281, H⟩ := Option.bind_eq_some_iff.1 H
       refine Opl.callc (impl_in.ev h_t281) rfl rfl rfl rfl ⟨(.lit _), (.lit _), (.lit _), trivial⟩ (by decide) (Opl.one (v := .lit (.bool t281)) rfl rfl rfl (Opl.one (v := .lit (.bool t281)) rfl rfl rfl ?_))
       by_cases c18 : t281 = true
       case neg =>
        rw [if_neg c18] at H
        obtain rfl : t281 = false := by simpa using c18
        refine Opl.skp rfl (Opl.skp rfl (Opl.skp rfl (Opl.skp rfl (Opl.skp rfl (Opl.skp rfl (Opl.skp rfl (Opl.one (v := .lit (.bool false)) rfl rfl rfl (Opl.one (v := .lit (.bool false)) rfl rfl rfl (Opl.skp rfl (Opl.skp rfl (Opl.skp rfl (Opl.skp rfl (Opl.skp rfl (Opl.skp rfl (Opl.skp rfl (Opl.one (v := .lit (.bool false)) rfl rfl rfl (Opl.one (v := .lit (.bool false)) rfl rfl rfl (Opl.skp rfl (Opl.skp rfl (Opl.skp rfl (Opl.skp rfl (Opl.skp rfl (Opl.skp rfl (Opl.skp rfl (Opl.skp rfl (Opl.skp rfl (Opl.one (v := .lit (.bool false)) rfl rfl rfl (Opl.one (v := .lit (.bool false)) rfl rfl rfl (Opl.nil ?_)))))))))))))))))))))))))))))
        exact hk7 _ _ ⟨_, _, _, H, by omega, ⟨rfl, rfl, rfl, (by first | rfl | (show PV.lit (.bool _) = _; congr 2; simp_all)), rfl, rfl, rfl, trivial⟩, h7⟩
       rw [if_pos c18] at H
       obtain rfl : t281 = true := by simpa using c18
       refine Opl.one (v := pv3) rfl rfl rfl (Opl.p1 (v := .ptr i1 2) (n := Opl.ldb (v := .lit (.int .i64 ((rd_ITerm l0 x26_1).f2))) h6 rfl T3 rfl rfl rfl rfl ?_))
       obtain ⟨c19, H⟩ := peel H
       obtain ⟨c20, H⟩ := peel H
       refine Opl.idv (M := (cInt .i64)) (xs := x5_1) (j := ((rd_ITerm l0 x26_1).f2)) (v := pv3) h7 rfl rfl (by omega) (by omega) K37 Z3 rfl rfl ?_
       rintro d1 z1 q2 h19 h20
       refine Opl.ldv (M := (cInt .i64)) (xs := x5_1) (j := ((rd_ITerm l0 x26_1).f2)) (0 : Int) h19 h20 (by omega) (by omega) rfl T3 rfl rfl rfl ?_
       rintro p2 q3 h21
       obtain rfl : p2 = [.lit (.int .i64 (rd x5_1 ((rd_ITerm l0 x26_1).f2)))] := h21
       refine ⟨.lit (.int .i64 (rd x5_1 ((rd_ITerm l0 x26_1).f2))), rfl, ?_⟩
       refine Opl.one (v := .lit (.int .i64 bt274.2.1)) rfl rfl rfl (Opl.p1 (n := Opl.one (v := .lit (.bool ((rd x5_1 ((rd_ITerm l0 x26_1).f2)) == bt274.2.1))) rfl rfl rfl (Opl.one (v := .lit (.bool ((rd x5_1 ((rd_ITerm l0 x26_1).f2)) == bt274.2.1))) rfl rfl rfl ?_)))
       by_cases c21 : (rd x5_1 ((rd_ITerm l0 x26_1).f2)) = bt274.2.1
       case neg =>
        rw [if_neg c21] at H
        have e18 : ((rd x5_1 ((rd_ITerm l0 x26_1).f2)) == bt274.2.1) = false := by simpa using c21
        try rw [e18]
        refine Opl.skp rfl (Opl.skp rfl (Opl.skp rfl (Opl.skp rfl (Opl.skp rfl (Opl.skp rfl (Opl.skp rfl (Opl.one (v := .lit (.bool false)) rfl rfl rfl (Opl.one (v := .lit (.bool false)) rfl rfl rfl (Opl.skp rfl (Opl.skp rfl (Opl.skp rfl (Opl.skp rfl (Opl.skp rfl (Opl.skp rfl (Opl.skp rfl (Opl.skp rfl (Opl.skp rfl (Opl.one (v := .lit (.bool false)) rfl rfl rfl (Opl.one (v := .lit (.bool false)) rfl rfl rfl (Opl.nil ?_))))))))))))))))))))
        exact hk7 _ _ ⟨_, _, _, H, by omega, ⟨rfl, rfl, rfl, (by first | rfl | (show PV.lit (.bool _) = _; congr 2; simp_all)), rfl, rfl, rfl, trivial⟩, h7⟩
       rw [if_pos c21] at H
       have e13 : ((rd x5_1 ((rd_ITerm l0 x26_1).f2)) == bt274.2.1) = true := by simpa using c21
       try rw [e13]
       refine Opl.one (v := pv3) rfl rfl rfl (Opl.p1 (v := .ptr i1 3) (n := Opl.ldb (v := .lit (.int .i64 ((rd_ITerm l0 x26_1).f3))) h6 rfl T3 rfl rfl rfl rfl ?_))
       obtain ⟨c22, H⟩ := peel H
       obtain ⟨c23, H⟩ := peel H
       refine Opl.idv (M := (cInt .i64)) (xs := x5_1) (j := ((rd_ITerm l0 x26_1).f3)) (v := pv3) h7 rfl rfl (by omega) (by omega) K37 Z3 rfl rfl ?_
       rintro d2 z2 q4 h22 h23
       refine Opl.ldv (M := (cInt .i64)) (xs := x5_1) (j := ((rd_ITerm l0 x26_1).f3)) (0 : Int) h22 h23 (by omega) (by omega) rfl T3 rfl rfl rfl ?_
       rintro p3 q5 h24
       obtain rfl : p3 = [.lit (.int .i64 (rd x5_1 ((rd_ITerm l0 x26_1).f3)))] := h24
       refine ⟨.lit (.int .i64 (rd x5_1 ((rd_ITerm l0 x26_1).f3))), rfl, ?_⟩
       refine Opl.one (v := .lit (.int .i64 bt274.2.1)) rfl rfl rfl (Opl.p1 (n := Opl.one (v := .lit (.bool ((rd x5_1 ((rd_ITerm l0 x26_1).f3)) == bt274.2.1))) rfl rfl rfl (Opl.one (v := .lit (.bool ((rd x5_1 ((rd_ITerm l0 x26_1).f3)) == bt274.2.1))) rfl rfl rfl ?_)))
       by_cases c24 : (rd x5_1 ((rd_ITerm l0 x26_1).f3)) = bt274.2.1
       case neg =>
        rw [if_neg c24] at H
        have e17 : ((rd x5_1 ((rd_ITerm l0 x26_1).f3)) == bt274.2.1) = false := by simpa using c24
        try rw [e17]
        refine Opl.skp rfl (Opl.skp rfl (Opl.skp rfl (Opl.skp rfl (Opl.skp rfl (Opl.skp rfl (Opl.skp rfl (Opl.skp rfl (Opl.skp rfl (Opl.one (v := .lit (.bool false)) rfl rfl rfl (Opl.one (v := .lit (.bool false)) rfl rfl rfl (Opl.nil ?_)))))))))))
        exact hk7 _ _ ⟨_, _, _, H, by omega, ⟨rfl, rfl, rfl, (by first | rfl | (show PV.lit (.bool _) = _; congr 2; simp_all)), rfl, rfl, rfl, trivial⟩, h7⟩
       rw [if_pos c24] at H
       have e14 : ((rd x5_1 ((rd_ITerm l0 x26_1).f3)) == bt274.2.1) = true := by simpa using c24
       try rw [e14]
       refine Opl.one (v := .lit (.int .i64 bt274.1)) rfl rfl rfl (Opl.p1 (n := Opl.one (v := .lit (.bool (bt274.1 == 2))) rfl rfl rfl ?_))
       by_cases c25 : bt274.1 = 2
       case pos =>
        rw [if_pos c25] at H
        have e15 : (bt274.1 == 2) = true := by simpa using c25
        try rw [e15]
        refine Opl.skp rfl (Opl.skp rfl (Opl.skp rfl (Opl.skp rfl (Opl.skp rfl (Opl.one (v := .lit (.bool true)) rfl rfl rfl (Opl.one (v := .lit (.bool true)) rfl rfl rfl (Opl.one (v := .lit (.bool true)) rfl rfl rfl (Opl.nil ?_))))))))
        exact hk7 _ _ ⟨_, _, _, H, by omega, ⟨rfl, rfl, rfl, (by first | rfl | (show PV.lit (.bool _) = _; congr 2; simp_all)), rfl, rfl, rfl, trivial⟩, h7⟩
       rw [if_neg c25] at H
       have e16 : (bt274.1 == 2) = false := by simpa using c25
       try rw [e16]
       refine Opl.p1 (v := .ptr i1 2) (n := Opl.ldb (v := .lit (.int .i64 ((rd_ITerm l0 x26_1).f2))) h6 rfl T3 rfl rfl rfl rfl (Opl.p1 (v := .ptr i1 3) (n := Opl.ldb (v := .lit (.int .i64 ((rd_ITerm l0 x26_1).f3))) h6 rfl T3 rfl rfl rfl rfl (Opl.p1 (n := Opl.one (v := .lit (.bool (((rd_ITerm l0 x26_1).f2) == ((rd_ITerm l0 x26_1).f3)))) rfl rfl rfl (Opl.one (v := .lit (.bool (((rd_ITerm l0 x26_1).f2) == ((rd_ITerm l0 x26_1).f3)))) rfl rfl rfl (Opl.one (v := .lit (.bool (((rd_ITerm l0 x26_1).f2) == ((rd_ITerm l0 x26_1).f3)))) rfl rfl rfl (Opl.nil ?_))))))))
       exact hk7 _ _ ⟨_, _, _, H, by omega, ⟨rfl, rfl, rfl, (by first | rfl | (show PV.lit (.bool _) = _; congr 2; simp_all)), rfl, rfl, rfl, trivial⟩, h7⟩
 ·
  refine Evr.regionN rfl (Opl.p1 (n := ?_))
  obtain ⟨t267, h_t267, H⟩ := Option.bind_eq_some_iff.1 H
  refine Opl.callc (impl_in.ev h_t267) rfl rfl rfl rfl ⟨(.lit _), (.lit _), (.lit _), trivial⟩ (by decide) (Opl.p1 (n := Opl.p1 (n := ?_)))
  by_cases c27 : t267 = true
  case neg =>
   rw [if_neg c27] at H
   have e22 : (!t267) = true := by simpa using c27
   try rw [e22]
   refine Opl.skp rfl (Opl.skp rfl (Opl.skp rfl (Opl.skp rfl (Opl.p1 (n := Opl.nil ?_)))))
   exact hk1 _ _ ⟨_, _, H, ⟨rfl, rfl, (by first | rfl | (show PV.lit (.bool _) = _; congr 2; simp_all)), trivial⟩⟩
  rw [if_pos c27] at H
  have e21 : (!t267) = false := by simpa using c27
  try rw [e21]
  refine Opl.p1 (n := Opl.len (xs := l0) (by exact hv0) K56 rfl rfl rfl rfl ?_)
  obtain ⟨t268, h_t268, H⟩ := Option.bind_eq_some_iff.1 H
  refine Opl.callc (impl_in.ev h_t268) rfl rfl rfl rfl ⟨(.lit _), (.lit _), (.lit _), trivial⟩ (by decide) (Opl.p1 (n := Opl.p1 (n := Opl.nil ?_)))
  exact hk1 _ _ ⟨_, _, H, ⟨rfl, rfl, (by first | rfl | (show PV.lit (.bool _) = _; congr 2; simp_all)), trivial⟩⟩
theorem impl_kindOf.ev {k : Nat} {l0 : List ITerm} {v0 : PV} (hv0 : Sl cITerm l0 v0) {a1 : Int} {r : Int} (H : impl_kindOf.f k l0 a1 = some r) : Ret Tryd.prog 51 [v0, .lit (.int .i64 a1)] fun v S => v = .lit (.int .i64 r) := by
 unfold impl_kindOf.f at H
 refine Ret.intro Tryd.func51 rfl (Nat.le_of_ble_eq_true rfl) rfl ?_
 rw [tm2]
 refine Evr.sr rfl (Opl.p1 (n := Opl.nil (Evr.sr rfl (Opl.p1 (n := Opl.p1 (n := ?_))))))
 obtain ⟨t, h_t, H⟩ := Option.bind_eq_some_iff.1 H
 refine Opl.call ((impl_kindsOf.ev hv0 h_t).mono fun _ _ h => Out.vecn h) rfl rfl rfl rfl ⟨hv0.plain, (.lit _), trivial⟩ (by decide) ?_
 rintro pv1 ⟨h1, h2⟩
 refine Opl.p1 (n := Opl.nil (Evr.seq (Evr.sr rfl (Opl.p1 (n := ?_)))))
 by_cases c1 : t = []
 case pos =>
  rw [if_pos c1] at H
  refine Opl.eqnil (by exact h2 c1) K37 rfl rfl (Opl.nil (Evr.condT rfl (Evr.sr rfl (Opl.p1 (n := Opl.nil ?_)))))
  obtain rfl := Option.some.inj H
  refine Evr.ret1 Tryd.func51 rfl ?_
  show (.lit (.int .i64 0) : PV) = _
  first | rfl | (simp only [go_sem]; rfl)
 rw [if_neg c1] at H
 refine Opl.eqsome (by exact h1) c1 K37 rfl rfl (Opl.nil (Evr.condF rfl (Evr.skip (Evr.sr rfl (Opl.p1 (n := Opl.p1 (n := Opl.len (xs := t) (by exact h1) K37 rfl rfl rfl rfl (Opl.subi (k := .i64) (a := (t.length : Int)) (b := 1) K3 rfl rfl rfl rfl ?_))))))))
 obtain ⟨c2, H⟩ := peel H
 obtain ⟨c3, H⟩ := peel H
 refine Opl.idx (M := (cInt .i64)) (xs := t) (j := (wrap64 ((t.length : Int) - 1))) (0 : Int) (by exact h1) rfl (by omega) (by omega) K37 Z3 rfl rfl ?_
 rintro p1 q1 h3
 obtain rfl : p1 = [.lit (.int .i64 (rd t (wrap64 ((t.length : Int) - 1))))] := h3
 refine Opl.lda (.lit (.int .i64 (rd t (wrap64 ((t.length : Int) - 1))))) rfl T3 rfl rfl rfl rfl (Opl.one (v := .lit (.int .i64 (rd t (wrap64 ((t.length : Int) - 1))))) rfl rfl rfl (Opl.nil ?_))
 obtain rfl := Option.some.inj H
 refine Evr.ret1 Tryd.func51 rfl ?_
 show (.lit (.int .i64 (rd t (wrap64 ((t.length : Int) - 1)))) : PV) = _
 first | rfl | (simp only [go_sem]; rfl)
theorem impl_ruleOk.ev {k : Nat} {l0_0 : List ITerm} {v0_0 : PV} (hv0_0 : Sl cITerm l0_0 v0_0) {l0_1 : List Int} {v0_1 : PV} (hv0_1 : Sl (cInt .i64) l0_1 v0_1) {l0_2 : List (List ITerm)} {v0_2 : PV} (hv0_2 : Sl (cSl cITerm) l0_2 v0_2) {a1 : Int} {r : Bool} (H : impl_ruleOk.f k l0_0 l0_1 l0_2 a1 = some r) : Ret Tryd.prog 33 [.agg [v0_0, v0_1, v0_2], .lit (.int .i64 a1)] fun v S => v = .lit (.bool r) := by
 unfold impl_ruleOk.f at H
 refine Ret.intro Tryd.func33 rfl (Nat.le_of_ble_eq_true rfl) rfl ?_
 rw [tm2]
 refine Evr.sr rfl (Opl.box (cs := [v0_0, v0_1, v0_2]) rfl rfl rfl rfl ?_)
 rintro i1 S h1 u1 w1
 refine Opl.p1 (n := Opl.nil (Evr.seq (Evr.seq ?_)))
 refine Evr.join (fun tm S => ∃ (kq1 : Nat) (x20_1 : Bool) (i2 : Abs.Id), impl_ruleOk.j0 kq1 a1 x20_1 l0_0 l0_1 l0_2 = some r ∧ Has tm [(1, .lit (.int .i64 a1)), (2, .ptr i2 0), (20, .lit (.bool x20_1))] ∧ Box (.ptr i2 0) [v0_0, v0_1, v0_2] S) ?_ fun hk1 => ?_
 ·
  rintro tm S ⟨kq1, x20_1, i2, H, hh, h2⟩
  rw [hh.eq]
  obtain _ | k1 := kq1
  · simp [impl_ruleOk.j0] at H
  simp only [impl_ruleOk.j0] at H
  by_cases c1 : x20_1 = true
  case pos =>
   rw [if_pos c1] at H
   obtain rfl : x20_1 = true := by simpa using c1
   refine Evr.condT rfl (Evr.sr rfl (Opl.p1 (n := Opl.nil ?_)))
   obtain rfl := Option.some.inj H
   refine Evr.ret1 Tryd.func33 rfl ?_
   show (.lit (.bool false) : PV) = _
   first | rfl | (simp only [go_sem]; rfl)
  rw [if_neg c1] at H
  obtain rfl : x20_1 = false := by simpa using c1
  refine Evr.condF rfl (Evr.skip (Evr.seq (Evr.sr rfl (Opl.p1 (v := .ptr i2 1) (n := Opl.ldb (v := v0_1) h2 rfl T37 rfl rfl rfl rfl (Opl.len (xs := l0_1) (by exact hv0_1) K37 rfl rfl rfl rfl (Opl.p1 (n := Opl.nil (Evr.block ?_)))))))))
  refine Evr.loop (Evr.rounds (n := k1) (Inv := fun n tm S => n ≤ k1 ∧ ∃ (x24_1 : Int) (i3 : Abs.Id), impl_ruleOk.l0 n a1 l0_1 (l0_1.length : Int) x24_1 l0_0 l0_1 l0_2 = some r ∧ Has tm [(1, .lit (.int .i64 a1)), (2, .ptr i3 0), (22, v0_1), (23, .lit (.int .i64 (l0_1.length : Int))), (24, .lit (.int .i64 x24_1))] ∧ Box (.ptr i3 0) [v0_0, v0_1, v0_2] S) ?_ ?_ ?_)
  · exact ⟨Nat.le_refl _, _, _, H, ⟨rfl, rfl, rfl, rfl, rfl, trivial⟩, h2⟩
  ·
   rintro tm S ⟨_, _, _, H, -⟩
   simp [impl_ruleOk.l0] at H
  ·
   rintro n1 ih1 tm S ⟨hle, x24_1, i3, H, hh, h3⟩
   simp only [impl_ruleOk.l0] at H
   rw [hh.eq]
   refine Evr.sr rfl (Opl.p1 (n := Opl.nil (Evr.seq ?_)))
   by_cases c2 : x24_1 < (l0_1.length : Int)
   case neg =>
    rw [if_neg c2] at H
    have e8 : (decide (x24_1 < (l0_1.length : Int))) = false := by simpa using c2
    try rw [e8]
    refine Evr.condF rfl (Evr.exit rfl (Evr.sr rfl (Opl.p1 (n := Opl.nil ?_))))
    obtain rfl := Option.some.inj H
    refine Evr.ret1 Tryd.func33 rfl ?_
    show (.lit (.bool true) : PV) = _
    first | rfl | (simp only [go_sem]; rfl)
   rw [if_pos c2] at H
   have e1 : (decide (x24_1 < (l0_1.length : Int))) = true := by simpa using c2
   try rw [e1]
   refine Evr.condT rfl (Evr.skip (Evr.seq (Evr.block (Evr.sr rfl (Opl.p1 (n := ?_))))))
   obtain ⟨c3, H⟩ := peel H
   obtain ⟨c4, H⟩ := peel H
   refine Opl.idx (M := (cInt .i64)) (xs := l0_1) (j := x24_1) (0 : Int) (by exact hv0_1) rfl (by omega) (by omega) K37 Z3 rfl rfl ?_
   rintro p1 q1 h4
   obtain rfl : p1 = [.lit (.int .i64 (rd l0_1 x24_1))] := h4
   refine Opl.lda (.lit (.int .i64 (rd l0_1 x24_1))) rfl T3 rfl rfl rfl rfl (Opl.p1 (n := Opl.p1 (n := Opl.nil (Evr.seq ?_))))
   refine Evr.join (fun tm S => ∃ (kq2 : Nat) (x57_1 : Bool) (i4 : Abs.Id), impl_ruleOk.j2 kq2 a1 l0_1 (l0_1.length : Int) x24_1 x57_1 l0_0 l0_1 l0_2 = some r ∧ kq2 ≤ n1 ∧ Has tm [(1, .lit (.int .i64 a1)), (2, .ptr i4 0), (22, v0_1), (23, .lit (.int .i64 (l0_1.length : Int))), (24, .lit (.int .i64 x24_1)), (57, .lit (.bool x57_1))] ∧ Box (.ptr i4 0) [v0_0, v0_1, v0_2] S) ?_ fun hk2 => ?_
   ·
    rintro tm S ⟨kq2, x57_1, i4, H, hle, hh, h5⟩
    rw [hh.eq]
    obtain _ | k2 := kq2
    · simp [impl_ruleOk.j2] at H
    simp only [impl_ruleOk.j2] at H
    by_cases c5 : x57_1 = true
    case pos =>
     rw [if_pos c5] at H
     obtain rfl : x57_1 = true := by simpa using c5
     refine Evr.condT rfl (Evr.sr rfl (Opl.p1 (n := Opl.nil ?_)))
     obtain rfl := Option.some.inj H
     refine Evr.ret1 Tryd.func33 rfl ?_
     show (.lit (.bool false) : PV) = _
     first | rfl | (simp only [go_sem]; rfl)
    rw [if_neg c5] at H
    obtain rfl : x57_1 = false := by simpa using c5
    refine Evr.condF rfl (Evr.skip (Evr.inBlock (Evr.regionN rfl (Opl.add (k := .i64) (a := x24_1) (b := 1) K3 rfl rfl rfl rfl (Opl.one (v := .lit (.int .i64 (wrap64 (x24_1 + 1)))) rfl rfl rfl (Opl.nil ?_))))))
    exact ih1 _ (by omega) _ _ ⟨by omega, _, _, H, ⟨rfl, rfl, rfl, rfl, rfl, trivial⟩, h5⟩
   ·
    refine Evr.regionN rfl (Opl.p1 (n := Opl.p1 (n := Opl.subi (k := .i64) (a := a1) (b := 1) K3 rfl rfl rfl rfl ?_)))
    obtain ⟨t290, h_t290, H⟩ := Option.bind_eq_some_iff.1 H
    refine Opl.callc (impl_in.ev h_t290) rfl rfl rfl rfl ⟨(.lit _), (.lit _), (.lit _), trivial⟩ (by decide) (Opl.p1 (n := Opl.one (v := .lit (.bool (!t290))) rfl rfl rfl ?_))
    by_cases c6 : t290 = true
    case neg =>
     rw [if_neg c6] at H
     have e7 : (!t290) = true := by simpa using c6
     try rw [e7]
     refine Opl.skp rfl (Opl.skp rfl (Opl.skp rfl (Opl.skp rfl (Opl.skp rfl (Opl.skp rfl (Opl.skp rfl (Opl.skp rfl (Opl.skp rfl (Opl.skp rfl (Opl.skp rfl (Opl.skp rfl (Opl.one (v := .lit (.bool true)) rfl rfl rfl (Opl.one (v := .lit (.bool true)) rfl rfl rfl (Opl.skp rfl (Opl.skp rfl (Opl.skp rfl (Opl.skp rfl (Opl.skp rfl (Opl.skp rfl (Opl.skp rfl (Opl.skp rfl (Opl.one (v := .lit (.bool true)) rfl rfl rfl (Opl.nil ?_)))))))))))))))))))))))
     exact hk2 _ _ ⟨_, _, _, H, by omega, ⟨rfl, rfl, rfl, rfl, rfl, (by first | rfl | (show PV.lit (.bool _) = _; congr 2; simp_all)), trivial⟩, h3⟩
    rw [if_pos c6] at H
    have e2 : (!t290) = false := by simpa using c6
    try rw [e2]
    refine Opl.one (v := .lit (.int .i64 x24_1)) rfl rfl rfl (Opl.p1 (n := Opl.one (v := .lit (.bool (decide (x24_1 > 0)))) rfl rfl rfl ?_))
    by_cases c7 : x24_1 > 0
    case neg =>
     rw [if_neg c7] at H
     have e6 : (decide (x24_1 > 0)) = false := by simpa using c7
     try rw [e6]
     refine Opl.skp rfl (Opl.skp rfl (Opl.skp rfl (Opl.skp rfl (Opl.skp rfl (Opl.skp rfl (Opl.skp rfl (Opl.skp rfl (Opl.one (v := .lit (.bool false)) rfl rfl rfl (Opl.one (v := .lit (.bool false)) rfl rfl rfl (Opl.one (v := .lit (.bool false)) rfl rfl rfl (Opl.p1 (v := .ptr i3 2) (n := Opl.ldb (v := v0_2) h3 rfl T57 rfl rfl rfl rfl (Opl.one (v := .lit (.int .i64 x24_1)) rfl rfl rfl ?_)))))))))))))
     obtain ⟨c12, H⟩ := peel H
     refine Opl.idx (M := (cSl cITerm)) (xs := l0_2) (j := x24_1) ([] : List ITerm) (by exact hv0_2) rfl (by omega) (by omega) K57 Z56 rfl rfl ?_
     rintro p4 q4 h9
     obtain ⟨pv2, rfl, h10⟩ := h9
     refine Opl.lda (pv2) rfl T56 rfl rfl rfl rfl (Opl.one (v := .lit (.int .i64 a1)) rfl rfl rfl ?_)
     obtain ⟨t295, h_t295, H⟩ := Option.bind_eq_some_iff.1 H
     refine Opl.callc (impl_kindOf.ev h10 h_t295) rfl rfl rfl rfl ⟨h10.plain, (.lit _), trivial⟩ (by decide) (Opl.p1 (n := Opl.one (v := .lit (.bool (t295 != 1))) rfl rfl rfl (Opl.nil ?_)))
     exact hk2 _ _ ⟨_, _, _, H, by omega, ⟨rfl, rfl, rfl, rfl, rfl, (by first | rfl | (show PV.lit (.bool _) = _; congr 2; simp_all)), trivial⟩, h3⟩
    rw [if_pos c7] at H
    have e3 : (decide (x24_1 > 0)) = true := by simpa using c7
    try rw [e3]
    refine Opl.p1 (v := .ptr i3 1) (n := Opl.ldb (v := v0_1) h3 rfl T37 rfl rfl rfl rfl (Opl.one (v := .lit (.int .i64 x24_1)) rfl rfl rfl (Opl.subi (k := .i64) (a := x24_1) (b := 1) K3 rfl rfl rfl rfl ?_)))
    obtain ⟨c8, H⟩ := peel H
    obtain ⟨c9, H⟩ := peel H
    refine Opl.idx (M := (cInt .i64)) (xs := l0_1) (j := (wrap64 (x24_1 - 1))) (0 : Int) (by exact hv0_1) rfl (by omega) (by omega) K37 Z3 rfl rfl ?_
    rintro p2 q2 h6
    obtain rfl : p2 = [.lit (.int .i64 (rd l0_1 (wrap64 (x24_1 - 1))))] := h6
    refine Opl.lda (.lit (.int .i64 (rd l0_1 (wrap64 (x24_1 - 1))))) rfl T3 rfl rfl rfl rfl (Opl.one (v := .lit (.int .i64 (rd l0_1 x24_1))) rfl rfl rfl (Opl.geq (a := (rd l0_1 (wrap64 (x24_1 - 1)))) (b := (rd l0_1 x24_1)) K3 rfl rfl rfl rfl (Opl.one (v := .lit (.bool (decide ((rd l0_1 (wrap64 (x24_1 - 1))) ≥ (rd l0_1 x24_1))))) rfl rfl rfl (Opl.one (v := .lit (.bool (decide ((rd l0_1 (wrap64 (x24_1 - 1))) ≥ (rd l0_1 x24_1))))) rfl rfl rfl (Opl.one (v := .lit (.bool (decide ((rd l0_1 (wrap64 (x24_1 - 1))) ≥ (rd l0_1 x24_1))))) rfl rfl rfl ?_)))))
    by_cases c10 : (rd l0_1 (wrap64 (x24_1 - 1))) ≥ (rd l0_1 x24_1)
    case pos =>
     rw [if_pos c10] at H
     have e4 : (decide ((rd l0_1 (wrap64 (x24_1 - 1))) ≥ (rd l0_1 x24_1))) = true := by simpa using c10
     try rw [e4]
     refine Opl.skp rfl (Opl.skp rfl (Opl.skp rfl (Opl.skp rfl (Opl.skp rfl (Opl.skp rfl (Opl.skp rfl (Opl.skp rfl (Opl.one (v := .lit (.bool true)) rfl rfl rfl (Opl.nil ?_)))))))))
     exact hk2 _ _ ⟨_, _, _, H, by omega, ⟨rfl, rfl, rfl, rfl, rfl, (by first | rfl | (show PV.lit (.bool _) = _; congr 2; simp_all)), trivial⟩, h3⟩
    rw [if_neg c10] at H
    have e5 : (decide ((rd l0_1 (wrap64 (x24_1 - 1))) ≥ (rd l0_1 x24_1))) = false := by simpa using c10
    try rw [e5]
    refine Opl.p1 (v := .ptr i3 2) (n := Opl.ldb (v := v0_2) h3 rfl T57 rfl rfl rfl rfl (Opl.one (v := .lit (.int .i64 x24_1)) rfl rfl rfl ?_))
    obtain ⟨c11, H⟩ := peel H
    refine Opl.idx (M := (cSl cITerm)) (xs := l0_2) (j := x24_1) ([] : List ITerm) (by exact hv0_2) rfl (by omega) (by omega) K57 Z56 rfl rfl ?_
    rintro p3 q3 h7
    obtain ⟨pv1, rfl, h8⟩ := h7
    refine Opl.lda (pv1) rfl T56 rfl rfl rfl rfl (Opl.one (v := .lit (.int .i64 a1)) rfl rfl rfl ?_)
    obtain ⟨t293, h_t293, H⟩ := Option.bind_eq_some_iff.1 H
    refine Opl.callc (impl_kindOf.ev h8 h_t293) rfl rfl rfl rfl ⟨h8.plain, (.lit _), trivial⟩ (by decide) (Opl.p1 (n := Opl.one (v := .lit (.bool (t293 != 1))) rfl rfl rfl (Opl.nil ?_)))
    exact hk2 _ _ ⟨_, _, _, H, by omega, ⟨rfl, rfl, rfl, rfl, rfl, (by first | rfl | (show PV.lit (.bool _) = _; congr 2; simp_all)), trivial⟩, h3⟩
 ·
  refine Evr.regionN rfl (Opl.p1 (v := .ptr i1 0) (n := Opl.ldb (v := v0_0) h1 rfl T56 rfl rfl rfl rfl (Opl.p1 (n := ?_))))
  obtain ⟨t288, h_t288, H⟩ := Option.bind_eq_some_iff.1 H
  refine Opl.callc (impl_kindOf.ev hv0_0 h_t288) rfl rfl rfl rfl ⟨hv0_0.plain, (.lit _), trivial⟩ (by decide) (Opl.p1 (n := Opl.p1 (n := ?_)))
  by_cases c13 : t288 = 2
  case neg =>
   rw [if_neg c13] at H
   have e10 : (t288 != 2) = true := by simpa using c13
   try rw [e10]
   refine Opl.skp rfl (Opl.skp rfl (Opl.skp rfl (Opl.skp rfl (Opl.skp rfl (Opl.skp rfl (Opl.skp rfl (Opl.p1 (n := Opl.nil ?_))))))))
   exact hk1 _ _ ⟨_, _, _, H, ⟨rfl, rfl, (by first | rfl | (show PV.lit (.bool _) = _; congr 2; simp_all)), trivial⟩, h1⟩
  rw [if_pos c13] at H
  have e9 : (t288 != 2) = false := by simpa using c13
  try rw [e9]
  refine Opl.p1 (v := .ptr i1 1) (n := Opl.ldb (v := v0_1) h1 rfl T37 rfl rfl rfl rfl (Opl.len (xs := l0_1) (by exact hv0_1) K37 rfl rfl rfl rfl (Opl.p1 (v := .ptr i1 2) (n := Opl.ldb (v := v0_2) h1 rfl T57 rfl rfl rfl rfl (Opl.len (xs := l0_2) (by exact hv0_2) K57 rfl rfl rfl rfl (Opl.p1 (n := Opl.p1 (n := Opl.nil ?_))))))))
  exact hk1 _ _ ⟨_, _, _, H, ⟨rfl, rfl, (by first | rfl | (show PV.lit (.bool _) = _; congr 2; simp_all)), trivial⟩, h1⟩
theorem impl_SystemValid_2.ev {k : Nat} {l0_0 : List ITerm} {v0_0 : PV} (hv0_0 : Sl cITerm l0_0 v0_0) {l0_1 : List Int} {v0_1 : PV} (hv0_1 : Sl (cInt .i64) l0_1 v0_1) {l0_2 : List (List ITerm)} {v0_2 : PV} (hv0_2 : Sl (cSl cITerm) l0_2 v0_2) {l1_0 : List IVar} {v1_0 : PV} (hv1_0 : Sl cIVar l1_0 v1_0) {l1_1 : List IRule} {v1_1 : PV} (hv1_1 : Sl cIRule l1_1 v1_1) {r : Bool} (H : impl_SystemValid_2.f k l0_0 l0_1 l0_2 l1_0 l1_1 = some r) : Ret Tryd.prog 32 [.agg [v0_0, v0_1, v0_2], .fel (v1_0 :: v1_1 :: [])] fun v S => v = .lit (.bool r) := by
 unfold impl_SystemValid_2.f at H
 refine Ret.intro Tryd.func32 rfl (Nat.le_of_ble_eq_true rfl) rfl ?_
 rw [tm2]
 refine Evr.sr rfl (Opl.box (cs := [v0_0, v0_1, v0_2]) rfl rfl rfl rfl ?_)
 rintro i1 S h1 u1 w1
 refine Opl.p1 (n := Opl.nil (Evr.sr rfl (Opl.ldb (v := .agg [v0_0, v0_1, v0_2]) h1 rfl T59 rfl rfl rfl rfl (Opl.p1 (v := .fel (v1_0 :: v1_1 :: [])) (n := Opl.lda (v1_0) rfl T28 rfl rfl rfl rfl (Opl.len (xs := l1_0) (by exact hv1_0) K28 rfl rfl rfl rfl ?_))))))
 obtain ⟨t303, h_t303, H⟩ := Option.bind_eq_some_iff.1 H
 refine Opl.callc (impl_ruleOk.ev hv0_0 hv0_1 hv0_2 h_t303) rfl rfl rfl rfl ⟨(.aggL ⟨hv0_0.plain, hv0_1.plain, hv0_2.plain, trivial⟩), (.lit _), trivial⟩ (by decide) (Opl.p1 (n := Opl.p1 (n := Opl.nil ?_)))
 obtain rfl := Option.some.inj H
 refine Evr.ret1 Tryd.func32 rfl ?_
 show (.lit (.bool (!t303)) : PV) = _
 first | rfl | (simp only [go_sem]; rfl)
theorem slices_IndexFunc_at_impl_SystemValid_2.ev {k : Nat} {l0 : List IRule} {v0 : PV} (hv0 : Sl cIRule l0 v0) {l2_0 : List IVar} {v2_0 : PV} (hv2_0 : Sl cIVar l2_0 v2_0) {l2_1 : List IRule} {v2_1 : PV} (hv2_1 : Sl cIRule l2_1 v2_1) {r : Int} (H : slices_IndexFunc_at_impl_SystemValid_2.f k l0 l2_0 l2_1 = some r) : Ret Tryd.prog 50 [v0, .fn 32 [.fel (v2_0 :: v2_1 :: [])]] fun v S => v = .lit (.int .i64 r) := by
 unfold slices_IndexFunc_at_impl_SystemValid_2.f at H
 refine Ret.intro Tryd.func50 rfl (Nat.le_of_ble_eq_true rfl) rfl ?_
 rw [tm2]
 refine Evr.sr rfl (Opl.p1 (n := Opl.nil (Evr.seq (Evr.sr rfl (Opl.p1 (n := Opl.len (xs := l0) (by exact hv0) K29 rfl rfl rfl rfl (Opl.p1 (n := Opl.nil (Evr.block ?_)))))))))
 refine Evr.loop (Evr.rounds (n := k) (Inv := fun n tm S => n ≤ k ∧ ∃ (x8_1 : Int), slices_IndexFunc_at_impl_SystemValid_2.l0 n l0 (l0.length : Int) x8_1 l2_0 l2_1 = some r ∧ Has tm [(0, v0), (1, .fn 32 [.fel (v2_0 :: v2_1 :: [])]), (7, .lit (.int .i64 (l0.length : Int))), (8, .lit (.int .i64 x8_1))]) ?_ ?_ ?_)
 · exact ⟨Nat.le_refl _, _, H, ⟨rfl, rfl, rfl, rfl, trivial⟩⟩
 ·
  rintro tm S ⟨_, _, H, -⟩
  simp [slices_IndexFunc_at_impl_SystemValid_2.l0] at H
 ·
  rintro n1 ih1 tm S ⟨hle, x8_1, H, hh⟩
  simp only [slices_IndexFunc_at_impl_SystemValid_2.l0] at H
  rw [hh.eq]
  refine Evr.sr rfl (Opl.p1 (n := Opl.nil (Evr.seq ?_)))
  by_cases c1 : x8_1 < (l0.length : Int)
  case neg =>
   rw [if_neg c1] at H
   have e2 : (decide (x8_1 < (l0.length : Int))) = false := by simpa using c1
   try rw [e2]
   refine Evr.condF rfl (Evr.exit rfl (Evr.sr rfl (Opl.p1 (n := Opl.nil ?_))))
   obtain rfl := Option.some.inj H
   refine Evr.ret1 Tryd.func50 rfl ?_
   show (.lit (.int .i64 (-1)) : PV) = _
   first | rfl | (simp only [go_sem]; rfl)
  rw [if_pos c1] at H
  have e1 : (decide (x8_1 < (l0.length : Int))) = true := by simpa using c1
  try rw [e1]
  refine Evr.condT rfl (Evr.skip (Evr.seq (Evr.block (Evr.sr rfl (Opl.p1 (n := Opl.p1 (n := Opl.nil (Evr.sr rfl (Opl.p1 (n := Opl.p1 (n := Opl.p1 (n := ?_))))))))))))
  obtain ⟨c2, H⟩ := peel H
  obtain ⟨c3, H⟩ := peel H
  refine Opl.idx (M := cIRule) (xs := l0) (j := x8_1) zIRule (by exact hv0) rfl (by omega) (by omega) K29 Z59 rfl rfl ?_
  rintro p1 q1 h1
  obtain ⟨pv1, pv2, pv3, rfl, h2, h3, h4⟩ := cIRule_R (x := (rd_IRule l0 x8_1)) h1
  refine Opl.lda (.agg [pv1, pv2, pv3]) rfl T59 rfl rfl rfl rfl ?_
  obtain ⟨t306, h_t306, H⟩ := Option.bind_eq_some_iff.1 H
  refine Opl.callc (impl_SystemValid_2.ev h2 h3 h4 hv2_0 hv2_1 h_t306) rfl rfl rfl rfl ⟨(.aggL ⟨h2.plain, h3.plain, h4.plain, trivial⟩), (.felL ⟨hv2_0.plain, hv2_1.plain, trivial⟩), trivial⟩ (by decide) (Opl.nil ?_)
  by_cases c4 : t306 = true
  case pos =>
   rw [if_pos c4] at H
   obtain rfl : t306 = true := by simpa using c4
   refine Evr.condT rfl (Evr.sr rfl (Opl.p1 (n := Opl.p1 (n := Opl.nil ?_))))
   obtain rfl := Option.some.inj H
   refine Evr.ret1 Tryd.func50 rfl ?_
   show (.lit (.int .i64 x8_1) : PV) = _
   first | rfl | (simp only [go_sem]; rfl)
  rw [if_neg c4] at H
  obtain rfl : t306 = false := by simpa using c4
  refine Evr.condF rfl (Evr.skip (Evr.inBlock (Evr.regionN rfl (Opl.add (k := .i64) (a := x8_1) (b := 1) K3 rfl rfl rfl rfl (Opl.one (v := .lit (.int .i64 (wrap64 (x8_1 + 1)))) rfl rfl rfl (Opl.nil ?_))))))
  exact ih1 _ (by omega) _ _ ⟨by omega, _, H, ⟨rfl, rfl, rfl, rfl, trivial⟩⟩
theorem slices_ContainsFunc_at_impl_SystemValid_2.ev {k : Nat} {l0 : List IRule} {v0 : PV} (hv0 : Sl cIRule l0 v0) {l2_0 : List IVar} {v2_0 : PV} (hv2_0 : Sl cIVar l2_0 v2_0) {l2_1 : List IRule} {v2_1 : PV} (hv2_1 : Sl cIRule l2_1 v2_1) {r : Bool} (H : slices_ContainsFunc_at_impl_SystemValid_2.f k l0 l2_0 l2_1 = some r) : Ret Tryd.prog 31 [v0, .fn 32 [.fel (v2_0 :: v2_1 :: [])]] fun v S => v = .lit (.bool r) := by
 unfold slices_ContainsFunc_at_impl_SystemValid_2.f at H
 refine Ret.intro Tryd.func31 rfl (Nat.le_of_ble_eq_true rfl) rfl ?_
 rw [tm2]
 refine Evr.sr rfl (Opl.p1 (n := Opl.nil (Evr.sr rfl (Opl.p1 (n := Opl.p1 (n := ?_))))))
 obtain ⟨t308, h_t308, H⟩ := Option.bind_eq_some_iff.1 H
 refine Opl.callc (slices_IndexFunc_at_impl_SystemValid_2.ev hv0 hv2_0 hv2_1 h_t308) rfl rfl rfl rfl ⟨hv0.plain, (.fnL ⟨(.felL ⟨hv2_0.plain, hv2_1.plain, trivial⟩), trivial⟩), trivial⟩ (by decide) (Opl.p1 (n := Opl.p1 (n := Opl.nil ?_)))
 obtain rfl := Option.some.inj H
 refine Evr.ret1 Tryd.func31 rfl ?_
 show (.lit (.bool (decide (t308 ≥ 0))) : PV) = _
 first | rfl | (simp only [go_sem]; rfl)
theorem impl_SystemValid.ev {k : Nat} {l0_0 : List IVar} {v0_0 : PV} (hv0_0 : Sl cIVar l0_0 v0_0) {l0_1 : List IRule} {v0_1 : PV} (hv0_1 : Sl cIRule l0_1 v0_1) {r : Bool} (H : impl_SystemValid.f k l0_0 l0_1 = some r) : Ret Tryd.prog 16 [.agg [v0_0, v0_1]] fun v S => v = .lit (.bool r) := by
 unfold impl_SystemValid.f at H
 refine Ret.intro Tryd.func16 rfl (Nat.le_of_ble_eq_true rfl) rfl ?_
 rw [tm1]
 refine Evr.sr rfl (Opl.box (cs := [v0_0, v0_1]) rfl rfl rfl rfl ?_)
 rintro i1 S h1 u1 w1
 refine Opl.p1 (n := Opl.nil (Evr.seq (Evr.seq ?_)))
 refine Evr.join (fun tm S => ∃ (kq1 : Nat) (x24_1 : Bool) (i2 : Abs.Id), impl_SystemValid.j0 kq1 x24_1 l0_0 l0_1 = some r ∧ Has tm [(1, .ptr i2 0), (24, .lit (.bool x24_1))] ∧ Box (.ptr i2 0) [v0_0, v0_1] S) ?_ fun hk1 => ?_
 ·
  rintro tm S ⟨kq1, x24_1, i2, H, hh, h2⟩
  rw [hh.eq]
  obtain _ | k1 := kq1
  · simp [impl_SystemValid.j0] at H
  simp only [impl_SystemValid.j0] at H
  by_cases c1 : x24_1 = true
  case pos =>
   rw [if_pos c1] at H
   obtain rfl : x24_1 = true := by simpa using c1
   refine Evr.condT rfl (Evr.sr rfl (Opl.p1 (n := Opl.nil ?_)))
   obtain rfl := Option.some.inj H
   refine Evr.ret1 Tryd.func16 rfl ?_
   show (.lit (.bool false) : PV) = _
   first | rfl | (simp only [go_sem]; rfl)
  rw [if_neg c1] at H
  obtain rfl : x24_1 = false := by simpa using c1
  refine Evr.condF rfl (Evr.skip (Evr.sr rfl (Opl.p1 (v := .ptr i2 1) (n := Opl.ldb (v := v0_1) h2 rfl T29 rfl rfl rfl rfl (Opl.p1 (n := ?_))))))
  obtain ⟨t313, h_t313, H⟩ := Option.bind_eq_some_iff.1 H
  refine Opl.callw (slices_ContainsFunc_at_impl_SystemValid_2.ev hv0_1 hv0_0 hv0_1 h_t313) rfl rfl rfl (.cons (.refl _) (.cons (View.fnV (.cons (View.boxV h2 (.cons (.refl _) (.cons (.refl _) .nil))) .nil)) .nil)) ⟨hv0_1.plain, (.fnL ⟨(.felL ⟨hv0_0.plain, hv0_1.plain, trivial⟩), trivial⟩), trivial⟩ (by decide) (Opl.p1 (n := Opl.p1 (n := Opl.nil ?_)))
  obtain rfl := Option.some.inj H
  refine Evr.ret1 Tryd.func16 rfl ?_
  show (.lit (.bool (!t313)) : PV) = _
  first | rfl | (simp only [go_sem]; rfl)
 ·
  refine Evr.regionN rfl (Opl.p1 (v := .ptr i1 0) (n := Opl.ldb (v := v0_0) h1 rfl T28 rfl rfl rfl rfl (Opl.len (xs := l0_0) (by exact hv0_0) K28 rfl rfl rfl rfl ?_)))
  obtain ⟨t310, h_t310, H⟩ := Option.bind_eq_some_iff.1 H
  refine Opl.callc (impl_in.ev h_t310) rfl rfl rfl rfl ⟨(.lit _), (.lit _), (.lit _), trivial⟩ (by decide) (Opl.p1 (n := Opl.p1 (n := ?_)))
  by_cases c2 : t310 = true
  case neg =>
   rw [if_neg c2] at H
   have e4 : (!t310) = true := by simpa using c2
   try rw [e4]
   refine Opl.skp rfl (Opl.skp rfl (Opl.skp rfl (Opl.skp rfl (Opl.p1 (n := Opl.p1 (n := Opl.skp rfl (Opl.skp rfl (Opl.skp rfl (Opl.p1 (n := Opl.p1 (n := Opl.skp rfl (Opl.skp rfl (Opl.skp rfl (Opl.skp rfl (Opl.p1 (n := Opl.nil ?_))))))))))))))))
   exact hk1 _ _ ⟨_, _, _, H, ⟨rfl, (by first | rfl | (show PV.lit (.bool _) = _; congr 2; simp_all)), trivial⟩, h1⟩
  rw [if_pos c2] at H
  have e1 : (!t310) = false := by simpa using c2
  try rw [e1]
  refine Opl.p1 (v := .ptr i1 1) (n := Opl.ldb (v := v0_1) h1 rfl T29 rfl rfl rfl rfl (Opl.len (xs := l0_1) (by exact hv0_1) K29 rfl rfl rfl rfl (Opl.p1 (n := Opl.p1 (n := Opl.p1 (n := ?_))))))
  by_cases c3 : (l0_1.length : Int) > 8
  case pos =>
   rw [if_pos c3] at H
   have e2 : (decide ((l0_1.length : Int) > 8)) = true := by simpa using c3
   try rw [e2]
   refine Opl.skp rfl (Opl.skp rfl (Opl.skp rfl (Opl.p1 (n := Opl.p1 (n := Opl.skp rfl (Opl.skp rfl (Opl.skp rfl (Opl.skp rfl (Opl.p1 (n := Opl.nil ?_))))))))))
   exact hk1 _ _ ⟨_, _, _, H, ⟨rfl, (by first | rfl | (show PV.lit (.bool _) = _; congr 2; simp_all)), trivial⟩, h1⟩
  rw [if_neg c3] at H
  have e3 : (decide ((l0_1.length : Int) > 8)) = false := by simpa using c3
  try rw [e3]
  refine Opl.p1 (v := .ptr i1 0) (n := Opl.ldb (v := v0_0) h1 rfl T28 rfl rfl rfl rfl ?_)
  obtain ⟨t311, h_t311, H⟩ := Option.bind_eq_some_iff.1 H
  refine Opl.callc (slices_ContainsFunc_at_impl_SystemValid_1.ev hv0_0 h_t311) rfl rfl rfl rfl ⟨hv0_0.plain, (.lit _), trivial⟩ (by decide) (Opl.p1 (n := Opl.p1 (n := ?_)))
  by_cases c4 : t311 = true
  case pos =>
   rw [if_pos c4] at H
   obtain rfl : t311 = true := by simpa using c4
   refine Opl.skp rfl (Opl.skp rfl (Opl.skp rfl (Opl.skp rfl (Opl.p1 (n := Opl.nil ?_)))))
   exact hk1 _ _ ⟨_, _, _, H, ⟨rfl, (by first | rfl | (show PV.lit (.bool _) = _; congr 2; simp_all)), trivial⟩, h1⟩
  rw [if_neg c4] at H
  obtain rfl : t311 = false := by simpa using c4
  refine Opl.p1 (v := .ptr i1 0) (n := Opl.ldb (v := v0_0) h1 rfl T28 rfl rfl rfl rfl ?_)
  obtain ⟨t312, h_t312, H⟩ := Option.bind_eq_some_iff.1 H
  refine Opl.callc (impl_size.ev hv0_0 h_t312) rfl rfl rfl rfl ⟨hv0_0.plain, trivial⟩ (by decide) (Opl.p1 (n := Opl.p1 (n := Opl.nil ?_)))
  exact hk1 _ _ ⟨_, _, _, H, ⟨rfl, (by first | rfl | (show PV.lit (.bool _) = _; congr 2; simp_all)), trivial⟩, h1⟩
theorem impl_bitsFor.ev {k : Nat} {a0 : Int} {r : Int} (H : impl_bitsFor.f k a0 = some r) : Ret Tryd.prog 34 [.lit (.int .i64 a0)] fun v S => v = .lit (.int .i64 r) := by
 unfold impl_bitsFor.f at H
 refine Ret.intro Tryd.func34 rfl (Nat.le_of_ble_eq_true rfl) rfl ?_
 rw [tm1]
 refine Evr.sr rfl (Opl.p1 (n := Opl.nil (Evr.sr rfl (Opl.p1 (n := Opl.nil (Evr.seq (Evr.block ?_)))))))
 refine Evr.loop (Evr.rounds (n := k) (Inv := fun n tm S => n ≤ k ∧ ∃ (x3_1 : Int), impl_bitsFor.l0 n a0 x3_1 = some r ∧ Has tm [(0, .lit (.int .i64 a0)), (3, .lit (.int .i64 x3_1))]) ?_ ?_ ?_)
 · exact ⟨Nat.le_refl _, _, H, ⟨rfl, rfl, trivial⟩⟩
 ·
  rintro tm S ⟨_, _, H, -⟩
  simp [impl_bitsFor.l0] at H
 ·
  rintro n1 ih1 tm S ⟨hle, x3_1, H, hh⟩
  simp only [impl_bitsFor.l0] at H
  rw [hh.eq]
  refine Evr.seq (Evr.sr rfl (Opl.p1 (n := ?_)))
  obtain ⟨c1, H⟩ := peel H
  refine Opl.one (v := .lit (.int .i64 (shl .i64 1 x3_1))) rfl rfl (by simp only [go_sem]; rw [if_neg (by omega)]; simp only [shl, w64, IntKind.bits]; rfl) (Opl.p1 (n := Opl.p1 (n := Opl.nil ?_)))
  by_cases c2 : (shl .i64 1 x3_1) < a0
  case neg =>
   rw [if_neg c2] at H
   have e2 : (decide ((shl .i64 1 x3_1) < a0)) = false := by simpa using c2
   try rw [e2]
   refine Evr.condF rfl (Evr.exit rfl (Evr.sr rfl (Opl.p1 (n := Opl.p1 (n := Opl.nil ?_)))))
   obtain rfl := Option.some.inj H
   refine Evr.ret1 Tryd.func34 rfl ?_
   show (.lit (.int .i64 x3_1) : PV) = _
   first | rfl | (simp only [go_sem]; rfl)
  rw [if_pos c2] at H
  have e1 : (decide ((shl .i64 1 x3_1) < a0)) = true := by simpa using c2
  try rw [e1]
  refine Evr.condT rfl (Evr.skip (Evr.block (Evr.regionN rfl (Opl.p1 (n := Opl.add (k := .i64) (a := x3_1) (b := 1) K3 rfl rfl rfl rfl (Opl.one (v := .lit (.int .i64 (wrap64 (x3_1 + 1)))) rfl rfl rfl (Opl.nil (Evr.inBlock ?_))))))))
  exact ih1 _ (by omega) _ _ ⟨by omega, _, H, ⟨rfl, rfl, trivial⟩⟩
theorem impl_clone_int.ev {l0 : List Int} {v0 : PV} (hv0 : Sl (cInt .i64) l0 v0) {r : List Int} (H : impl_clone_int.f l0 = some r) : Ret Tryd.prog 35 [v0] fun v S => Vec (cInt .i64) r v S := by
 unfold impl_clone_int.f at H
 refine Ret.intro Tryd.func35 rfl (Nat.le_of_ble_eq_true rfl) rfl ?_
 rw [tm1]
 obtain ⟨c1, H⟩ := peel H
 obtain rfl := Option.some.inj H
 refine Evr.seq (Evr.regionN rfl (Opl.p1 (n := Opl.nil (Evr.seq (Evr.seq (Evr.regionN rfl (Opl.p1 (n := Opl.len (by exact hv0) K37 rfl rfl rfl rfl (Opl.p1 (n := Opl.nil ?_))))))))))
 by_cases c2 : (l0.length : Int) = 0
 · have e1 : ((l0.length : Int) == 0) = true := by simpa using c2
   try rw [e1]
   refine Evr.condT rfl (Evr.seq (Evr.regionN rfl (Opl.p1 (n := Opl.nil ?_))))
   obtain rfl : l0 = [] := List.eq_nil_of_length_eq_zero (by omega)
   refine Evr.ret1 Tryd.func35 rfl ?_
   exact .nil
 · have e1 : ((l0.length : Int) == 0) = false := by simpa using c2
   try rw [e1]
   refine Evr.condF rfl (Evr.skip (Evr.seq (Evr.regionN rfl (Opl.p1 (n := Opl.len (by exact hv0) K37 rfl rfl rfl rfl ?_)))))
   refine Opl.make (M := (cInt .i64)) (m := (l0.length : Int)) (0 : Int) (by exact rfl) rfl rfl K37 T3 rfl (by omega) (by show (_ : Nat) * 8 ≤ 281474976710656; omega) (by omega) rfl rfl rfl ?_
   rintro pv1 S h1 u1 w1
   refine Opl.p1 (n := Opl.nil (Evr.seq (Evr.regionN rfl (Opl.p1 (n := Opl.p1 (n := ?_))))))
   refine Opl.copy (M := (cInt .i64)) (ys := l0) h1 (by exact hv0) (oInt .i64) rfl (by simp) (by simp; omega) K37 Z3 rfl rfl rfl rfl rfl ?_
   rintro S h2 u2
   refine Opl.nil (Evr.seq (Evr.regionN rfl (Opl.p1 (n := Opl.p1 (n := Opl.nil ?_)))))
   refine Evr.ret1 Tryd.func35 rfl ?_
   exact h2
theorem impl_bitsOf.ev {k : Nat} {l0_0 : List IVar} {v0_0 : PV} (hv0_0 : Sl cIVar l0_0 v0_0) {l0_1 : List IRule} {v0_1 : PV} (hv0_1 : Sl cIRule l0_1 v0_1) {r : (List Int)} (H : impl_bitsOf.f k l0_0 l0_1 = some r) : Ret Tryd.prog 17 [.agg [v0_0, v0_1]] fun v S => Vec (cInt .i64) r v S := by
 unfold impl_bitsOf.f at H
 refine Ret.intro Tryd.func17 rfl (Nat.le_of_ble_eq_true rfl) rfl ?_
 rw [tm1]
 refine Evr.sr rfl (Opl.box (cs := [v0_0, v0_1]) rfl rfl rfl rfl ?_)
 rintro i1 S h1 u1 w1
 refine Opl.p1 (n := Opl.nil (Evr.sr rfl (Opl.p1 (n := Opl.nil (Evr.seq (Evr.sr rfl (Opl.p1 (v := .ptr i1 0) (n := Opl.ldb (v := v0_0) h1 rfl T28 rfl rfl rfl rfl (Opl.len (xs := l0_0) (by exact hv0_0) K28 rfl rfl rfl rfl (Opl.p1 (n := Opl.nil (Evr.block ?_))))))))))))
 refine Evr.loop (Evr.rounds (n := k) (Inv := fun n tm S => n ≤ k ∧ ∃ (x3_1 : List Int) (x9_1 : Int) (pv1 : PV), impl_bitsOf.l0 n x3_1 l0_0 (l0_0.length : Int) x9_1 = some r ∧ Has tm [(3, pv1), (7, v0_0), (8, .lit (.int .i64 (l0_0.length : Int))), (9, .lit (.int .i64 x9_1))] ∧ Vec (cInt .i64) x3_1 pv1 S) ?_ ?_ ?_)
 · exact ⟨Nat.le_refl _, _, _, _, H, ⟨rfl, rfl, rfl, rfl, trivial⟩, .nil⟩
 ·
  rintro tm S ⟨_, _, _, _, H, -⟩
  simp [impl_bitsOf.l0] at H
 ·
  rintro n1 ih1 tm S ⟨hle, x3_1, x9_1, pv1, H, hh, h2⟩
  simp only [impl_bitsOf.l0] at H
  rw [hh.eq]
  refine Evr.sr rfl (Opl.p1 (n := Opl.nil (Evr.seq ?_)))
  by_cases c1 : x9_1 < (l0_0.length : Int)
  case neg =>
   rw [if_neg c1] at H
   have e2 : (decide (x9_1 < (l0_0.length : Int))) = false := by simpa using c1
   try rw [e2]
   refine Evr.condF rfl (Evr.exit rfl (Evr.sr rfl (Opl.p1 (n := ?_))))
   obtain ⟨t321, h_t321, H⟩ := Option.bind_eq_some_iff.1 H
   obtain ⟨pv4, h14, -, h15⟩ := Out.vec h2
   refine Opl.callav (sInt .i64) (impl_clone_int.ev h15 h_t321) rfl rfl rfl (.cons h14 .nil) ⟨h15.plain, trivial⟩ rfl ?_
   rintro pv5 S h16 u6 w6
   have ap6 := w6.vec h2
   have h17 := u6.vec h2 ap6
   refine Opl.p1 (n := Opl.nil ?_)
   obtain rfl := Option.some.inj H
   refine Evr.ret1 Tryd.func17 rfl ?_
   show Vec _ _ pv5 _
   exact h16
  rw [if_pos c1] at H
  have e1 : (decide (x9_1 < (l0_0.length : Int))) = true := by simpa using c1
  try rw [e1]
  refine Evr.condT rfl (Evr.skip (Evr.seq (Evr.block (Evr.sr rfl ?_))))
  obtain ⟨c2, H⟩ := peel H
  obtain ⟨c3, H⟩ := peel H
  refine Opl.idx (M := cIVar) (xs := l0_0) (j := x9_1) zIVar (by exact hv0_0) rfl (by omega) (by omega) K28 Z53 rfl rfl ?_
  rintro p1 q1 h3
  obtain rfl := cIVar_R (x := (rd_IVar l0_0 x9_1)) h3
  refine Opl.lda (.agg [.lit (.int .i64 ((rd_IVar l0_0 x9_1).f0)), .lit (.int .i64 ((rd_IVar l0_0 x9_1).f1)), .lit (.int .i64 ((rd_IVar l0_0 x9_1).f2))]) rfl T53 rfl rfl rfl rfl (Opl.alloc T53 rfl rfl rfl ?_)
  rintro i2 S h4 u2 w2
  have ap1 := w2.vec h2
  have h5 := u2.vec h2 ap1
  refine Opl.stb (vs := [.lit (.int .i64 ((rd_IVar l0_0 x9_1).f0)), .lit (.int .i64 ((rd_IVar l0_0 x9_1).f1)), .lit (.int .i64 ((rd_IVar l0_0 x9_1).f2))]) h4 rfl rfl Z53 rfl (Nat.le_of_ble_eq_true rfl) rfl rfl rfl rfl ?_
  rintro S (h6 : Box (.ptr i2 0) [.lit (.int .i64 ((rd_IVar l0_0 x9_1).f0)), .lit (.int .i64 ((rd_IVar l0_0 x9_1).f1)), .lit (.int .i64 ((rd_IVar l0_0 x9_1).f2))] _) u3
  have h7 := u3.vec h5 ap1
  refine Opl.nil (Evr.regionN rfl (Opl.p1 (n := Opl.p1 (v := .ptr i2 1) (n := Opl.ldb (v := .lit (.int .i64 ((rd_IVar l0_0 x9_1).f1))) h6 rfl T3 rfl rfl rfl rfl (Opl.p1 (v := .ptr i2 0) (n := Opl.ldb (v := .lit (.int .i64 ((rd_IVar l0_0 x9_1).f0))) h6 rfl T3 rfl rfl rfl rfl (Opl.subi (k := .i64) (a := ((rd_IVar l0_0 x9_1).f1)) (b := ((rd_IVar l0_0 x9_1).f0)) K3 rfl rfl rfl rfl (Opl.add (k := .i64) (a := (wrap64 (((rd_IVar l0_0 x9_1).f1) - ((rd_IVar l0_0 x9_1).f0)))) (b := 1) K3 rfl rfl rfl rfl ?_))))))))
  obtain ⟨t317, h_t317, H⟩ := Option.bind_eq_some_iff.1 H
  refine Opl.callc (impl_bitsFor.ev h_t317) rfl rfl rfl rfl ⟨(.lit _), trivial⟩ (by decide) (Opl.lits (M := (cInt .i64)) (ys := [t317]) [.tmp 20] K37 T3 rfl rfl rfl (by exact ⟨rfl, trivial⟩) rfl (by decide) rfl rfl rfl ?_)
  rintro pv2 S h8 u4 w4
  have ap2 := w4.vec h7
  have h9 := u4.vec h7 ap2
  have ap3 := w4.box h6
  have h10 := u4.box h6 ap3
  obtain ⟨c4, H⟩ := peel H
  refine Opl.app (M := (cInt .i64)) (xs := x3_1) (ys := [t317]) (v := pv1) h9 (.vec h8) (oInt .i64) rfl rfl K37 T3 rfl rfl (by (try simp only [List.length_cons, List.length_nil]); omega) (by show (_ + _) * 8 ≤ 140737488355328; (try simp only [List.length_cons, List.length_nil]); omega) rfl rfl rfl rfl rfl ?_
  rintro pv3 S h11 u5 w5
  have ap4 := w5.box h10
  have h12 := u5.box h10 ap1.symm
  have ap5 := w5.vec h8
  have h13 := u5.vec h8 ap2.symm
  refine Opl.one (v := pv3) rfl rfl rfl (Opl.nil (Evr.inBlock (Evr.regionN rfl (Opl.add (k := .i64) (a := x9_1) (b := 1) K3 rfl rfl rfl rfl (Opl.one (v := .lit (.int .i64 (wrap64 (x9_1 + 1)))) rfl rfl rfl (Opl.nil ?_))))))
  exact ih1 _ (by omega) _ _ ⟨by omega, _, _, _, H, ⟨rfl, rfl, rfl, rfl, trivial⟩, h11⟩
theorem internal_strconv_small.ev {k : Nat} {a0 : Int} {r : ByteArray} (H : internal_strconv_small.f k a0 = some r) : Ret Tryd.prog 59 [.lit (.int .i64 a0)] fun v S => v = .lit (.string r) := by
 unfold internal_strconv_small.f at H
 refine Ret.intro Tryd.func59 rfl (Nat.le_of_ble_eq_true rfl) rfl ?_
 rw [tm1]
 refine Evr.sr rfl (Opl.p1 (n := Opl.nil (Evr.seq (Evr.sr rfl (Opl.p1 (n := Opl.p1 (n := Opl.nil ?_)))))))
 by_cases c1 : a0 < 10
 case pos =>
  rw [if_pos c1] at H
  have e1 : (decide (a0 < 10)) = true := by simpa using c1
  try rw [e1]
  refine Evr.condT rfl (Evr.sr rfl (Opl.p1 (n := Opl.p1 (n := Opl.add (k := .i64) (a := a0) (b := 1) K3 rfl rfl rfl rfl ?_))))
  obtain ⟨c2, H⟩ := peel H
  obtain ⟨c3, H⟩ := peel H
  obtain ⟨c4, H⟩ := peel H
  refine Opl.slstr (s := (⟨#[48, 49, 50, 51, 52, 53, 54, 55, 56, 57, 97, 98, 99, 100, 101, 102, 103, 104, 105, 106, 107, 108, 109, 110, 111, 112, 113, 114, 115, 116, 117, 118, 119, 120, 121, 122]⟩ : ByteArray)) (a := a0) (b := (wrap64 (a0 + 1))) rfl rfl rfl (by omega) (by omega) (by assumption) K9 rfl rfl rfl (Opl.p1 (n := Opl.nil ?_))
  obtain rfl := Option.some.inj H
  refine Evr.ret1 Tryd.func59 rfl ?_
  show (.lit (.string ((⟨#[48, 49, 50, 51, 52, 53, 54, 55, 56, 57, 97, 98, 99, 100, 101, 102, 103, 104, 105, 106, 107, 108, 109, 110, 111, 112, 113, 114, 115, 116, 117, 118, 119, 120, 121, 122]⟩ : ByteArray).extract (a0 : Int).toNat ((wrap64 (a0 + 1)) : Int).toNat)) : PV) = _
  first | rfl | (simp only [go_sem]; rfl)
 rw [if_neg c1] at H
 have e2 : (decide (a0 < 10)) = false := by simpa using c1
 try rw [e2]
 refine Evr.condF rfl (Evr.skip (Evr.sr rfl (Opl.p1 (n := Opl.mul (k := .i64) (a := a0) (b := 2) K3 rfl rfl rfl rfl (Opl.one (v := .lit (.int .i64 a0)) rfl rfl rfl (Opl.mul (k := .i64) (a := a0) (b := 2) K3 rfl rfl rfl rfl (Opl.add (k := .i64) (a := (wrap64 (a0 * 2))) (b := 2) K3 rfl rfl rfl rfl ?_)))))))
 obtain ⟨c5, H⟩ := peel H
 obtain ⟨c6, H⟩ := peel H
 obtain ⟨c7, H⟩ := peel H
 refine Opl.slstr (s := (⟨#[48, 48, 48, 49, 48, 50, 48, 51, 48, 52, 48, 53, 48, 54, 48, 55, 48, 56, 48, 57, 49, 48, 49, 49, 49, 50, 49, 51, 49, 52, 49, 53, 49, 54, 49, 55, 49, 56, 49, 57, 50, 48, 50, 49, 50, 50, 50, 51, 50, 52, 50, 53, 50, 54, 50, 55, 50, 56, 50, 57, 51, 48, 51, 49, 51, 50, 51, 51, 51, 52, 51, 53, 51, 54, 51, 55, 51, 56, 51, 57, 52, 48, 52, 49, 52, 50, 52, 51, 52, 52, 52, 53, 52, 54, 52, 55, 52, 56, 52, 57, 53, 48, 53, 49, 53, 50, 53, 51, 53, 52, 53, 53, 53, 54, 53, 55, 53, 56, 53, 57, 54, 48, 54, 49, 54, 50, 54, 51, 54, 52, 54, 53, 54, 54, 54, 55, 54, 56, 54, 57, 55, 48, 55, 49, 55, 50, 55, 51, 55, 52, 55, 53, 55, 54, 55, 55, 55, 56, 55, 57, 56, 48, 56, 49, 56, 50, 56, 51, 56, 52, 56, 53, 56, 54, 56, 55, 56, 56, 56, 57, 57, 48, 57, 49, 57, 50, 57, 51, 57, 52, 57, 53, 57, 54, 57, 55, 57, 56, 57, 57]⟩ : ByteArray)) (a := (wrap64 (a0 * 2))) (b := (wrap64 ((wrap64 (a0 * 2)) + 2))) rfl rfl rfl (by omega) (by omega) (by assumption) K9 rfl rfl rfl (Opl.p1 (n := Opl.nil ?_))
 obtain rfl := Option.some.inj H
 refine Evr.ret1 Tryd.func59 rfl ?_
 show (.lit (.string ((⟨#[48, 48, 48, 49, 48, 50, 48, 51, 48, 52, 48, 53, 48, 54, 48, 55, 48, 56, 48, 57, 49, 48, 49, 49, 49, 50, 49, 51, 49, 52, 49, 53, 49, 54, 49, 55, 49, 56, 49, 57, 50, 48, 50, 49, 50, 50, 50, 51, 50, 52, 50, 53, 50, 54, 50, 55, 50, 56, 50, 57, 51, 48, 51, 49, 51, 50, 51, 51, 51, 52, 51, 53, 51, 54, 51, 55, 51, 56, 51, 57, 52, 48, 52, 49, 52, 50, 52, 51, 52, 52, 52, 53, 52, 54, 52, 55, 52, 56, 52, 57, 53, 48, 53, 49, 53, 50, 53, 51, 53, 52, 53, 53, 53, 54, 53, 55, 53, 56, 53, 57, 54, 48, 54, 49, 54, 50, 54, 51, 54, 52, 54, 53, 54, 54, 54, 55, 54, 56, 54, 57, 55, 48, 55, 49, 55, 50, 55, 51, 55, 52, 55, 53, 55, 54, 55, 55, 55, 56, 55, 57, 56, 48, 56, 49, 56, 50, 56, 51, 56, 52, 56, 53, 56, 54, 56, 55, 56, 56, 56, 57, 57, 48, 57, 49, 57, 50, 57, 51, 57, 52, 57, 53, 57, 54, 57, 55, 57, 56, 57, 57]⟩ : ByteArray).extract ((wrap64 (a0 * 2)) : Int).toNat ((wrap64 ((wrap64 (a0 * 2)) + 2)) : Int).toNat)) : PV) = _
 first | rfl | (simp only [go_sem]; rfl)
theorem internal_strconv_FormatInt.ev {k : Nat} {a0 : Int} {a1 : Int} {r : ByteArray} (H : internal_strconv_FormatInt.f k a0 a1 = some r) : Ret Tryd.prog 52 [.lit (.int .i64 a0), .lit (.int .i64 a1)] fun v S => v = .lit (.string r) := by
 unfold internal_strconv_FormatInt.f at H
 refine Ret.intro Tryd.func52 rfl (Nat.le_of_ble_eq_true rfl) rfl ?_
 rw [tm2]
 refine Evr.sr rfl (Opl.p1 (n := Opl.nil (Evr.seq (Evr.sr rfl (Opl.p1 (n := Opl.p1 (n := Opl.nil ?_)))))))
 by_cases c1 : a1 = 10
 case neg =>
  rw [if_neg c1] at H
  cases H
 rw [if_pos c1] at H
 have e1 : (a1 == 10) = true := by simpa using c1
 try rw [e1]
 refine Evr.condT rfl (Evr.seq (Evr.seq ?_))
 refine Evr.join2 (fun tm S => ∃ (kq1 : Nat), internal_strconv_FormatInt.j1 kq1 a0 = some r ∧ Has tm [(0, .lit (.int .i64 a0))]) ?_ fun hk1 => ?_
 ·
  rintro tm S ⟨kq1, H, hh⟩
  rw [hh.eq]
  refine Evr.sr rfl (Opl.alloc T90 rfl rfl rfl ?_)
  rintro i1 S h1 u1 w1
  refine Opl.nil (Evr.sr rfl (Opl.p1 (n := Opl.p1 (v := .lit (.int .u64 (IntKind.u64.wrap a0))) (n := Opl.p1 (n := Opl.nil (Evr.seq (Evr.sr rfl (Opl.p1 (n := Opl.p1 (n := Opl.nil ?_))))))))))
  obtain _ | k1 := kq1
  · simp [internal_strconv_FormatInt.j1] at H
  simp only [internal_strconv_FormatInt.j1] at H
  cases H
 ·
  refine Evr.regionN rfl (Opl.p1 (n := Opl.p1 (n := Opl.p1 (n := ?_))))
  by_cases c2 : 0 ≤ a0
  case neg =>
   rw [if_neg c2] at H
   have e5 : (decide (0 ≤ a0)) = false := by simpa using c2
   try rw [e5]
   refine Opl.skp rfl (Opl.skp rfl (Opl.p1 (n := Opl.nil (Evr.condF rfl (Evr.skip ?_)))))
   exact hk1 _ _ ⟨_, H, ⟨rfl, trivial⟩⟩
  rw [if_pos c2] at H
  have e2 : (decide (0 ≤ a0)) = true := by simpa using c2
  try rw [e2]
  refine Opl.p1 (n := Opl.p1 (n := Opl.p1 (n := Opl.nil ?_)))
  by_cases c3 : a0 < 100
  case neg =>
   rw [if_neg c3] at H
   have e4 : (decide (a0 < 100)) = false := by simpa using c3
   try rw [e4]
   refine Evr.condF rfl (Evr.skip ?_)
   exact hk1 _ _ ⟨_, H, ⟨rfl, trivial⟩⟩
  rw [if_pos c3] at H
  have e3 : (decide (a0 < 100)) = true := by simpa using c3
  try rw [e3]
  refine Evr.condT rfl (Evr.sr rfl (Opl.p1 (n := ?_)))
  obtain ⟨r1, h_r1, H⟩ := Option.bind_eq_some_iff.1 H
  refine Opl.callc (internal_strconv_small.ev h_r1) rfl rfl rfl rfl ⟨(.lit _), trivial⟩ (by decide) (Opl.p1 (n := Opl.nil ?_))
  obtain rfl := Option.some.inj H
  refine Evr.ret1 Tryd.func52 rfl ?_
  show (.lit (.string r1) : PV) = _
  first | rfl | (simp only [go_sem]; rfl)
theorem internal_strconv_Itoa.ev {k : Nat} {a0 : Int} {r : ByteArray} (H : internal_strconv_Itoa.f k a0 = some r) : Ret Tryd.prog 36 [.lit (.int .i64 a0)] fun v S => v = .lit (.string r) := by
 unfold internal_strconv_Itoa.f at H
 refine Ret.intro Tryd.func36 rfl (Nat.le_of_ble_eq_true rfl) rfl ?_
 rw [tm1]
 refine Evr.sr rfl (Opl.p1 (n := Opl.nil (Evr.sr rfl (Opl.p1 (n := ?_)))))
 obtain ⟨r1, h_r1, H⟩ := Option.bind_eq_some_iff.1 H
 refine Opl.callc (internal_strconv_FormatInt.ev h_r1) rfl rfl rfl rfl ⟨(.lit _), (.lit _), trivial⟩ (by decide) (Opl.p1 (n := Opl.nil ?_))
 obtain rfl := Option.some.inj H
 refine Evr.ret1 Tryd.func36 rfl ?_
 show (.lit (.string r1) : PV) = _
 first | rfl | (simp only [go_sem]; rfl)
theorem strconv_Itoa.ev {k : Nat} {a0 : Int} {r : ByteArray} (H : strconv_Itoa.f k a0 = some r) : Ret Tryd.prog 18 [.lit (.int .i64 a0)] fun v S => v = .lit (.string r) := by
 unfold strconv_Itoa.f at H
 refine Ret.intro Tryd.func18 rfl (Nat.le_of_ble_eq_true rfl) rfl ?_
 rw [tm1]
 refine Evr.sr rfl (Opl.p1 (n := Opl.nil (Evr.sr rfl (Opl.p1 (n := ?_)))))
 obtain ⟨r1, h_r1, H⟩ := Option.bind_eq_some_iff.1 H
 refine Opl.callc (internal_strconv_Itoa.ev h_r1) rfl rfl rfl rfl ⟨(.lit _), trivial⟩ (by decide) (Opl.p1 (n := Opl.nil ?_))
 obtain rfl := Option.some.inj H
 refine Evr.ret1 Tryd.func18 rfl ?_
 show (.lit (.string r1) : PV) = _
 first | rfl | (simp only [go_sem]; rfl)
theorem impl_BitName.ev {k : Nat} {l0_0 : List IVar} {v0_0 : PV} (hv0_0 : Sl cIVar l0_0 v0_0) {l0_1 : List IRule} {v0_1 : PV} (hv0_1 : Sl cIRule l0_1 v0_1) {a1 : Int} {r : ByteArray} (H : impl_BitName.f k l0_0 l0_1 a1 = some r) : Ret Tryd.prog 7 [.agg [v0_0, v0_1], .lit (.int .i64 a1)] fun v S => v = .lit (.string r) := by
 unfold impl_BitName.f at H
 refine Ret.intro Tryd.func7 rfl (Nat.le_of_ble_eq_true rfl) rfl ?_
 rw [tm2]
 refine Evr.sr rfl (Opl.box (cs := [v0_0, v0_1]) rfl rfl rfl rfl ?_)
 rintro i1 S h1 u1 w1
 refine Opl.p1 (n := Opl.nil (Evr.seq (Evr.sr rfl (Opl.ldb (v := .agg [v0_0, v0_1]) h1 rfl T31 rfl rfl rfl rfl ?_))))
 obtain ⟨r1, h_r1, H⟩ := Option.bind_eq_some_iff.1 H
 refine Opl.callc (impl_SystemValid.ev hv0_0 hv0_1 h_r1) rfl rfl rfl rfl ⟨(.aggL ⟨hv0_0.plain, hv0_1.plain, trivial⟩), trivial⟩ (by decide) (Opl.p1 (n := Opl.p1 (n := ?_)))
 by_cases c1 : r1 = true
 case neg =>
  rw [if_neg c1] at H
  have e8 : (!r1) = true := by simpa using c1
  try rw [e8]
  refine Opl.skp rfl (Opl.skp rfl (Opl.p1 (n := Opl.nil (Evr.condT rfl (Evr.sr rfl (Opl.p1 (n := Opl.nil ?_)))))))
  obtain rfl := Option.some.inj H
  refine Evr.ret1 Tryd.func7 rfl ?_
  show (.lit (.string (⟨#[]⟩ : ByteArray)) : PV) = _
  first | rfl | (simp only [go_sem]; rfl)
 rw [if_pos c1] at H
 have e1 : (!r1) = false := by simpa using c1
 try rw [e1]
 refine Opl.p1 (n := Opl.p1 (n := Opl.p1 (n := Opl.nil ?_)))
 by_cases c2 : a1 < 0
 case pos =>
  rw [if_pos c2] at H
  have e2 : (decide (a1 < 0)) = true := by simpa using c2
  try rw [e2]
  refine Evr.condT rfl (Evr.sr rfl (Opl.p1 (n := Opl.nil ?_)))
  obtain rfl := Option.some.inj H
  refine Evr.ret1 Tryd.func7 rfl ?_
  show (.lit (.string (⟨#[]⟩ : ByteArray)) : PV) = _
  first | rfl | (simp only [go_sem]; rfl)
 rw [if_neg c2] at H
 have e3 : (decide (a1 < 0)) = false := by simpa using c2
 try rw [e3]
 refine Evr.condF rfl (Evr.skip (Evr.seq (Evr.sr rfl (Opl.ldb (v := .agg [v0_0, v0_1]) h1 rfl T31 rfl rfl rfl rfl ?_))))
 obtain ⟨r2, h_r2, H⟩ := Option.bind_eq_some_iff.1 H
 refine Opl.call ((impl_bitsOf.ev hv0_0 hv0_1 h_r2).mono fun _ _ h => Out.vec h) rfl rfl rfl rfl ⟨(.aggL ⟨hv0_0.plain, hv0_1.plain, trivial⟩), trivial⟩ (by decide) ?_
 rintro pv1 h2
 refine Opl.len (xs := r2) (by exact h2) K37 rfl rfl rfl rfl (Opl.p1 (n := Opl.nil (Evr.block ?_)))
 refine Evr.loop (Evr.rounds (n := k) (Inv := fun n tm S => n ≤ k ∧ ∃ (x1_1 : Int) (x17_1 : Int), impl_BitName.l1 n x1_1 x17_1 r2 = some r ∧ Has tm [(1, .lit (.int .i64 x1_1)), (15, pv1), (16, .lit (.int .i64 (r2.length : Int))), (17, .lit (.int .i64 x17_1))]) ?_ ?_ ?_)
 · exact ⟨Nat.le_refl _, _, _, H, ⟨rfl, rfl, rfl, rfl, trivial⟩⟩
 ·
  rintro tm S ⟨_, _, _, H, -⟩
  simp [impl_BitName.l1] at H
 ·
  rintro n1 ih1 tm S ⟨hle, x1_1, x17_1, H, hh⟩
  simp only [impl_BitName.l1] at H
  rw [hh.eq]
  refine Evr.sr rfl (Opl.p1 (n := Opl.nil (Evr.seq ?_)))
  by_cases c3 : x17_1 < (r2.length : Int)
  case neg =>
   rw [if_neg c3] at H
   have e7 : (decide (x17_1 < (r2.length : Int))) = false := by simpa using c3
   try rw [e7]
   refine Evr.condF rfl (Evr.exit rfl (Evr.sr rfl (Opl.p1 (n := Opl.nil ?_))))
   obtain rfl := Option.some.inj H
   refine Evr.ret1 Tryd.func7 rfl ?_
   show (.lit (.string (⟨#[]⟩ : ByteArray)) : PV) = _
   first | rfl | (simp only [go_sem]; rfl)
  rw [if_pos c3] at H
  have e4 : (decide (x17_1 < (r2.length : Int))) = true := by simpa using c3
  try rw [e4]
  refine Evr.condT rfl (Evr.skip (Evr.seq (Evr.block (Evr.sr rfl (Opl.p1 (n := ?_))))))
  obtain ⟨c4, H⟩ := peel H
  obtain ⟨c5, H⟩ := peel H
  refine Opl.idx (M := (cInt .i64)) (xs := r2) (j := x17_1) (0 : Int) (by exact h2) rfl (by omega) (by omega) K37 Z3 rfl rfl ?_
  rintro p1 q1 h3
  obtain rfl : p1 = [.lit (.int .i64 (rd r2 x17_1))] := h3
  refine Opl.lda (.lit (.int .i64 (rd r2 x17_1))) rfl T3 rfl rfl rfl rfl (Opl.p1 (n := Opl.p1 (n := Opl.nil (Evr.seq (Evr.sr rfl (Opl.p1 (n := Opl.p1 (n := Opl.p1 (n := Opl.nil ?_)))))))))
  by_cases c6 : x1_1 < (rd r2 x17_1)
  case neg =>
   rw [if_neg c6] at H
   have e6 : (decide (x1_1 < (rd r2 x17_1))) = false := by simpa using c6
   try rw [e6]
   refine Evr.condF rfl (Evr.skip (Evr.regionN rfl (Opl.p1 (n := Opl.p1 (n := Opl.subi (k := .i64) (a := x1_1) (b := (rd r2 x17_1)) K3 rfl rfl rfl rfl (Opl.one (v := .lit (.int .i64 (wrap64 (x1_1 - (rd r2 x17_1))))) rfl rfl rfl (Opl.nil (Evr.inBlock (Evr.regionN rfl (Opl.add (k := .i64) (a := x17_1) (b := 1) K3 rfl rfl rfl rfl (Opl.one (v := .lit (.int .i64 (wrap64 (x17_1 + 1)))) rfl rfl rfl (Opl.nil ?_))))))))))))
   exact ih1 _ (by omega) _ _ ⟨by omega, _, _, H, ⟨rfl, rfl, rfl, rfl, trivial⟩⟩
  rw [if_pos c6] at H
  have e5 : (decide (x1_1 < (rd r2 x17_1))) = true := by simpa using c6
  try rw [e5]
  refine Evr.condT rfl (Evr.sr rfl (Opl.p1 (n := ?_)))
  obtain ⟨r3, h_r3, H⟩ := Option.bind_eq_some_iff.1 H
  refine Opl.callc (strconv_Itoa.ev h_r3) rfl rfl rfl rfl ⟨(.lit _), trivial⟩ (by decide) ?_
  obtain ⟨c7, H⟩ := peel H
  obtain ⟨c8, H⟩ := peel H
  refine Opl.adds (a := (⟨#[118]⟩ : ByteArray)) (b := r3) (by assumption) K9 rfl rfl rfl rfl (Opl.adds (a := ((⟨#[118]⟩ : ByteArray) ++ r3)) (b := (⟨#[46]⟩ : ByteArray)) (by assumption) K9 rfl rfl rfl rfl (Opl.p1 (n := Opl.subi (k := .i64) (a := (rd r2 x17_1)) (b := 1) K3 rfl rfl rfl rfl (Opl.one (v := .lit (.int .i64 x1_1)) rfl rfl rfl (Opl.subi (k := .i64) (a := (wrap64 ((rd r2 x17_1) - 1))) (b := x1_1) K3 rfl rfl rfl rfl ?_)))))
  obtain ⟨r4, h_r4, H⟩ := Option.bind_eq_some_iff.1 H
  refine Opl.callc (strconv_Itoa.ev h_r4) rfl rfl rfl rfl ⟨(.lit _), trivial⟩ (by decide) ?_
  obtain ⟨c9, H⟩ := peel H
  refine Opl.adds (a := (((⟨#[118]⟩ : ByteArray) ++ r3) ++ (⟨#[46]⟩ : ByteArray))) (b := r4) (by assumption) K9 rfl rfl rfl rfl (Opl.p1 (n := Opl.nil ?_))
  obtain rfl := Option.some.inj H
  refine Evr.ret1 Tryd.func7 rfl ?_
  show (.lit (.string ((((⟨#[118]⟩ : ByteArray) ++ r3) ++ (⟨#[46]⟩ : ByteArray)) ++ r4)) : PV) = _
  first | rfl | (simp only [go_sem]; rfl)
end Go.Proofs.YtpbpmfckmgcdfaaDoor.PA
end
