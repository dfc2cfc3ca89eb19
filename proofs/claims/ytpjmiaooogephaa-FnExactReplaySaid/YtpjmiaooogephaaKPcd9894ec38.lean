/- Walks of Go functions: each is shown to answer as the Lean function beside it tells, under the conditions that its theorem names. -/
import Derived.Test.YtpjmiaooogephaaProg
import Derived.KernelRfl
import Derived.Below
import Derived.Deep.Draws
import Derived.Deep.AppendLies
import Derived.Maps.AppendAt
import Derived.OwnWalk
import Derived.Laws.BytesArg
import Derived.Laws.MakeOwn
import Derived.Laws.OwnMore
import Derived.Deep.OwnRows
import Derived.Tactics
import Derived.Lib.ConvBytes
import Derived.Laws.Slices
import Derived.WalkKit
import Derived.RowKit3
import Derived.Deep.LoopGhost
import Derived.Deep.QuietTactic
import Derived.BigQuiet
import Derived.WideLaws
import Derived.Deep.DeepCutAuto
import Derived.Deep.CutBlock
import Derived.Deep.RegionHeld3
import Derived.Laws.Rows
import Derived.Lib.AppendStr
import Derived.ArgAppend
import Derived.Laws.IdiomCopy
import Derived.OrdersHeld
import Derived.Laws.BitsLemmas
import Derived.RowKit
import Derived.Laws.StructEq
import Derived.Lib.SliceRun
import Derived.WalkSpells
import Derived.ChangeArms
import Derived.ChangeSlices
import Derived.Deep.Slices
import Derived.Attr
import Derived.Laws.Append
import Derived.Laws.AppendOwn
import Derived.Laws.Entries
import Derived.Calls
import Derived.Laws.Sem
import Derived.Test.YtpjmiaooogephaaKW7d23ee8688
import Derived.Test.YtpjmiaooogephaaKD5f0e3cb7e6
section
namespace Go.Proofs.Ytpjmiaooogephaa.PA
open Go Go.Abs Go.RowKit Go.Proofs Go.Proofs.YtpjmiaooogephaaW.PrintWords Go.Proofs.YtpjmiaooogephaaW.PrintLast Go.Proofs.YtpjmiaooogephaaW.PrintMore
set_option maxRecDepth 100000
theorem K3 : tkAt Try.prog 3 = some (.int .i64) := by kernel_rfl
theorem Z3 : szAt Try.prog 3 = some 1 := by kernel_rfl
theorem T3 : tiOf Try.prog 3 = some ⟨(.int .i64), 1, 8, [.int .i64 0], []⟩ := by kernel_rfl
theorem K4 : tkAt Try.prog 4 = some .bool := by kernel_rfl
theorem Z4 : szAt Try.prog 4 = some 1 := by kernel_rfl
theorem T4 : tiOf Try.prog 4 = some ⟨.bool, 1, 1, [.bool false], []⟩ := by kernel_rfl
theorem K5 : tkAt Try.prog 5 = some (.int .u8) := by kernel_rfl
theorem Z5 : szAt Try.prog 5 = some 1 := by kernel_rfl
theorem T5 : tiOf Try.prog 5 = some ⟨(.int .u8), 1, 1, [.int .u8 0], []⟩ := by kernel_rfl
theorem K22 : tkAt Try.prog 22 = some (.slice 5) := by kernel_rfl
theorem Z22 : szAt Try.prog 22 = some 1 := by kernel_rfl
theorem T22 : tiOf Try.prog 22 = some ⟨(.slice 5), 1, 24, [.slice none 0 0], []⟩ := by kernel_rfl
theorem K23 : tkAt Try.prog 23 = some (.slice 101) := by kernel_rfl
theorem Z23 : szAt Try.prog 23 = some 1 := by kernel_rfl
theorem T23 : tiOf Try.prog 23 = some ⟨(.slice 101), 1, 24, [.slice none 0 0], []⟩ := by kernel_rfl
theorem K24 : tkAt Try.prog 24 = some (.slice 106) := by kernel_rfl
theorem Z24 : szAt Try.prog 24 = some 1 := by kernel_rfl
theorem T24 : tiOf Try.prog 24 = some ⟨(.slice 106), 1, 24, [.slice none 0 0], []⟩ := by kernel_rfl
theorem K26 : tkAt Try.prog 26 = some .strct := by kernel_rfl
theorem Z26 : szAt Try.prog 26 = some 2 := by kernel_rfl
theorem T26 : tiOf Try.prog 26 = some ⟨.strct, 2, 48, [.slice none 0 0, .slice none 0 0], [⟨0, 1, (.slice 101)⟩, ⟨1, 1, (.slice 106)⟩]⟩ := by kernel_rfl
theorem K27 : tkAt Try.prog 27 = some (.slice 3) := by kernel_rfl
theorem Z27 : szAt Try.prog 27 = some 1 := by kernel_rfl
theorem T27 : tiOf Try.prog 27 = some ⟨(.slice 3), 1, 24, [.slice none 0 0], []⟩ := by kernel_rfl
theorem K30 : tkAt Try.prog 30 = some (.slice 27) := by kernel_rfl
theorem Z30 : szAt Try.prog 30 = some 1 := by kernel_rfl
theorem T30 : tiOf Try.prog 30 = some ⟨(.slice 27), 1, 24, [.slice none 0 0], []⟩ := by kernel_rfl
theorem K42 : tkAt Try.prog 42 = some .strct := by kernel_rfl
theorem Z42 : szAt Try.prog 42 = some 2 := by kernel_rfl
theorem T42 : tiOf Try.prog 42 = some ⟨.strct, 2, 48, [.slice none 0 0, .slice none 0 0], [⟨0, 1, (.slice 27)⟩, ⟨1, 1, (.slice 3)⟩]⟩ := by kernel_rfl
theorem K53 : tkAt Try.prog 53 = some (.slice 153) := by kernel_rfl
theorem Z53 : szAt Try.prog 53 = some 1 := by kernel_rfl
theorem T53 : tiOf Try.prog 53 = some ⟨(.slice 153), 1, 24, [.slice none 0 0], []⟩ := by kernel_rfl
theorem K54 : tkAt Try.prog 54 = some (.slice 151) := by kernel_rfl
theorem Z54 : szAt Try.prog 54 = some 1 := by kernel_rfl
theorem T54 : tiOf Try.prog 54 = some ⟨(.slice 151), 1, 24, [.slice none 0 0], []⟩ := by kernel_rfl
theorem K56 : tkAt Try.prog 56 = some .strct := by kernel_rfl
theorem Z56 : szAt Try.prog 56 = some 2 := by kernel_rfl
theorem T56 : tiOf Try.prog 56 = some ⟨.strct, 2, 48, [.slice none 0 0, .slice none 0 0], [⟨0, 1, (.slice 153)⟩, ⟨1, 1, (.slice 151)⟩]⟩ := by kernel_rfl
theorem K66 : tkAt Try.prog 66 = some (.slice 128) := by kernel_rfl
theorem Z66 : szAt Try.prog 66 = some 1 := by kernel_rfl
theorem T66 : tiOf Try.prog 66 = some ⟨(.slice 128), 1, 24, [.slice none 0 0], []⟩ := by kernel_rfl
theorem K73 : tkAt Try.prog 73 = some (.ptr 135) := by kernel_rfl
theorem Z73 : szAt Try.prog 73 = some 1 := by kernel_rfl
theorem T73 : tiOf Try.prog 73 = some ⟨(.ptr 135), 1, 8, [.pointer none], []⟩ := by kernel_rfl
theorem K86 : tkAt Try.prog 86 = some .func := by kernel_rfl
theorem Z86 : szAt Try.prog 86 = some 1 := by kernel_rfl
theorem T86 : tiOf Try.prog 86 = some ⟨.func, 1, 8, [.nilFunc], []⟩ := by kernel_rfl
theorem K89 : tkAt Try.prog 89 = some .func := by kernel_rfl
theorem Z89 : szAt Try.prog 89 = some 1 := by kernel_rfl
theorem T89 : tiOf Try.prog 89 = some ⟨.func, 1, 8, [.nilFunc], []⟩ := by kernel_rfl
theorem K91 : tkAt Try.prog 91 = some (.slice 4) := by kernel_rfl
theorem Z91 : szAt Try.prog 91 = some 1 := by kernel_rfl
theorem T91 : tiOf Try.prog 91 = some ⟨(.slice 4), 1, 24, [.slice none 0 0], []⟩ := by kernel_rfl
theorem K101 : tkAt Try.prog 101 = some .strct := by kernel_rfl
theorem Z101 : szAt Try.prog 101 = some 3 := by kernel_rfl
theorem T101 : tiOf Try.prog 101 = some ⟨.strct, 3, 24, [.int .i64 0, .int .i64 0, .int .i64 0], [⟨0, 1, (.int .i64)⟩, ⟨1, 1, (.int .i64)⟩, ⟨2, 1, (.int .i64)⟩]⟩ := by kernel_rfl
theorem K102 : tkAt Try.prog 102 = some .func := by kernel_rfl
theorem Z102 : szAt Try.prog 102 = some 1 := by kernel_rfl
theorem T102 : tiOf Try.prog 102 = some ⟨.func, 1, 8, [.nilFunc], []⟩ := by kernel_rfl
theorem K104 : tkAt Try.prog 104 = some (.slice 66) := by kernel_rfl
theorem Z104 : szAt Try.prog 104 = some 1 := by kernel_rfl
theorem T104 : tiOf Try.prog 104 = some ⟨(.slice 66), 1, 24, [.slice none 0 0], []⟩ := by kernel_rfl
theorem K106 : tkAt Try.prog 106 = some .strct := by kernel_rfl
theorem Z106 : szAt Try.prog 106 = some 3 := by kernel_rfl
theorem T106 : tiOf Try.prog 106 = some ⟨.strct, 3, 72, [.slice none 0 0, .slice none 0 0, .slice none 0 0], [⟨0, 1, (.slice 128)⟩, ⟨1, 1, (.slice 3)⟩, ⟨2, 1, (.slice 66)⟩]⟩ := by kernel_rfl
theorem K108 : tkAt Try.prog 108 = some .func := by kernel_rfl
theorem Z108 : szAt Try.prog 108 = some 1 := by kernel_rfl
theorem T108 : tiOf Try.prog 108 = some ⟨.func, 1, 8, [.nilFunc], []⟩ := by kernel_rfl
theorem K124 : tkAt Try.prog 124 = some .func := by kernel_rfl
theorem Z124 : szAt Try.prog 124 = some 1 := by kernel_rfl
theorem T124 : tiOf Try.prog 124 = some ⟨.func, 1, 8, [.nilFunc], []⟩ := by kernel_rfl
theorem K126 : tkAt Try.prog 126 = some (.slice 130) := by kernel_rfl
theorem Z126 : szAt Try.prog 126 = some 1 := by kernel_rfl
theorem T126 : tiOf Try.prog 126 = some ⟨(.slice 130), 1, 24, [.slice none 0 0], []⟩ := by kernel_rfl
theorem K128 : tkAt Try.prog 128 = some .strct := by kernel_rfl
theorem Z128 : szAt Try.prog 128 = some 4 := by kernel_rfl
theorem T128 : tiOf Try.prog 128 = some ⟨.strct, 4, 32, [.int .i64 0, .int .i64 0, .int .i64 0, .int .i64 0], [⟨0, 1, (.int .i64)⟩, ⟨1, 1, (.int .i64)⟩, ⟨2, 1, (.int .i64)⟩, ⟨3, 1, (.int .i64)⟩]⟩ := by kernel_rfl
theorem K130 : tkAt Try.prog 130 = some .strct := by kernel_rfl
theorem Z130 : szAt Try.prog 130 = some 2 := by kernel_rfl
theorem T130 : tiOf Try.prog 130 = some ⟨.strct, 2, 16, [.int .i64 0, .int .i64 0], [⟨0, 1, (.int .i64)⟩, ⟨1, 1, (.int .i64)⟩]⟩ := by kernel_rfl
theorem K135 : tkAt Try.prog 135 = some .strct := by kernel_rfl
theorem Z135 : szAt Try.prog 135 = some 2 := by kernel_rfl
theorem T135 : tiOf Try.prog 135 = some ⟨.strct, 2, 32, [.slice none 0 0, .int .i64 0], [⟨0, 1, (.slice 5)⟩, ⟨1, 1, (.int .i64)⟩]⟩ := by kernel_rfl
theorem K148 : tkAt Try.prog 148 = some (.slice 180) := by kernel_rfl
theorem Z148 : szAt Try.prog 148 = some 1 := by kernel_rfl
theorem T148 : tiOf Try.prog 148 = some ⟨(.slice 180), 1, 24, [.slice none 0 0], []⟩ := by kernel_rfl
theorem K149 : tkAt Try.prog 149 = some (.slice 148) := by kernel_rfl
theorem Z149 : szAt Try.prog 149 = some 1 := by kernel_rfl
theorem T149 : tiOf Try.prog 149 = some ⟨(.slice 148), 1, 24, [.slice none 0 0], []⟩ := by kernel_rfl
theorem K151 : tkAt Try.prog 151 = some .strct := by kernel_rfl
theorem Z151 : szAt Try.prog 151 = some 3 := by kernel_rfl
theorem T151 : tiOf Try.prog 151 = some ⟨.strct, 3, 72, [.slice none 0 0, .slice none 0 0, .slice none 0 0], [⟨0, 1, (.slice 180)⟩, ⟨1, 1, (.slice 3)⟩, ⟨2, 1, (.slice 148)⟩]⟩ := by kernel_rfl
theorem K153 : tkAt Try.prog 153 = some .strct := by kernel_rfl
theorem Z153 : szAt Try.prog 153 = some 3 := by kernel_rfl
theorem T153 : tiOf Try.prog 153 = some ⟨.strct, 3, 24, [.int .i64 0, .int .i64 0, .int .i64 0], [⟨0, 1, (.int .i64)⟩, ⟨1, 1, (.int .i64)⟩, ⟨2, 1, (.int .i64)⟩]⟩ := by kernel_rfl
theorem K180 : tkAt Try.prog 180 = some .strct := by kernel_rfl
theorem Z180 : szAt Try.prog 180 = some 4 := by kernel_rfl
theorem T180 : tiOf Try.prog 180 = some ⟨.strct, 4, 32, [.int .i64 0, .int .i64 0, .int .i64 0, .int .i64 0], [⟨0, 1, (.int .i64)⟩, ⟨1, 1, (.int .i64)⟩, ⟨2, 1, (.int .i64)⟩, ⟨3, 1, (.int .i64)⟩]⟩ := by kernel_rfl
def cIVar : Cd IVar := cIso (cPair (cInt .i64) (cPair (cInt .i64) (cInt .i64))) (fun x => (x.f0, x.f1, x.f2))
theorem oIVar : cIVar.Ones := oIso (oPair (oInt .i64) (oPair (oInt .i64) (oInt .i64)))
theorem cIVar_R {x : IVar} {c : List PV} (h : cIVar.R x c) : c = [.lit (.int .i64 x.f0), .lit (.int .i64 x.f1), .lit (.int .i64 x.f2)] := by
  obtain ⟨p0, q0, e0, g0, r0⟩ := h
  obtain ⟨p1, q1, e1, g1, r1⟩ := r0
  have g0' : p0 = _ := g0
  have g1' : p1 = _ := g1
  have g2' : q1 = _ := r1
  rw [e0, g0', e1, g1', g2']; rfl
theorem cIVar_mk {a0 : Int} {a1 : Int} {a2 : Int}  : cIVar.R ⟨a0, a1, a2⟩ [.lit (.int .i64 a0), .lit (.int .i64 a1), .lit (.int .i64 a2)] := ⟨_, _, rfl, rfl, ⟨_, _, rfl, rfl, rfl⟩⟩
theorem cIVar_z : cIVar.R zIVar (([.int .i64 0, .int .i64 0, .int .i64 0] : List Value).map .lit) := ⟨_, _, rfl, rfl, ⟨_, _, rfl, rfl, rfl⟩⟩
def cITerm : Cd ITerm := cIso (cPair (cInt .i64) (cPair (cInt .i64) (cPair (cInt .i64) (cInt .i64)))) (fun x => (x.f0, x.f1, x.f2, x.f3))
theorem oITerm : cITerm.Ones := oIso (oPair (oInt .i64) (oPair (oInt .i64) (oPair (oInt .i64) (oInt .i64))))
theorem cITerm_R {x : ITerm} {c : List PV} (h : cITerm.R x c) : c = [.lit (.int .i64 x.f0), .lit (.int .i64 x.f1), .lit (.int .i64 x.f2), .lit (.int .i64 x.f3)] := by
  obtain ⟨p0, q0, e0, g0, r0⟩ := h
  obtain ⟨p1, q1, e1, g1, r1⟩ := r0
  obtain ⟨p2, q2, e2, g2, r2⟩ := r1
  have g0' : p0 = _ := g0
  have g1' : p1 = _ := g1
  have g2' : p2 = _ := g2
  have g3' : q2 = _ := r2
  rw [e0, g0', e1, g1', e2, g2', g3']; rfl
theorem cITerm_mk {a0 : Int} {a1 : Int} {a2 : Int} {a3 : Int}  : cITerm.R ⟨a0, a1, a2, a3⟩ [.lit (.int .i64 a0), .lit (.int .i64 a1), .lit (.int .i64 a2), .lit (.int .i64 a3)] := ⟨_, _, rfl, rfl, ⟨_, _, rfl, rfl, ⟨_, _, rfl, rfl, rfl⟩⟩⟩
theorem cITerm_z : cITerm.R zITerm (([.int .i64 0, .int .i64 0, .int .i64 0, .int .i64 0] : List Value).map .lit) := ⟨_, _, rfl, rfl, ⟨_, _, rfl, rfl, ⟨_, _, rfl, rfl, rfl⟩⟩⟩
def cIRule : Cd IRule := cIso (cPair (cSl cITerm) (cPair (cSl (cInt .i64)) (cSl (cSl cITerm)))) (fun x => (x.f0, x.f1, x.f2))
theorem cIRule_R {x : IRule} {c : List PV} (h : cIRule.R x c) : ∃ v0 v1 v2, c = [v0, v1, v2] ∧ Sl cITerm x.f0 v0 ∧ Sl (cInt .i64) x.f1 v1 ∧ Sl (cSl cITerm) x.f2 v2 := by
  obtain ⟨p0, q0, e0, g0, r0⟩ := h
  obtain ⟨p1, q1, e1, g1, r1⟩ := r0
  obtain ⟨v0, g0', s0⟩ := g0
  obtain ⟨v1, g1', s1⟩ := g1
  obtain ⟨v2, g2', s2⟩ := r1
  exact ⟨v0, v1, v2, by rw [e0, g0', e1, g1', g2']; rfl, s0, s1, s2⟩
theorem cIRule_mk  {l0 : List ITerm} {v0 : PV} (h0 : Sl cITerm l0 v0) {l1 : List Int} {v1 : PV} (h1 : Sl (cInt .i64) l1 v1) {l2 : List (List ITerm)} {v2 : PV} (h2 : Sl (cSl cITerm) l2 v2) : cIRule.R ⟨l0, l1, l2⟩ [v0, v1, v2] := ⟨_, _, rfl, ⟨_, rfl, h0⟩, ⟨_, _, rfl, ⟨_, rfl, h1⟩, ⟨_, rfl, h2⟩⟩⟩
theorem cIRule_z : cIRule.R zIRule (([.slice none 0 0, .slice none 0 0, .slice none 0 0] : List Value).map .lit) := ⟨_, _, rfl, ⟨_, rfl, .nil⟩, ⟨_, _, rfl, ⟨_, rfl, .nil⟩, ⟨_, rfl, .nil⟩⟩⟩
def cLTerm : Cd LTerm := cIso (cPair (cInt .i64) (cPair (cInt .i64) (cPair (cInt .i64) (cInt .i64)))) (fun x => (x.f0, x.f1, x.f2, x.f3))
theorem cLTerm_R {x : LTerm} {c : List PV} (h : cLTerm.R x c) : c = [.lit (.int .i64 x.f0), .lit (.int .i64 x.f1), .lit (.int .i64 x.f2), .lit (.int .i64 x.f3)] := by
  obtain ⟨p0, q0, e0, g0, r0⟩ := h
  obtain ⟨p1, q1, e1, g1, r1⟩ := r0
  obtain ⟨p2, q2, e2, g2, r2⟩ := r1
  have g0' : p0 = _ := g0
  have g1' : p1 = _ := g1
  have g2' : p2 = _ := g2
  have g3' : q2 = _ := r2
  rw [e0, g0', e1, g1', e2, g2', g3']; rfl
def cLRule : Cd LRule := cIso (cPair (cSl cLTerm) (cPair (cSl (cInt .i64)) (cSl (cSl cLTerm)))) (fun x => (x.f0, x.f1, x.f2))
theorem cLRule_R {x : LRule} {c : List PV} (h : cLRule.R x c) : ∃ v0 v1 v2, c = [v0, v1, v2] ∧ Sl cLTerm x.f0 v0 ∧ Sl (cInt .i64) x.f1 v1 ∧ Sl (cSl cLTerm) x.f2 v2 := by
  obtain ⟨p0, q0, e0, g0, r0⟩ := h
  obtain ⟨p1, q1, e1, g1, r1⟩ := r0
  obtain ⟨v0, g0', s0⟩ := g0
  obtain ⟨v1, g1', s1⟩ := g1
  obtain ⟨v2, g2', s2⟩ := r1
  exact ⟨v0, v1, v2, by rw [e0, g0', e1, g1', g2']; rfl, s0, s1, s2⟩
def cLVar : Cd LVar := cIso (cPair (cInt .i64) (cPair (cInt .i64) (cInt .i64))) (fun x => (x.f0, x.f1, x.f2))
theorem cLVar_R {x : LVar} {c : List PV} (h : cLVar.R x c) : c = [.lit (.int .i64 x.f0), .lit (.int .i64 x.f1), .lit (.int .i64 x.f2)] := by
  obtain ⟨p0, q0, e0, g0, r0⟩ := h
  obtain ⟨p1, q1, e1, g1, r1⟩ := r0
  have g0' : p0 = _ := g0
  have g1' : p1 = _ := g1
  have g2' : q1 = _ := r1
  rw [e0, g0', e1, g1', g2']; rfl
attribute [go_sem] K3 Z3 T3 K4 Z4 T4 K5 Z5 T5 K22 Z22 T22 K23 Z23 T23 K24 Z24 T24 K26 Z26 T26 K27 Z27 T27 K30 Z30 T30 K42 Z42 T42 K53 Z53 T53 K54 Z54 T54 K56 Z56 T56 K66 Z66 T66 K73 Z73 T73 K86 Z86 T86 K89 Z89 T89 K91 Z91 T91 K101 Z101 T101 K102 Z102 T102 K104 Z104 T104 K106 Z106 T106 K108 Z108 T108 K124 Z124 T124 K126 Z126 T126 K128 Z128 T128 K130 Z130 T130 K135 Z135 T135 K148 Z148 T148 K149 Z149 T149 K151 Z151 T151 K153 Z153 T153 K180 Z180 T180
end Go.Proofs.Ytpjmiaooogephaa.PA
end
section
namespace Go.Proofs.Ytpjmiaooogephaa.PA
open Go Go.Abs Go.RowKit
def owIRule : Od IRule := oIs (oPr (oRow (oPl cITerm oITerm)) (oPr (oRow (oPl (cInt .i64) (oInt .i64))) (oRow (oRow (oPl cITerm oITerm))))) (fun x => (x.f0, x.f1, x.f2))
theorem owIRule_z (S : Sto) : owIRule.R S [] zIRule (([.slice none 0 0, .slice none 0 0, .slice none 0 0] : List Value).map .lit) := ⟨[.lit (.slice none 0 0)], [.lit (.slice none 0 0), .lit (.slice none 0 0)], [], [], rfl, rfl, .nil, .inl ⟨rfl, rfl, rfl⟩, ⟨[.lit (.slice none 0 0)], [.lit (.slice none 0 0)], [], [], rfl, rfl, .nil, .inl ⟨rfl, rfl, rfl⟩, .inl ⟨rfl, rfl, rfl⟩⟩⟩
end Go.Proofs.Ytpjmiaooogephaa.PA
end
section
namespace Go.Proofs.Ytpjmiaooogephaa.PA
open Go Go.Abs Go.RowKit Go.Proofs Go.Proofs.YtpjmiaooogephaaW.PrintWords Go.Proofs.YtpjmiaooogephaaW.PrintLast Go.Proofs.YtpjmiaooogephaaW.PrintMore
set_option maxRecDepth 100000
set_option maxHeartbeats 4000000
set_option linter.unusedVariables false
set_option linter.unusedSimpArgs false
theorem impl_in.ev {a0 : Int} {a1 : Int} {a2 : Int} {r : Bool} (H : impl_in.f a0 a1 a2 = some r) : Ret Try.prog 85 [.lit (.int .i64 a0), .lit (.int .i64 a1), .lit (.int .i64 a2)] fun v S => v = .lit (.bool r) := by
 unfold impl_in.f at H
 refine Ret.intro Try.func85 rfl (Nat.le_of_ble_eq_true rfl) rfl ?_
 rw [tm3]
 refine Evr.sr rfl (Opl.p1 (n := Opl.nil (Evr.sr rfl (Opl.p1 (n := Opl.p1 (n := Opl.p1 (n := Opl.p1 (n := ?_))))))))
 by_cases c1 : a0 ≥ a1
 case neg =>
  rw [if_neg c1] at H
  have e2 : (decide (a0 ≥ a1)) = false := by simpa using c1
  try rw [e2]
  refine Opl.skp rfl (Opl.skp rfl (Opl.skp rfl (Opl.p1 (n := Opl.p1 (n := Opl.nil ?_)))))
  obtain rfl := Option.some.inj H
  refine Evr.ret1 Try.func85 rfl ?_
  show (.lit (.bool false) : PV) = _
  first | rfl | (simp only [go_sem]; rfl)
 rw [if_pos c1] at H
 have e1 : (decide (a0 ≥ a1)) = true := by simpa using c1
 try rw [e1]
 refine Opl.p1 (n := Opl.p1 (n := Opl.p1 (n := Opl.p1 (n := Opl.p1 (n := Opl.nil ?_)))))
 obtain rfl := Option.some.inj H
 refine Evr.ret1 Try.func85 rfl ?_
 show (.lit (.bool (decide (a0 ≤ a2))) : PV) = _
 first | rfl | (simp only [go_sem]; rfl)
theorem impl_size.ev {k : Nat} {l0 : List IVar} {v0 : PV} (hv0 : Sl cIVar l0 v0) {r : Int} (H : impl_size.f k l0 = some r) : Ret Try.prog 62 [v0] fun v S => v = .lit (.int .i64 r) := by
 unfold impl_size.f at H
 refine Ret.intro Try.func62 rfl (Nat.le_of_ble_eq_true rfl) rfl ?_
 rw [tm1]
 refine Evr.sr rfl (Opl.p1 (n := Opl.nil (Evr.sr rfl (Opl.p1 (n := Opl.nil (Evr.seq (Evr.sr rfl (Opl.p1 (n := Opl.len (xs := l0) (by exact hv0) K23 rfl rfl rfl rfl (Opl.p1 (n := Opl.nil (Evr.block ?_))))))))))))
 refine Evr.loop (Evr.rounds (n := k) (Inv := fun n tm S => n ≤ k ∧ ∃ (x3_1 : Int) (x8_1 : Int), impl_size.l0 n x3_1 l0 (l0.length : Int) x8_1 = some r ∧ Has tm [(3, .lit (.int .i64 x3_1)), (6, v0), (7, .lit (.int .i64 (l0.length : Int))), (8, .lit (.int .i64 x8_1))]) ?_ ?_ ?_)
 · exact ⟨Nat.le_refl _, _, _, H, ⟨rfl, rfl, rfl, rfl, trivial⟩⟩
 ·
  rintro tm S ⟨_, _, _, H, -⟩
  simp [impl_size.l0] at H
 ·
  rintro n1 ih1 tm S ⟨hle, x3_1, x8_1, H, hh⟩
  simp only [impl_size.l0] at H
  rw [hh.eq]
  refine Evr.sr rfl (Opl.p1 (n := Opl.nil (Evr.seq ?_)))
  by_cases c1 : x8_1 < (l0.length : Int)
  case neg =>
   rw [if_neg c1] at H
   have e2 : (decide (x8_1 < (l0.length : Int))) = false := by simpa using c1
   try rw [e2]
   refine Evr.condF rfl (Evr.exit rfl (Evr.sr rfl (Opl.p1 (n := Opl.p1 (n := Opl.nil ?_)))))
   obtain rfl := Option.some.inj H
   refine Evr.ret1 Try.func62 rfl ?_
   show (.lit (.int .i64 x3_1) : PV) = _
   first | rfl | (simp only [go_sem]; rfl)
  rw [if_pos c1] at H
  have e1 : (decide (x8_1 < (l0.length : Int))) = true := by simpa using c1
  try rw [e1]
  refine Evr.condT rfl (Evr.skip (Evr.seq (Evr.block (Evr.sr rfl ?_))))
  obtain ⟨c2, H⟩ := peel H
  obtain ⟨c3, H⟩ := peel H
  refine Opl.idx (M := cIVar) (xs := l0) (j := x8_1) zIVar (by exact hv0) rfl (by omega) (by omega) K23 Z101 rfl rfl ?_
  rintro p1 q1 h1
  obtain rfl := cIVar_R (x := (rd_IVar l0 x8_1)) h1
  refine Opl.lda (.agg [.lit (.int .i64 ((rd_IVar l0 x8_1).f0)), .lit (.int .i64 ((rd_IVar l0 x8_1).f1)), .lit (.int .i64 ((rd_IVar l0 x8_1).f2))]) rfl T101 rfl rfl rfl rfl (Opl.alloc T101 rfl rfl rfl ?_)
  rintro i1 S h2 u1 w1
  refine Opl.stb (vs := [.lit (.int .i64 ((rd_IVar l0 x8_1).f0)), .lit (.int .i64 ((rd_IVar l0 x8_1).f1)), .lit (.int .i64 ((rd_IVar l0 x8_1).f2))]) h2 rfl rfl Z101 rfl (Nat.le_of_ble_eq_true rfl) rfl rfl rfl rfl ?_
  rintro S (h3 : Box (.ptr i1 0) [.lit (.int .i64 ((rd_IVar l0 x8_1).f0)), .lit (.int .i64 ((rd_IVar l0 x8_1).f1)), .lit (.int .i64 ((rd_IVar l0 x8_1).f2))] _) u2
  refine Opl.nil (Evr.regionN rfl (Opl.p1 (n := Opl.p1 (v := .ptr i1 1) (n := Opl.ldb (v := .lit (.int .i64 ((rd_IVar l0 x8_1).f1))) h3 rfl T3 rfl rfl rfl rfl (Opl.p1 (v := .ptr i1 0) (n := Opl.ldb (v := .lit (.int .i64 ((rd_IVar l0 x8_1).f0))) h3 rfl T3 rfl rfl rfl rfl (Opl.subi (k := .i64) (a := ((rd_IVar l0 x8_1).f1)) (b := ((rd_IVar l0 x8_1).f0)) K3 rfl rfl rfl rfl (Opl.add (k := .i64) (a := (wrap64 (((rd_IVar l0 x8_1).f1) - ((rd_IVar l0 x8_1).f0)))) (b := 1) K3 rfl rfl rfl rfl (Opl.mul (k := .i64) (a := x3_1) (b := (wrap64 ((wrap64 (((rd_IVar l0 x8_1).f1) - ((rd_IVar l0 x8_1).f0))) + 1))) K3 rfl rfl rfl rfl (Opl.one (v := .lit (.int .i64 (wrap64 (x3_1 * (wrap64 ((wrap64 (((rd_IVar l0 x8_1).f1) - ((rd_IVar l0 x8_1).f0))) + 1)))))) rfl rfl rfl (Opl.nil (Evr.inBlock (Evr.regionN rfl (Opl.add (k := .i64) (a := x8_1) (b := 1) K3 rfl rfl rfl rfl (Opl.one (v := .lit (.int .i64 (wrap64 (x8_1 + 1)))) rfl rfl rfl (Opl.nil ?_))))))))))))))))
  exact ih1 _ (by omega) _ _ ⟨by omega, _, _, H, ⟨rfl, rfl, rfl, rfl, trivial⟩⟩
theorem impl_varOk.ev {a0_0 : Int} {a0_1 : Int} {a0_2 : Int} {r : Bool} (H : impl_varOk.f a0_0 a0_1 a0_2 = some r) : Ret Try.prog 90 [.agg [.lit (.int .i64 a0_0), .lit (.int .i64 a0_1), .lit (.int .i64 a0_2)]] fun v S => v = .lit (.bool r) := by
 unfold impl_varOk.f at H
 refine Ret.intro Try.func90 rfl (Nat.le_of_ble_eq_true rfl) rfl ?_
 rw [tm1]
 refine Evr.sr rfl (Opl.box (cs := [.lit (.int .i64 a0_0), .lit (.int .i64 a0_1), .lit (.int .i64 a0_2)]) rfl rfl rfl rfl ?_)
 rintro i1 S h1 u1 w1
 refine Opl.p1 (n := Opl.nil (Evr.sr rfl (Opl.p1 (v := .ptr i1 0) (n := Opl.ldb (v := .lit (.int .i64 a0_0)) h1 rfl T3 rfl rfl rfl rfl ?_))))
 obtain ⟨t480, h_t480, H⟩ := Option.bind_eq_some_iff.1 H
 refine Opl.callc (impl_in.ev h_t480) rfl rfl rfl rfl ⟨(.lit _), (.lit _), (.lit _), trivial⟩ (by decide) (Opl.p1 (n := ?_))
 by_cases c1 : t480 = true
 case neg =>
  rw [if_neg c1] at H
  obtain rfl : t480 = false := by simpa using c1
  refine Opl.skp rfl (Opl.skp rfl (Opl.skp rfl (Opl.skp rfl (Opl.skp rfl (Opl.p1 (n := Opl.p1 (n := Opl.skp rfl (Opl.skp rfl (Opl.skp rfl (Opl.skp rfl (Opl.skp rfl (Opl.skp rfl (Opl.p1 (n := Opl.p1 (n := Opl.skp rfl (Opl.skp rfl (Opl.skp rfl (Opl.skp rfl (Opl.skp rfl (Opl.skp rfl (Opl.skp rfl (Opl.p1 (n := Opl.p1 (n := Opl.nil ?_))))))))))))))))))))))))
  obtain rfl := Option.some.inj H
  refine Evr.ret1 Try.func90 rfl ?_
  show (.lit (.bool false) : PV) = _
  first | rfl | (simp only [go_sem]; rfl)
 rw [if_pos c1] at H
 obtain rfl : t480 = true := by simpa using c1
 refine Opl.p1 (v := .ptr i1 1) (n := Opl.ldb (v := .lit (.int .i64 a0_1)) h1 rfl T3 rfl rfl rfl rfl (Opl.p1 (v := .ptr i1 0) (n := Opl.ldb (v := .lit (.int .i64 a0_0)) h1 rfl T3 rfl rfl rfl rfl ?_)))
 obtain ⟨t481, h_t481, H⟩ := Option.bind_eq_some_iff.1 H
 refine Opl.callc (impl_in.ev h_t481) rfl rfl rfl rfl ⟨(.lit _), (.lit _), (.lit _), trivial⟩ (by decide) (Opl.p1 (n := Opl.p1 (n := ?_)))
 by_cases c2 : t481 = true
 case neg =>
  rw [if_neg c2] at H
  obtain rfl : t481 = false := by simpa using c2
  refine Opl.skp rfl (Opl.skp rfl (Opl.skp rfl (Opl.skp rfl (Opl.skp rfl (Opl.skp rfl (Opl.p1 (n := Opl.p1 (n := Opl.skp rfl (Opl.skp rfl (Opl.skp rfl (Opl.skp rfl (Opl.skp rfl (Opl.skp rfl (Opl.skp rfl (Opl.p1 (n := Opl.p1 (n := Opl.nil ?_)))))))))))))))))
  obtain rfl := Option.some.inj H
  refine Evr.ret1 Try.func90 rfl ?_
  show (.lit (.bool false) : PV) = _
  first | rfl | (simp only [go_sem]; rfl)
 rw [if_pos c2] at H
 obtain rfl : t481 = true := by simpa using c2
 refine Opl.p1 (v := .ptr i1 1) (n := Opl.ldb (v := .lit (.int .i64 a0_1)) h1 rfl T3 rfl rfl rfl rfl (Opl.p1 (v := .ptr i1 0) (n := Opl.ldb (v := .lit (.int .i64 a0_0)) h1 rfl T3 rfl rfl rfl rfl (Opl.subi (k := .i64) (a := a0_1) (b := a0_0) K3 rfl rfl rfl rfl (Opl.lss (a := (wrap64 (a0_1 - a0_0))) (b := 20) K3 rfl rfl rfl rfl (Opl.p1 (n := Opl.one (v := .lit (.bool (decide ((wrap64 (a0_1 - a0_0)) < 20)))) rfl rfl rfl ?_)))))))
 by_cases c3 : (wrap64 (a0_1 - a0_0)) < 20
 case neg =>
  rw [if_neg c3] at H
  have e2 : (decide ((wrap64 (a0_1 - a0_0)) < 20)) = false := by simpa using c3
  try rw [e2]
  refine Opl.skp rfl (Opl.skp rfl (Opl.skp rfl (Opl.skp rfl (Opl.skp rfl (Opl.skp rfl (Opl.skp rfl (Opl.p1 (n := Opl.one (v := .lit (.bool false)) rfl rfl rfl (Opl.nil ?_)))))))))
  obtain rfl := Option.some.inj H
  refine Evr.ret1 Try.func90 rfl ?_
  show (.lit (.bool false) : PV) = _
  first | rfl | (simp only [go_sem]; rfl)
 rw [if_pos c3] at H
 have e1 : (decide ((wrap64 (a0_1 - a0_0)) < 20)) = true := by simpa using c3
 try rw [e1]
 refine Opl.p1 (v := .ptr i1 2) (n := Opl.ldb (v := .lit (.int .i64 a0_2)) h1 rfl T3 rfl rfl rfl rfl (Opl.p1 (v := .ptr i1 0) (n := Opl.ldb (v := .lit (.int .i64 a0_0)) h1 rfl T3 rfl rfl rfl rfl (Opl.p1 (v := .ptr i1 1) (n := Opl.ldb (v := .lit (.int .i64 a0_1)) h1 rfl T3 rfl rfl rfl rfl ?_)))))
 obtain ⟨t482, h_t482, H⟩ := Option.bind_eq_some_iff.1 H
 refine Opl.callc (impl_in.ev h_t482) rfl rfl rfl rfl ⟨(.lit _), (.lit _), (.lit _), trivial⟩ (by decide) (Opl.p1 (n := Opl.one (v := .lit (.bool t482)) rfl rfl rfl (Opl.nil ?_)))
 obtain rfl := Option.some.inj H
 refine Evr.ret1 Try.func90 rfl ?_
 show (.lit (.bool t482) : PV) = _
 first | rfl | (simp only [go_sem]; rfl)
theorem impl_SystemValid_1.ev {a0_0 : Int} {a0_1 : Int} {a0_2 : Int} {r : Bool} (H : impl_SystemValid_1.f a0_0 a0_1 a0_2 = some r) : Ret Try.prog 89 [.agg [.lit (.int .i64 a0_0), .lit (.int .i64 a0_1), .lit (.int .i64 a0_2)]] fun v S => v = .lit (.bool r) := by
 unfold impl_SystemValid_1.f at H
 refine Ret.intro Try.func89 rfl (Nat.le_of_ble_eq_true rfl) rfl ?_
 rw [tm1]
 refine Evr.sr rfl (Opl.box (cs := [.lit (.int .i64 a0_0), .lit (.int .i64 a0_1), .lit (.int .i64 a0_2)]) rfl rfl rfl rfl ?_)
 rintro i1 S h1 u1 w1
 refine Opl.p1 (n := Opl.nil (Evr.sr rfl (Opl.ldb (v := .agg [.lit (.int .i64 a0_0), .lit (.int .i64 a0_1), .lit (.int .i64 a0_2)]) h1 rfl T101 rfl rfl rfl rfl ?_)))
 obtain ⟨t513, h_t513, H⟩ := Option.bind_eq_some_iff.1 H
 refine Opl.callc (impl_varOk.ev h_t513) rfl rfl rfl rfl ⟨(.aggL ⟨(.lit _), (.lit _), (.lit _), trivial⟩), trivial⟩ (by decide) (Opl.p1 (n := Opl.p1 (n := Opl.nil ?_)))
 obtain rfl := Option.some.inj H
 refine Evr.ret1 Try.func89 rfl ?_
 show (.lit (.bool (!t513)) : PV) = _
 first | rfl | (simp only [go_sem]; rfl)
theorem slices_IndexFunc_at_impl_SystemValid_1.ev {k : Nat} {l0 : List IVar} {v0 : PV} (hv0 : Sl cIVar l0 v0) {r : Int} (H : slices_IndexFunc_at_impl_SystemValid_1.f k l0 = some r) : Ret Try.prog 148 [v0, .lit (.func (.func 89) #[] #[])] fun v S => v = .lit (.int .i64 r) := by
 unfold slices_IndexFunc_at_impl_SystemValid_1.f at H
 refine Ret.intro Try.func148 rfl (Nat.le_of_ble_eq_true rfl) rfl ?_
 rw [tm2]
 refine Evr.sr rfl (Opl.p1 (n := Opl.nil (Evr.seq (Evr.sr rfl (Opl.p1 (n := Opl.len (xs := l0) (by exact hv0) K23 rfl rfl rfl rfl (Opl.p1 (n := Opl.nil (Evr.block ?_)))))))))
 refine Evr.loop (Evr.rounds (n := k) (Inv := fun n tm S => n ≤ k ∧ ∃ (x8_1 : Int), slices_IndexFunc_at_impl_SystemValid_1.l0 n l0 (l0.length : Int) x8_1 = some r ∧ Has tm [(0, v0), (1, .lit (.func (.func 89) #[] #[])), (7, .lit (.int .i64 (l0.length : Int))), (8, .lit (.int .i64 x8_1))]) ?_ ?_ ?_)
 · exact ⟨Nat.le_refl _, _, H, ⟨rfl, rfl, rfl, rfl, trivial⟩⟩
 ·
  rintro tm S ⟨_, _, H, -⟩
  simp [slices_IndexFunc_at_impl_SystemValid_1.l0] at H
 ·
  rintro n1 ih1 tm S ⟨hle, x8_1, H, hh⟩
  simp only [slices_IndexFunc_at_impl_SystemValid_1.l0] at H
  rw [hh.eq]
  refine Evr.sr rfl (Opl.p1 (n := Opl.nil (Evr.seq ?_)))
  by_cases c1 : x8_1 < (l0.length : Int)
  case neg =>
   rw [if_neg c1] at H
   have e2 : (decide (x8_1 < (l0.length : Int))) = false := by simpa using c1
   try rw [e2]
   refine Evr.condF rfl (Evr.exit rfl (Evr.sr rfl (Opl.p1 (n := Opl.nil ?_))))
   obtain rfl := Option.some.inj H
   refine Evr.ret1 Try.func148 rfl ?_
   show (.lit (.int .i64 (-1)) : PV) = _
   first | rfl | (simp only [go_sem]; rfl)
  rw [if_pos c1] at H
  have e1 : (decide (x8_1 < (l0.length : Int))) = true := by simpa using c1
  try rw [e1]
  refine Evr.condT rfl (Evr.skip (Evr.seq (Evr.block (Evr.sr rfl (Opl.p1 (n := Opl.p1 (n := Opl.nil (Evr.sr rfl (Opl.p1 (n := Opl.p1 (n := Opl.p1 (n := ?_))))))))))))
  obtain ⟨c2, H⟩ := peel H
  obtain ⟨c3, H⟩ := peel H
  refine Opl.idx (M := cIVar) (xs := l0) (j := x8_1) zIVar (by exact hv0) rfl (by omega) (by omega) K23 Z101 rfl rfl ?_
  rintro p1 q1 h1
  obtain rfl := cIVar_R (x := (rd_IVar l0 x8_1)) h1
  refine Opl.lda (.agg [.lit (.int .i64 ((rd_IVar l0 x8_1).f0)), .lit (.int .i64 ((rd_IVar l0 x8_1).f1)), .lit (.int .i64 ((rd_IVar l0 x8_1).f2))]) rfl T101 rfl rfl rfl rfl ?_
  obtain ⟨t515, h_t515, H⟩ := Option.bind_eq_some_iff.1 H
  refine Opl.callc (impl_SystemValid_1.ev h_t515) rfl rfl rfl rfl ⟨(.aggL ⟨(.lit _), (.lit _), (.lit _), trivial⟩), trivial⟩ (by decide) (Opl.nil ?_)
  by_cases c4 : t515 = true
  case pos =>
   rw [if_pos c4] at H
   obtain rfl : t515 = true := by simpa using c4
   refine Evr.condT rfl (Evr.sr rfl (Opl.p1 (n := Opl.p1 (n := Opl.nil ?_))))
   obtain rfl := Option.some.inj H
   refine Evr.ret1 Try.func148 rfl ?_
   show (.lit (.int .i64 x8_1) : PV) = _
   first | rfl | (simp only [go_sem]; rfl)
  rw [if_neg c4] at H
  obtain rfl : t515 = false := by simpa using c4
  refine Evr.condF rfl (Evr.skip (Evr.inBlock (Evr.regionN rfl (Opl.add (k := .i64) (a := x8_1) (b := 1) K3 rfl rfl rfl rfl (Opl.one (v := .lit (.int .i64 (wrap64 (x8_1 + 1)))) rfl rfl rfl (Opl.nil ?_))))))
  exact ih1 _ (by omega) _ _ ⟨by omega, _, H, ⟨rfl, rfl, rfl, rfl, trivial⟩⟩
theorem slices_ContainsFunc_at_impl_SystemValid_1.ev {k : Nat} {l0 : List IVar} {v0 : PV} (hv0 : Sl cIVar l0 v0) {r : Bool} (H : slices_ContainsFunc_at_impl_SystemValid_1.f k l0 = some r) : Ret Try.prog 88 [v0, .lit (.func (.func 89) #[] #[])] fun v S => v = .lit (.bool r) := by
 unfold slices_ContainsFunc_at_impl_SystemValid_1.f at H
 refine Ret.intro Try.func88 rfl (Nat.le_of_ble_eq_true rfl) rfl ?_
 rw [tm2]
 refine Evr.sr rfl (Opl.p1 (n := Opl.nil (Evr.sr rfl (Opl.p1 (n := Opl.p1 (n := ?_))))))
 obtain ⟨t516, h_t516, H⟩ := Option.bind_eq_some_iff.1 H
 refine Opl.callc (slices_IndexFunc_at_impl_SystemValid_1.ev hv0 h_t516) rfl rfl rfl rfl ⟨hv0.plain, (.lit _), trivial⟩ (by decide) (Opl.p1 (n := Opl.p1 (n := Opl.nil ?_)))
 obtain rfl := Option.some.inj H
 refine Evr.ret1 Try.func88 rfl ?_
 show (.lit (.bool (decide (t516 ≥ 0))) : PV) = _
 first | rfl | (simp only [go_sem]; rfl)
theorem impl_parts.ev {k : Nat} {a0 : Int} {r : Int × Int × Int} (H : impl_parts.f k a0 = some r) : Ret Try.prog 198 [.lit (.int .i64 a0)] fun v S => Out (fun q => ∃ q1 q2 q3, q = .tup [q1, q2, q3] ∧ q1 = .lit (.int .i64 r.1) ∧ q2 = .lit (.int .i64 r.2.1) ∧ q3 = .lit (.int .i64 r.2.2)) v S := by
 unfold impl_parts.f at H
 refine Ret.intro Try.func198 rfl (Nat.le_of_ble_eq_true rfl) rfl ?_
 rw [tm1]
 refine Evr.sr rfl (Opl.p1 (n := Opl.p1 (n := Opl.p1 (n := Opl.nil (Evr.seq (Evr.sr rfl (Opl.p1 (n := Opl.nil (Evr.block (Evr.seq (Evr.sr rfl (Opl.p1 (n := Opl.p1 (n := Opl.nil ?_))))))))))))))
 refine Evr.join (fun tm S => ∃ (kq1 : Nat) (x6_1 : Bool), impl_parts.j0 kq1 a0 x6_1 = some r ∧ Has tm [(5, .lit (.int .i64 a0)), (6, .lit (.bool x6_1))]) ?_ fun hk1 => ?_
 ·
  rintro tm S ⟨kq1, x6_1, H, hh⟩
  rw [hh.eq]
  obtain _ | k1 := kq1
  · simp [impl_parts.j0] at H
  simp only [impl_parts.j0] at H
  by_cases c1 : x6_1 = true
  case pos =>
   rw [if_pos c1] at H
   obtain rfl : x6_1 = true := by simpa using c1
   refine Evr.condT rfl (Evr.sr rfl (Opl.p1 (n := Opl.p1 (n := Opl.p1 (n := Opl.nil ?_)))))
   obtain rfl := Option.some.inj H
   refine Evr.ret3 Try.func198 rfl ?_
   show Out _ (.tup [.lit (.int .i64 2), .lit (.int .i64 1), .lit (.int .i64 1)]) _
   exact .tup3 .lit .lit .lit
  rw [if_neg c1] at H
  obtain rfl : x6_1 = false := by simpa using c1
  refine Evr.condF rfl (Evr.seq (Evr.sr rfl (Opl.p1 (n := Opl.p1 (n := Opl.nil ?_)))))
  refine Evr.join (fun tm S => ∃ (kq2 : Nat) (x10_1 : Bool), impl_parts.j1 kq2 a0 x10_1 = some r ∧ Has tm [(5, .lit (.int .i64 a0)), (10, .lit (.bool x10_1))]) ?_ fun hk2 => ?_
  ·
   rintro tm S ⟨kq2, x10_1, H, hh⟩
   rw [hh.eq]
   obtain _ | k2 := kq2
   · simp [impl_parts.j1] at H
   simp only [impl_parts.j1] at H
   by_cases c2 : x10_1 = true
   case pos =>
    rw [if_pos c2] at H
    obtain rfl : x10_1 = true := by simpa using c2
    refine Evr.condT rfl (Evr.sr rfl (Opl.p1 (n := Opl.p1 (n := Opl.p1 (n := Opl.nil ?_)))))
    obtain rfl := Option.some.inj H
    refine Evr.ret3 Try.func198 rfl ?_
    show Out _ (.tup [.lit (.int .i64 2), .lit (.int .i64 1), .lit (.int .i64 2)]) _
    exact .tup3 .lit .lit .lit
   rw [if_neg c2] at H
   obtain rfl : x10_1 = false := by simpa using c2
   refine Evr.condF rfl (Evr.sr rfl (Opl.p1 (n := Opl.p1 (n := Opl.nil ?_))))
   by_cases c3 : a0 = 7
   case pos =>
    rw [if_pos c3] at H
    have e1 : (a0 == 7) = true := by simpa using c3
    try rw [e1]
    refine Evr.condT rfl (Evr.sr rfl (Opl.p1 (n := Opl.p1 (n := Opl.p1 (n := Opl.nil ?_)))))
    obtain rfl := Option.some.inj H
    refine Evr.ret3 Try.func198 rfl ?_
    show Out _ (.tup [.lit (.int .i64 1), .lit (.int .i64 2), .lit (.int .i64 2)]) _
    exact .tup3 .lit .lit .lit
   rw [if_neg c3] at H
   have e2 : (a0 == 7) = false := by simpa using c3
   try rw [e2]
   refine Evr.condF rfl (Evr.seq (Evr.sr rfl (Opl.p1 (n := Opl.p1 (n := Opl.nil ?_)))))
   refine Evr.join (fun tm S => ∃ (kq3 : Nat) (x15_1 : Bool), impl_parts.j2 kq3 x15_1 = some r ∧ Has tm [(15, .lit (.bool x15_1))]) ?_ fun hk3 => ?_
   ·
    rintro tm S ⟨kq3, x15_1, H, hh⟩
    rw [hh.eq]
    obtain _ | k3 := kq3
    · simp [impl_parts.j2] at H
    simp only [impl_parts.j2] at H
    by_cases c4 : x15_1 = true
    case pos =>
     rw [if_pos c4] at H
     obtain rfl : x15_1 = true := by simpa using c4
     refine Evr.condT rfl (Evr.sr rfl (Opl.p1 (n := Opl.p1 (n := Opl.p1 (n := Opl.nil ?_)))))
     obtain rfl := Option.some.inj H
     refine Evr.ret3 Try.func198 rfl ?_
     show Out _ (.tup [.lit (.int .i64 2), .lit (.int .i64 2), .lit (.int .i64 2)]) _
     exact .tup3 .lit .lit .lit
    rw [if_neg c4] at H
    obtain rfl : x15_1 = false := by simpa using c4
    refine Evr.condF rfl (Evr.skip (Evr.inBlock (Evr.sr rfl (Opl.p1 (n := Opl.p1 (n := Opl.p1 (n := Opl.nil ?_)))))))
    obtain rfl := Option.some.inj H
    refine Evr.ret3 Try.func198 rfl ?_
    show Out _ (.tup [.lit (.int .i64 0), .lit (.int .i64 0), .lit (.int .i64 1)]) _
    exact .tup3 .lit .lit .lit
   ·
    by_cases c5 : a0 = 8
    case pos =>
     rw [if_pos c5] at H
     have e3 : (a0 == 8) = true := by simpa using c5
     try rw [e3]
     refine Evr.condT rfl (Evr.skip ?_)
     exact hk3 _ _ ⟨_, _, H, ⟨(by first | rfl | (show PV.lit (.bool _) = _; congr 2; simp_all)), trivial⟩⟩
    rw [if_neg c5] at H
    have e4 : (a0 == 8) = false := by simpa using c5
    try rw [e4]
    refine Evr.condF rfl (Evr.regionN rfl (Opl.p1 (n := Opl.p1 (n := Opl.nil ?_))))
    exact hk3 _ _ ⟨_, _, H, ⟨(by first | rfl | (show PV.lit (.bool _) = _; congr 2; simp_all)), trivial⟩⟩
  ·
   by_cases c6 : a0 = 5
   case pos =>
    rw [if_pos c6] at H
    have e5 : (a0 == 5) = true := by simpa using c6
    try rw [e5]
    refine Evr.condT rfl (Evr.skip ?_)
    exact hk2 _ _ ⟨_, _, H, ⟨rfl, (by first | rfl | (show PV.lit (.bool _) = _; congr 2; simp_all)), trivial⟩⟩
   rw [if_neg c6] at H
   have e6 : (a0 == 5) = false := by simpa using c6
   try rw [e6]
   refine Evr.condF rfl (Evr.regionN rfl (Opl.p1 (n := Opl.p1 (n := Opl.nil ?_))))
   exact hk2 _ _ ⟨_, _, H, ⟨rfl, (by first | rfl | (show PV.lit (.bool _) = _; congr 2; simp_all)), trivial⟩⟩
 ·
  by_cases c7 : a0 = 2
  case pos =>
   rw [if_pos c7] at H
   have e7 : (a0 == 2) = true := by simpa using c7
   try rw [e7]
   refine Evr.condT rfl (Evr.skip ?_)
   exact hk1 _ _ ⟨_, _, H, ⟨rfl, (by first | rfl | (show PV.lit (.bool _) = _; congr 2; simp_all)), trivial⟩⟩
  rw [if_neg c7] at H
  have e8 : (a0 == 2) = false := by simpa using c7
  try rw [e8]
  refine Evr.condF rfl (Evr.sr rfl (Opl.p1 (n := Opl.p1 (n := Opl.nil ?_))))
  refine Evr.join (fun tm S => ∃ (kq4 : Nat) (x6_2 : Bool), impl_parts.j0 kq4 a0 x6_2 = some r ∧ Has tm [(5, .lit (.int .i64 a0)), (6, .lit (.bool x6_2))]) ?_ fun hk4 => ?_
  ·
   rintro tm S ⟨kq4, x6_2, H, hh⟩
   rw [hh.eq]
   exact hk1 _ _ ⟨_, _, H, ⟨rfl, (by first | rfl | (show PV.lit (.bool _) = _; congr 2; simp_all)), trivial⟩⟩
  ·
   by_cases c8 : a0 = 3
   case pos =>
    rw [if_pos c8] at H
    have e9 : (a0 == 3) = true := by simpa using c8
    try rw [e9]
    refine Evr.condT rfl (Evr.skip ?_)
    exact hk4 _ _ ⟨_, _, H, ⟨rfl, (by first | rfl | (show PV.lit (.bool _) = _; congr 2; simp_all)), trivial⟩⟩
   rw [if_neg c8] at H
   have e10 : (a0 == 3) = false := by simpa using c8
   try rw [e10]
   refine Evr.condF rfl (Evr.regionN rfl (Opl.p1 (n := Opl.p1 (n := Opl.nil ?_))))
   exact hk4 _ _ ⟨_, _, H, ⟨rfl, (by first | rfl | (show PV.lit (.bool _) = _; congr 2; simp_all)), trivial⟩⟩
theorem impl_kindsOf.ev {k : Nat} {l0 : List ITerm} {v0 : PV} (hv0 : Sl cITerm l0 v0) {a1 : Int} {r : (List Int)} (H : impl_kindsOf.f k l0 a1 = some r) : Ret Try.prog 166 [v0, .lit (.int .i64 a1)] fun v S => Vec (cInt .i64) r v S ∧ (r = [] → v = .lit (.slice none 0 0)) := by
 unfold impl_kindsOf.f at H
 refine Ret.intro Try.func166 rfl (Nat.le_of_ble_eq_true rfl) rfl ?_
 rw [tm2]
 refine Evr.sr rfl (Opl.p1 (n := Opl.nil (Evr.seq (Evr.seq ?_))))
 refine Evr.join (fun tm S => ∃ (kq1 : Nat) (x20_1 : Bool), impl_kindsOf.j0 kq1 l0 a1 x20_1 = some r ∧ Has tm [(0, v0), (1, .lit (.int .i64 a1)), (20, .lit (.bool x20_1))]) ?_ fun hk1 => ?_
 ·
  rintro tm S ⟨kq1, x20_1, H, hh⟩
  rw [hh.eq]
  obtain _ | k1 := kq1
  · simp [impl_kindsOf.j0] at H
  simp only [impl_kindsOf.j0] at H
  by_cases c1 : x20_1 = true
  case pos =>
   rw [if_pos c1] at H
   obtain rfl : x20_1 = true := by simpa using c1
   refine Evr.condT rfl (Evr.sr rfl (Opl.p1 (n := Opl.nil ?_)))
   obtain rfl := Option.some.inj H
   refine Evr.ret1 Try.func166 rfl ?_
   show Vec _ _ (.lit (.slice none 0 0)) _ ∧ _
   exact ⟨.nil, by intro e; first | rfl | (have := congrArg List.length e; simp only [List.length_nil] at this; omega)⟩
  rw [if_neg c1] at H
  obtain rfl : x20_1 = false := by simpa using c1
  refine Evr.condF rfl (Evr.skip (Evr.sr rfl (Opl.p1 (n := Opl.len (xs := l0) (by exact hv0) K66 rfl rfl rfl rfl ?_))))
  obtain ⟨c2, H⟩ := peel H
  obtain ⟨c3, H⟩ := peel H
  refine Opl.make0 (M := (cInt .i64)) (m := (l0.length : Int)) rfl rfl K27 T3 rfl rfl (by omega) (by show ((l0.length : Int)).toNat * 8 ≤ 281474976710656; omega) (by omega) rfl rfl rfl ?_
  rintro pv2 S h1 u1 w1
  refine Opl.p1 (n := Opl.nil (Evr.seq (Evr.sr rfl (Opl.p1 (n := Opl.len (xs := l0) (by exact hv0) K66 rfl rfl rfl rfl (Opl.p1 (n := Opl.nil (Evr.block ?_))))))))
  refine Evr.loop (Evr.rounds (n := k1) (Inv := fun n tm S => n ≤ k1 ∧ ∃ (x5_1 : List Int) (x26_1 : Int) (pv3 : PV), impl_kindsOf.l0 n a1 x5_1 l0 (l0.length : Int) x26_1 = some r ∧ Has tm [(1, .lit (.int .i64 a1)), (5, pv3), (24, v0), (25, .lit (.int .i64 (l0.length : Int))), (26, .lit (.int .i64 x26_1))] ∧ Vec (cInt .i64) x5_1 pv3 S) ?_ ?_ ?_)
  · exact ⟨Nat.le_refl _, _, _, _, H, ⟨rfl, rfl, rfl, rfl, rfl, trivial⟩, h1⟩
  ·
   rintro tm S ⟨_, _, _, _, H, -⟩
   simp [impl_kindsOf.l0] at H
  ·
   rintro n1 ih1 tm S ⟨hle, x5_1, x26_1, pv3, H, hh, h2⟩
   simp only [impl_kindsOf.l0] at H
   rw [hh.eq]
   refine Evr.sr rfl (Opl.p1 (n := Opl.nil (Evr.seq ?_)))
   by_cases c4 : x26_1 < (l0.length : Int)
   case neg =>
    rw [if_neg c4] at H
    have e20 : (decide (x26_1 < (l0.length : Int))) = false := by simpa using c4
    try rw [e20]
    refine Evr.condF rfl (Evr.exit rfl (Evr.sr rfl (Opl.p1 (n := Opl.p1 (n := Opl.nil ?_)))))
    obtain ⟨c26, H⟩ := peel H
    obtain rfl := Option.some.inj H
    refine Evr.ret1 Try.func166 rfl ?_
    show Vec _ _ pv3 _ ∧ _
    exact ⟨h2, by intro e; first | rfl | (have := congrArg List.length e; simp only [List.length_nil] at this; omega)⟩
   rw [if_pos c4] at H
   have e1 : (decide (x26_1 < (l0.length : Int))) = true := by simpa using c4
   try rw [e1]
   refine Evr.condT rfl (Evr.skip (Evr.seq (Evr.block (Evr.sr rfl (Opl.p1 (n := ?_))))))
   obtain ⟨c5, H⟩ := peel H
   obtain ⟨c6, H⟩ := peel H
   refine Opl.idx (M := cITerm) (xs := l0) (j := x26_1) zITerm (by exact hv0) rfl (by omega) (by omega) K66 Z128 rfl rfl ?_
   rintro p1 q1 h3
   obtain rfl := cITerm_R (x := (rd_ITerm l0 x26_1)) h3
   refine Opl.lda (.agg [.lit (.int .i64 ((rd_ITerm l0 x26_1).f0)), .lit (.int .i64 ((rd_ITerm l0 x26_1).f1)), .lit (.int .i64 ((rd_ITerm l0 x26_1).f2)), .lit (.int .i64 ((rd_ITerm l0 x26_1).f3))]) rfl T128 rfl rfl rfl rfl (Opl.alloc T128 rfl rfl rfl ?_)
   rintro i1 S h4 u2 w2
   have ap1 := w2.vec h2
   have h5 := u2.vec h2 ap1
   refine Opl.p1 (n := Opl.stb (vs := [.lit (.int .i64 ((rd_ITerm l0 x26_1).f0)), .lit (.int .i64 ((rd_ITerm l0 x26_1).f1)), .lit (.int .i64 ((rd_ITerm l0 x26_1).f2)), .lit (.int .i64 ((rd_ITerm l0 x26_1).f3))]) h4 rfl rfl Z128 rfl (Nat.le_of_ble_eq_true rfl) rfl rfl rfl rfl ?_)
   rintro S (h6 : Box (.ptr i1 0) [.lit (.int .i64 ((rd_ITerm l0 x26_1).f0)), .lit (.int .i64 ((rd_ITerm l0 x26_1).f1)), .lit (.int .i64 ((rd_ITerm l0 x26_1).f2)), .lit (.int .i64 ((rd_ITerm l0 x26_1).f3))] _) u3
   have h7 := u3.vec h5 ap1
   refine Opl.nil (Evr.sr rfl (Opl.p1 (v := .ptr i1 0) (n := Opl.ldb (v := .lit (.int .i64 ((rd_ITerm l0 x26_1).f0))) h6 rfl T3 rfl rfl rfl rfl ?_)))
   obtain ⟨bt490, h_bt490, H⟩ := Option.bind_eq_some_iff.1 H
   refine Opl.call (impl_parts.ev h_bt490) rfl rfl rfl rfl ⟨(.lit _), trivial⟩ (by decide) ?_
   rintro _ ⟨_, _, _, rfl, rfl, rfl, rfl⟩
   refine Opl.p1 (n := Opl.p1 (v := .lit (.int .i64 bt490.1)) (n := Opl.p1 (v := .lit (.int .i64 bt490.2.1)) (n := Opl.p1 (v := .lit (.int .i64 bt490.2.2)) (n := Opl.p1 (n := Opl.p1 (n := Opl.p1 (n := Opl.nil (Evr.sr rfl (Opl.p1 (v := .ptr i1 0) (n := Opl.ldb (v := .lit (.int .i64 ((rd_ITerm l0 x26_1).f0))) h6 rfl T3 rfl rfl rfl rfl ?_))))))))))
   obtain ⟨t493, h_t493, H⟩ := Option.bind_eq_some_iff.1 H
   refine Opl.callc (impl_in.ev h_t493) rfl rfl rfl rfl ⟨(.lit _), (.lit _), (.lit _), trivial⟩ (by decide) (Opl.p1 (n := Opl.nil (Evr.seq (Evr.block (Evr.sr rfl (Opl.p1 (v := .ptr i1 0) (n := Opl.ldb (v := .lit (.int .i64 ((rd_ITerm l0 x26_1).f0))) h6 rfl T3 rfl rfl rfl rfl (Opl.p1 (n := Opl.p1 (n := Opl.nil ?_))))))))))
   refine Evr.join (fun tm S => ∃ (kq2 : Nat) (x11_1 : Bool) (pv5 : PV), impl_kindsOf.j2 kq2 a1 x5_1 bt490.2.2 x11_1 l0 (l0.length : Int) x26_1 = some r ∧ kq2 ≤ n1 ∧ Has tm [(1, .lit (.int .i64 a1)), (5, pv5), (10, .lit (.int .i64 bt490.2.2)), (11, .lit (.bool x11_1)), (24, v0), (25, .lit (.int .i64 (l0.length : Int))), (26, .lit (.int .i64 x26_1))] ∧ Vec (cInt .i64) x5_1 pv5 S) ?_ fun hk2 => ?_
   ·
    rintro tm S ⟨kq2, x11_1, pv5, H, hle, hh, h9⟩
    rw [hh.eq]
    refine Evr.inBlock (Evr.seq (Evr.sr rfl (Opl.p1 (n := Opl.p1 (n := Opl.nil ?_)))))
    obtain _ | k2 := kq2
    · simp [impl_kindsOf.j2] at H
    simp only [impl_kindsOf.j2] at H
    by_cases c7 : x11_1 = true
    case neg =>
     rw [if_neg c7] at H
     have e3 : (!x11_1) = true := by simpa using c7
     try rw [e3]
     refine Evr.condT rfl (Evr.sr rfl (Opl.p1 (n := Opl.nil ?_)))
     obtain rfl := Option.some.inj H
     refine Evr.ret1 Try.func166 rfl ?_
     show Vec _ _ (.lit (.slice none 0 0)) _ ∧ _
     exact ⟨.nil, by intro e; first | rfl | (have := congrArg List.length e; simp only [List.length_nil] at this; omega)⟩
    rw [if_pos c7] at H
    have e2 : (!x11_1) = false := by simpa using c7
    try rw [e2]
    refine Evr.condF rfl (Evr.skip (Evr.regionN rfl (Opl.p1 (n := Opl.p1 (n := Opl.lits (M := (cInt .i64)) (ys := [bt490.2.2]) [.tmp 128] K27 T3 rfl rfl rfl (by exact ⟨rfl, trivial⟩) rfl (by decide) rfl rfl rfl ?_)))))
    rintro pv6 S h10 u4 w4
    have ap2 := w4.vec h9
    have h11 := u4.vec h9 ap2
    obtain ⟨c8, H⟩ := peel H
    refine Opl.app (M := (cInt .i64)) (xs := x5_1) (ys := [bt490.2.2]) (v := pv5) h11 (.vec h10) (oInt .i64) rfl rfl K27 T3 rfl rfl (by (try simp only [List.length_cons, List.length_nil]); omega) (by show (_ + _) * 8 ≤ 140737488355328; (try simp only [List.length_cons, List.length_nil]); omega) rfl rfl rfl rfl rfl ?_
    rintro pv7 S h12 u5 w5
    have ap3 := w5.vec h10
    have h13 := u5.vec h10 ap2.symm
    refine Opl.p1 (n := Opl.nil (Evr.inBlock (Evr.regionN rfl (Opl.add (k := .i64) (a := x26_1) (b := 1) K3 rfl rfl rfl rfl (Opl.one (v := .lit (.int .i64 (wrap64 (x26_1 + 1)))) rfl rfl rfl (Opl.nil ?_))))))
    exact ih1 _ (by omega) _ _ ⟨by omega, _, _, _, H, ⟨rfl, rfl, rfl, rfl, rfl, trivial⟩, h12⟩
   ·
    by_cases c9 : ((rd_ITerm l0 x26_1).f0) = 0
    case pos =>
     rw [if_pos c9] at H
     have e4 : (((rd_ITerm l0 x26_1).f0) == 0) = true := by simpa using c9
     try rw [e4]
     refine Evr.condT rfl ?_
     refine Evr.join (fun tm S => ∃ (kq3 : Nat) (x11_2 : Bool) (pv8 : PV), impl_kindsOf.j2 kq3 a1 x5_1 bt490.2.2 x11_2 l0 (l0.length : Int) x26_1 = some r ∧ kq3 ≤ n1 ∧ Has tm [(1, .lit (.int .i64 a1)), (5, pv8), (10, .lit (.int .i64 bt490.2.2)), (11, .lit (.bool x11_2)), (24, v0), (25, .lit (.int .i64 (l0.length : Int))), (26, .lit (.int .i64 x26_1))] ∧ Vec (cInt .i64) x5_1 pv8 S) ?_ fun hk3 => ?_
     ·
      rintro tm S ⟨kq3, x11_2, pv8, H, hle, hh, h14⟩
      rw [hh.eq]
      exact hk2 _ _ ⟨_, _, _, H, by omega, ⟨rfl, rfl, rfl, (by first | rfl | (show PV.lit (.bool _) = _; congr 2; simp_all)), rfl, rfl, rfl, trivial⟩, h14⟩
     ·
      refine Evr.regionN rfl (Opl.p1 (v := .ptr i1 1) (n := Opl.ldb (v := .lit (.int .i64 ((rd_ITerm l0 x26_1).f1))) h6 rfl T3 rfl rfl rfl rfl ?_))
      obtain ⟨t494, h_t494, H⟩ := Option.bind_eq_some_iff.1 H
      refine Opl.callc (impl_in.ev h_t494) rfl rfl rfl rfl ⟨(.lit _), (.lit _), (.lit _), trivial⟩ (by decide) (Opl.p1 (n := ?_))
      by_cases c10 : t494 = true
      case neg =>
       rw [if_neg c10] at H
       obtain rfl : t494 = false := by simpa using c10
       refine Opl.skp rfl (Opl.skp rfl (Opl.skp rfl (Opl.p1 (n := Opl.p1 (n := Opl.skp rfl (Opl.skp rfl (Opl.skp rfl (Opl.p1 (n := Opl.p1 (n := Opl.nil ?_))))))))))
       exact hk3 _ _ ⟨_, _, _, H, by omega, ⟨rfl, rfl, rfl, (by first | rfl | (show PV.lit (.bool _) = _; congr 2; simp_all)), rfl, rfl, rfl, trivial⟩, h7⟩
      rw [if_pos c10] at H
      obtain rfl : t494 = true := by simpa using c10
      refine Opl.p1 (v := .ptr i1 2) (n := Opl.ldb (v := .lit (.int .i64 ((rd_ITerm l0 x26_1).f2))) h6 rfl T3 rfl rfl rfl rfl (Opl.p1 (n := Opl.p1 (n := Opl.p1 (n := ?_)))))
      by_cases c11 : ((rd_ITerm l0 x26_1).f2) = 0
      case neg =>
       rw [if_neg c11] at H
       have e6 : (((rd_ITerm l0 x26_1).f2) == 0) = false := by simpa using c11
       try rw [e6]
       refine Opl.skp rfl (Opl.skp rfl (Opl.skp rfl (Opl.p1 (n := Opl.p1 (n := Opl.nil ?_)))))
       exact hk3 _ _ ⟨_, _, _, H, by omega, ⟨rfl, rfl, rfl, (by first | rfl | (show PV.lit (.bool _) = _; congr 2; simp_all)), rfl, rfl, rfl, trivial⟩, h7⟩
      rw [if_pos c11] at H
      have e5 : (((rd_ITerm l0 x26_1).f2) == 0) = true := by simpa using c11
      try rw [e5]
      refine Opl.p1 (v := .ptr i1 3) (n := Opl.ldb (v := .lit (.int .i64 ((rd_ITerm l0 x26_1).f3))) h6 rfl T3 rfl rfl rfl rfl (Opl.p1 (n := Opl.p1 (n := Opl.p1 (n := Opl.nil ?_)))))
      exact hk3 _ _ ⟨_, _, _, H, by omega, ⟨rfl, rfl, rfl, (by first | rfl | (show PV.lit (.bool _) = _; congr 2; simp_all)), rfl, rfl, rfl, trivial⟩, h7⟩
    rw [if_neg c9] at H
    have e7 : (((rd_ITerm l0 x26_1).f0) == 0) = false := by simpa using c9
    try rw [e7]
    refine Evr.condF rfl (Evr.sr rfl (Opl.p1 (v := .ptr i1 0) (n := Opl.ldb (v := .lit (.int .i64 ((rd_ITerm l0 x26_1).f0))) h6 rfl T3 rfl rfl rfl rfl (Opl.p1 (n := Opl.p1 (n := Opl.nil ?_))))))
    refine Evr.join (fun tm S => ∃ (kq4 : Nat) (x11_3 : Bool) (pv9 : PV), impl_kindsOf.j2 kq4 a1 x5_1 bt490.2.2 x11_3 l0 (l0.length : Int) x26_1 = some r ∧ kq4 ≤ n1 ∧ Has tm [(1, .lit (.int .i64 a1)), (5, pv9), (10, .lit (.int .i64 bt490.2.2)), (11, .lit (.bool x11_3)), (24, v0), (25, .lit (.int .i64 (l0.length : Int))), (26, .lit (.int .i64 x26_1))] ∧ Vec (cInt .i64) x5_1 pv9 S) ?_ fun hk4 => ?_
    ·
     rintro tm S ⟨kq4, x11_3, pv9, H, hle, hh, h15⟩
     rw [hh.eq]
     exact hk2 _ _ ⟨_, _, _, H, by omega, ⟨rfl, rfl, rfl, (by first | rfl | (show PV.lit (.bool _) = _; congr 2; simp_all)), rfl, rfl, rfl, trivial⟩, h15⟩
    ·
     by_cases c12 : ((rd_ITerm l0 x26_1).f0) = 1
     case pos =>
      rw [if_pos c12] at H
      have e8 : (((rd_ITerm l0 x26_1).f0) == 1) = true := by simpa using c12
      try rw [e8]
      refine Evr.condT rfl ?_
      refine Evr.join (fun tm S => ∃ (kq5 : Nat) (x11_4 : Bool) (pv10 : PV), impl_kindsOf.j2 kq5 a1 x5_1 bt490.2.2 x11_4 l0 (l0.length : Int) x26_1 = some r ∧ kq5 ≤ n1 ∧ Has tm [(1, .lit (.int .i64 a1)), (5, pv10), (10, .lit (.int .i64 bt490.2.2)), (11, .lit (.bool x11_4)), (24, v0), (25, .lit (.int .i64 (l0.length : Int))), (26, .lit (.int .i64 x26_1))] ∧ Vec (cInt .i64) x5_1 pv10 S) ?_ fun hk5 => ?_
      ·
       rintro tm S ⟨kq5, x11_4, pv10, H, hle, hh, h16⟩
       rw [hh.eq]
       exact hk4 _ _ ⟨_, _, _, H, by omega, ⟨rfl, rfl, rfl, (by first | rfl | (show PV.lit (.bool _) = _; congr 2; simp_all)), rfl, rfl, rfl, trivial⟩, h16⟩
      ·
       refine Evr.regionN rfl (Opl.p1 (v := .ptr i1 1) (n := Opl.ldb (v := .lit (.int .i64 ((rd_ITerm l0 x26_1).f1))) h6 rfl T3 rfl rfl rfl rfl (Opl.p1 (n := Opl.subi (k := .i64) (a := a1) (b := 1) K3 rfl rfl rfl rfl ?_))))
       obtain ⟨t495, h_t495, H⟩ := Option.bind_eq_some_iff.1 H
       refine Opl.callc (impl_in.ev h_t495) rfl rfl rfl rfl ⟨(.lit _), (.lit _), (.lit _), trivial⟩ (by decide) (Opl.one (v := .lit (.bool t495)) rfl rfl rfl ?_)
       by_cases c13 : t495 = true
       case neg =>
        rw [if_neg c13] at H
        obtain rfl : t495 = false := by simpa using c13
        refine Opl.skp rfl (Opl.skp rfl (Opl.skp rfl (Opl.p1 (n := Opl.one (v := .lit (.bool false)) rfl rfl rfl (Opl.skp rfl (Opl.skp rfl (Opl.skp rfl (Opl.p1 (n := Opl.one (v := .lit (.bool false)) rfl rfl rfl (Opl.nil ?_))))))))))
        exact hk5 _ _ ⟨_, _, _, H, by omega, ⟨rfl, rfl, rfl, (by first | rfl | (show PV.lit (.bool _) = _; congr 2; simp_all)), rfl, rfl, rfl, trivial⟩, h7⟩
       rw [if_pos c13] at H
       obtain rfl : t495 = true := by simpa using c13
       refine Opl.p1 (v := .ptr i1 2) (n := Opl.ldb (v := .lit (.int .i64 ((rd_ITerm l0 x26_1).f2))) h6 rfl T3 rfl rfl rfl rfl (Opl.p1 (n := Opl.p1 (n := Opl.one (v := .lit (.bool (((rd_ITerm l0 x26_1).f2) == 0))) rfl rfl rfl ?_))))
       by_cases c14 : ((rd_ITerm l0 x26_1).f2) = 0
       case neg =>
        rw [if_neg c14] at H
        have e10 : (((rd_ITerm l0 x26_1).f2) == 0) = false := by simpa using c14
        try rw [e10]
        refine Opl.skp rfl (Opl.skp rfl (Opl.skp rfl (Opl.p1 (n := Opl.one (v := .lit (.bool false)) rfl rfl rfl (Opl.nil ?_)))))
        exact hk5 _ _ ⟨_, _, _, H, by omega, ⟨rfl, rfl, rfl, (by first | rfl | (show PV.lit (.bool _) = _; congr 2; simp_all)), rfl, rfl, rfl, trivial⟩, h7⟩
       rw [if_pos c14] at H
       have e9 : (((rd_ITerm l0 x26_1).f2) == 0) = true := by simpa using c14
       try rw [e9]
       refine Opl.p1 (v := .ptr i1 3) (n := Opl.ldb (v := .lit (.int .i64 ((rd_ITerm l0 x26_1).f3))) h6 rfl T3 rfl rfl rfl rfl (Opl.p1 (n := Opl.p1 (n := Opl.one (v := .lit (.bool (((rd_ITerm l0 x26_1).f3) == 0))) rfl rfl rfl (Opl.nil ?_)))))
       exact hk5 _ _ ⟨_, _, _, H, by omega, ⟨rfl, rfl, rfl, (by first | rfl | (show PV.lit (.bool _) = _; congr 2; simp_all)), rfl, rfl, rfl, trivial⟩, h7⟩
     rw [if_neg c12] at H
     have e11 : (((rd_ITerm l0 x26_1).f0) == 1) = false := by simpa using c12
     try rw [e11]
     refine Evr.condF rfl (Evr.sr rfl (Opl.p1 (n := Opl.p1 (n := Opl.nil ?_))))
     refine Evr.join (fun tm S => ∃ (kq6 : Nat) (x11_5 : Bool) (pv11 : PV), impl_kindsOf.j2 kq6 a1 x5_1 bt490.2.2 x11_5 l0 (l0.length : Int) x26_1 = some r ∧ kq6 ≤ n1 ∧ Has tm [(1, .lit (.int .i64 a1)), (5, pv11), (10, .lit (.int .i64 bt490.2.2)), (11, .lit (.bool x11_5)), (24, v0), (25, .lit (.int .i64 (l0.length : Int))), (26, .lit (.int .i64 x26_1))] ∧ Vec (cInt .i64) x5_1 pv11 S) ?_ fun hk6 => ?_
     ·
      rintro tm S ⟨kq6, x11_5, pv11, H, hle, hh, h17⟩
      rw [hh.eq]
      exact hk4 _ _ ⟨_, _, _, H, by omega, ⟨rfl, rfl, rfl, (by first | rfl | (show PV.lit (.bool _) = _; congr 2; simp_all)), rfl, rfl, rfl, trivial⟩, h17⟩
     ·
      by_cases c15 : t493 = true
      case neg =>
       rw [if_neg c15] at H
       obtain rfl : t493 = false := by simpa using c15
       refine Evr.condF rfl (Evr.skip ?_)
       exact hk6 _ _ ⟨_, _, _, H, by omega, ⟨rfl, rfl, rfl, (by first | rfl | (show PV.lit (.bool _) = _; congr 2; simp_all)), rfl, rfl, rfl, trivial⟩, h7⟩
      rw [if_pos c15] at H
      obtain rfl : t493 = true := by simpa using c15
      refine Evr.condT rfl ?_
      refine Evr.join (fun tm S => ∃ (kq7 : Nat) (x11_6 : Bool) (pv12 : PV), impl_kindsOf.j2 kq7 a1 x5_1 bt490.2.2 x11_6 l0 (l0.length : Int) x26_1 = some r ∧ kq7 ≤ n1 ∧ Has tm [(1, .lit (.int .i64 a1)), (5, pv12), (10, .lit (.int .i64 bt490.2.2)), (11, .lit (.bool x11_6)), (24, v0), (25, .lit (.int .i64 (l0.length : Int))), (26, .lit (.int .i64 x26_1))] ∧ Vec (cInt .i64) x5_1 pv12 S) ?_ fun hk7 => ?_
      ·
       rintro tm S ⟨kq7, x11_6, pv12, H, hle, hh, h18⟩
       rw [hh.eq]
       exact hk6 _ _ ⟨_, _, _, H, by omega, ⟨rfl, rfl, rfl, (by first | rfl | (show PV.lit (.bool _) = _; congr 2; simp_all)), rfl, rfl, rfl, trivial⟩, h18⟩
      ·
       refine Evr.regionN rfl (Opl.p1 (v := .ptr i1 1) (n := Opl.ldb (v := .lit (.int .i64 ((rd_ITerm l0 x26_1).f1))) h6 rfl T3 rfl rfl rfl rfl (Opl.p1 (n := Opl.p1 (n := ?_)))))
       by_cases c16 : ((rd_ITerm l0 x26_1).f1) = 0
       case neg =>
        rw [if_neg c16] at H
        have e19 : (((rd_ITerm l0 x26_1).f1) == 0) = false := by simpa using c16
        try rw [e19]
        refine Opl.skp rfl (Opl.skp rfl (Opl.skp rfl (Opl.skp rfl (Opl.skp rfl (Opl.p1 (n := Opl.p1 (n := Opl.skp rfl (Opl.skp rfl (Opl.skp rfl (Opl.skp rfl (Opl.skp rfl (Opl.p1 (n := Opl.p1 (n := Opl.skp rfl (Opl.skp rfl (Opl.skp rfl (Opl.skp rfl (Opl.skp rfl (Opl.skp rfl (Opl.skp rfl (Opl.p1 (n := Opl.p1 (n := Opl.skp rfl (Opl.skp rfl (Opl.skp rfl (Opl.skp rfl (Opl.skp rfl (Opl.skp rfl (Opl.skp rfl (Opl.p1 (n := Opl.p1 (n := Opl.skp rfl (Opl.skp rfl (Opl.skp rfl (Opl.skp rfl (Opl.skp rfl (Opl.skp rfl (Opl.skp rfl (Opl.skp rfl (Opl.skp rfl (Opl.p1 (n := Opl.p1 (n := Opl.nil ?_)))))))))))))))))))))))))))))))))))))))))))
        exact hk7 _ _ ⟨_, _, _, H, by omega, ⟨rfl, rfl, rfl, (by first | rfl | (show PV.lit (.bool _) = _; congr 2; simp_all)), rfl, rfl, rfl, trivial⟩, h7⟩
       rw [if_pos c16] at H
       have e12 : (((rd_ITerm l0 x26_1).f1) == 0) = true := by simpa using c16
       try rw [e12]
       refine Opl.p1 (v := .ptr i1 2) (n := Opl.ldb (v := .lit (.int .i64 ((rd_ITerm l0 x26_1).f2))) h6 rfl T3 rfl rfl rfl rfl (Opl.p1 (n := Opl.subi (k := .i64) (a := x26_1) (b := 1) K3 rfl rfl rfl rfl ?_)))
       obtain ⟨t496, h_t496, H⟩ := Option.bind_eq_some_iff.1 H
       refine Opl.callc (impl_in.ev h_t496) rfl rfl rfl rfl ⟨(.lit _), (.lit _), (.lit _), trivial⟩ (by decide) (Opl.p1 (n := Opl.one (v := .lit (.bool t496)) rfl rfl rfl ?_))
       by_cases c17 : t496 = true
       case neg =>
        rw [if_neg c17] at H
        obtain rfl : t496 = false := by simpa using c17
        refine Opl.skp rfl (Opl.skp rfl (Opl.skp rfl (Opl.skp rfl (Opl.skp rfl (Opl.p1 (n := Opl.one (v := .lit (.bool false)) rfl rfl rfl (Opl.skp rfl (Opl.skp rfl (Opl.skp rfl (Opl.skp rfl (Opl.skp rfl (Opl.skp rfl (Opl.skp rfl (Opl.p1 (n := Opl.one (v := .lit (.bool false)) rfl rfl rfl (Opl.skp rfl (Opl.skp rfl (Opl.skp rfl (Opl.skp rfl (Opl.skp rfl (Opl.skp rfl (Opl.skp rfl (Opl.p1 (n := Opl.one (v := .lit (.bool false)) rfl rfl rfl (Opl.skp rfl (Opl.skp rfl (Opl.skp rfl (Opl.skp rfl (Opl.skp rfl (Opl.skp rfl (Opl.skp rfl (Opl.skp rfl (Opl.skp rfl (Opl.p1 (n := Opl.one (v := .lit (.bool false)) rfl rfl rfl (Opl.nil ?_))))))))))))))))))))))))))))))))))))
        exact hk7 _ _ ⟨_, _, _, H, by omega, ⟨rfl, rfl, rfl, (by first | rfl | (show PV.lit (.bool _) = _; congr 2; simp_all)), rfl, rfl, rfl, trivial⟩, h7⟩
       rw [if_pos c17] at H
       obtain rfl : t496 = true := by simpa using c17
       refine Opl.p1 (v := .ptr i1 3) (n := Opl.ldb (v := .lit (.int .i64 ((rd_ITerm l0 x26_1).f3))) h6 rfl T3 rfl rfl rfl rfl (Opl.one (v := .lit (.int .i64 x26_1)) rfl rfl rfl (Opl.subi (k := .i64) (a := x26_1) (b := 1) K3 rfl rfl rfl rfl ?_)))
       obtain ⟨t497, h_t497, H⟩ := Option.bind_eq_some_iff.1 H
       refine Opl.callc (impl_in.ev h_t497) rfl rfl rfl rfl ⟨(.lit _), (.lit _), (.lit _), trivial⟩ (by decide) (Opl.p1 (n := Opl.one (v := .lit (.bool t497)) rfl rfl rfl ?_))
       by_cases c18 : t497 = true
       case neg =>
        rw [if_neg c18] at H
        obtain rfl : t497 = false := by simpa using c18
        refine Opl.skp rfl (Opl.skp rfl (Opl.skp rfl (Opl.skp rfl (Opl.skp rfl (Opl.skp rfl (Opl.skp rfl (Opl.p1 (n := Opl.one (v := .lit (.bool false)) rfl rfl rfl (Opl.skp rfl (Opl.skp rfl (Opl.skp rfl (Opl.skp rfl (Opl.skp rfl (Opl.skp rfl (Opl.skp rfl (Opl.p1 (n := Opl.one (v := .lit (.bool false)) rfl rfl rfl (Opl.skp rfl (Opl.skp rfl (Opl.skp rfl (Opl.skp rfl (Opl.skp rfl (Opl.skp rfl (Opl.skp rfl (Opl.skp rfl (Opl.skp rfl (Opl.p1 (n := Opl.one (v := .lit (.bool false)) rfl rfl rfl (Opl.nil ?_)))))))))))))))))))))))))))))
        exact hk7 _ _ ⟨_, _, _, H, by omega, ⟨rfl, rfl, rfl, (by first | rfl | (show PV.lit (.bool _) = _; congr 2; simp_all)), rfl, rfl, rfl, trivial⟩, h7⟩
       rw [if_pos c18] at H
       obtain rfl : t497 = true := by simpa using c18
       refine Opl.one (v := pv3) rfl rfl rfl (Opl.p1 (v := .ptr i1 2) (n := Opl.ldb (v := .lit (.int .i64 ((rd_ITerm l0 x26_1).f2))) h6 rfl T3 rfl rfl rfl rfl ?_))
       obtain ⟨c19, H⟩ := peel H
       obtain ⟨c20, H⟩ := peel H
       refine Opl.idv (M := (cInt .i64)) (xs := x5_1) (j := ((rd_ITerm l0 x26_1).f2)) (v := pv3) h7 rfl rfl (by omega) (by omega) K27 Z3 rfl rfl ?_
       rintro d1 z1 q2 h19 h20
       refine Opl.ldv (M := (cInt .i64)) (xs := x5_1) (j := ((rd_ITerm l0 x26_1).f2)) (0 : Int) h19 h20 (by omega) (by omega) rfl T3 rfl rfl rfl ?_
       rintro p2 q3 h21
       obtain rfl : p2 = [.lit (.int .i64 (rd x5_1 ((rd_ITerm l0 x26_1).f2)))] := h21
       refine ⟨.lit (.int .i64 (rd x5_1 ((rd_ITerm l0 x26_1).f2))), rfl, ?_⟩
       refine Opl.one (v := .lit (.int .i64 bt490.2.1)) rfl rfl rfl (Opl.p1 (n := Opl.p1 (n := Opl.one (v := .lit (.bool ((rd x5_1 ((rd_ITerm l0 x26_1).f2)) == bt490.2.1))) rfl rfl rfl ?_)))
       by_cases c21 : (rd x5_1 ((rd_ITerm l0 x26_1).f2)) = bt490.2.1
       case neg =>
        rw [if_neg c21] at H
        have e18 : ((rd x5_1 ((rd_ITerm l0 x26_1).f2)) == bt490.2.1) = false := by simpa using c21
        try rw [e18]
        refine Opl.skp rfl (Opl.skp rfl (Opl.skp rfl (Opl.skp rfl (Opl.skp rfl (Opl.skp rfl (Opl.skp rfl (Opl.p1 (n := Opl.one (v := .lit (.bool false)) rfl rfl rfl (Opl.skp rfl (Opl.skp rfl (Opl.skp rfl (Opl.skp rfl (Opl.skp rfl (Opl.skp rfl (Opl.skp rfl (Opl.skp rfl (Opl.skp rfl (Opl.p1 (n := Opl.one (v := .lit (.bool false)) rfl rfl rfl (Opl.nil ?_))))))))))))))))))))
        exact hk7 _ _ ⟨_, _, _, H, by omega, ⟨rfl, rfl, rfl, (by first | rfl | (show PV.lit (.bool _) = _; congr 2; simp_all)), rfl, rfl, rfl, trivial⟩, h7⟩
       rw [if_pos c21] at H
       have e13 : ((rd x5_1 ((rd_ITerm l0 x26_1).f2)) == bt490.2.1) = true := by simpa using c21
       try rw [e13]
       refine Opl.one (v := pv3) rfl rfl rfl (Opl.p1 (v := .ptr i1 3) (n := Opl.ldb (v := .lit (.int .i64 ((rd_ITerm l0 x26_1).f3))) h6 rfl T3 rfl rfl rfl rfl ?_))
       obtain ⟨c22, H⟩ := peel H
       obtain ⟨c23, H⟩ := peel H
       refine Opl.idv (M := (cInt .i64)) (xs := x5_1) (j := ((rd_ITerm l0 x26_1).f3)) (v := pv3) h7 rfl rfl (by omega) (by omega) K27 Z3 rfl rfl ?_
       rintro d2 z2 q4 h22 h23
       refine Opl.ldv (M := (cInt .i64)) (xs := x5_1) (j := ((rd_ITerm l0 x26_1).f3)) (0 : Int) h22 h23 (by omega) (by omega) rfl T3 rfl rfl rfl ?_
       rintro p3 q5 h24
       obtain rfl : p3 = [.lit (.int .i64 (rd x5_1 ((rd_ITerm l0 x26_1).f3)))] := h24
       refine ⟨.lit (.int .i64 (rd x5_1 ((rd_ITerm l0 x26_1).f3))), rfl, ?_⟩
       refine Opl.one (v := .lit (.int .i64 bt490.2.1)) rfl rfl rfl (Opl.p1 (n := Opl.p1 (n := Opl.one (v := .lit (.bool ((rd x5_1 ((rd_ITerm l0 x26_1).f3)) == bt490.2.1))) rfl rfl rfl ?_)))
       by_cases c24 : (rd x5_1 ((rd_ITerm l0 x26_1).f3)) = bt490.2.1
       case neg =>
        rw [if_neg c24] at H
        have e17 : ((rd x5_1 ((rd_ITerm l0 x26_1).f3)) == bt490.2.1) = false := by simpa using c24
        try rw [e17]
        refine Opl.skp rfl (Opl.skp rfl (Opl.skp rfl (Opl.skp rfl (Opl.skp rfl (Opl.skp rfl (Opl.skp rfl (Opl.skp rfl (Opl.skp rfl (Opl.p1 (n := Opl.one (v := .lit (.bool false)) rfl rfl rfl (Opl.nil ?_)))))))))))
        exact hk7 _ _ ⟨_, _, _, H, by omega, ⟨rfl, rfl, rfl, (by first | rfl | (show PV.lit (.bool _) = _; congr 2; simp_all)), rfl, rfl, rfl, trivial⟩, h7⟩
       rw [if_pos c24] at H
       have e14 : ((rd x5_1 ((rd_ITerm l0 x26_1).f3)) == bt490.2.1) = true := by simpa using c24
       try rw [e14]
       refine Opl.one (v := .lit (.int .i64 bt490.1)) rfl rfl rfl (Opl.p1 (n := Opl.one (v := .lit (.bool (bt490.1 == 2))) rfl rfl rfl ?_))
       by_cases c25 : bt490.1 = 2
       case pos =>
        rw [if_pos c25] at H
        have e15 : (bt490.1 == 2) = true := by simpa using c25
        try rw [e15]
        refine Opl.skp rfl (Opl.skp rfl (Opl.skp rfl (Opl.skp rfl (Opl.skp rfl (Opl.p1 (n := Opl.p1 (n := Opl.one (v := .lit (.bool true)) rfl rfl rfl (Opl.nil ?_))))))))
        exact hk7 _ _ ⟨_, _, _, H, by omega, ⟨rfl, rfl, rfl, (by first | rfl | (show PV.lit (.bool _) = _; congr 2; simp_all)), rfl, rfl, rfl, trivial⟩, h7⟩
       rw [if_neg c25] at H
       have e16 : (bt490.1 == 2) = false := by simpa using c25
       try rw [e16]
       refine Opl.p1 (v := .ptr i1 2) (n := Opl.ldb (v := .lit (.int .i64 ((rd_ITerm l0 x26_1).f2))) h6 rfl T3 rfl rfl rfl rfl (Opl.p1 (v := .ptr i1 3) (n := Opl.ldb (v := .lit (.int .i64 ((rd_ITerm l0 x26_1).f3))) h6 rfl T3 rfl rfl rfl rfl (Opl.p1 (n := Opl.p1 (n := Opl.p1 (n := Opl.one (v := .lit (.bool (((rd_ITerm l0 x26_1).f2) == ((rd_ITerm l0 x26_1).f3)))) rfl rfl rfl (Opl.nil ?_))))))))
       exact hk7 _ _ ⟨_, _, _, H, by omega, ⟨rfl, rfl, rfl, (by first | rfl | (show PV.lit (.bool _) = _; congr 2; simp_all)), rfl, rfl, rfl, trivial⟩, h7⟩
 ·
  refine Evr.regionN rfl (Opl.p1 (n := ?_))
  obtain ⟨t483, h_t483, H⟩ := Option.bind_eq_some_iff.1 H
  refine Opl.callc (impl_in.ev h_t483) rfl rfl rfl rfl ⟨(.lit _), (.lit _), (.lit _), trivial⟩ (by decide) (Opl.p1 (n := Opl.p1 (n := ?_)))
  by_cases c27 : t483 = true
  case neg =>
   rw [if_neg c27] at H
   have e22 : (!t483) = true := by simpa using c27
   try rw [e22]
   refine Opl.skp rfl (Opl.skp rfl (Opl.skp rfl (Opl.skp rfl (Opl.p1 (n := Opl.nil ?_)))))
   exact hk1 _ _ ⟨_, _, H, ⟨rfl, rfl, (by first | rfl | (show PV.lit (.bool _) = _; congr 2; simp_all)), trivial⟩⟩
  rw [if_pos c27] at H
  have e21 : (!t483) = false := by simpa using c27
  try rw [e21]
  refine Opl.p1 (n := Opl.len (xs := l0) (by exact hv0) K66 rfl rfl rfl rfl ?_)
  obtain ⟨t484, h_t484, H⟩ := Option.bind_eq_some_iff.1 H
  refine Opl.callc (impl_in.ev h_t484) rfl rfl rfl rfl ⟨(.lit _), (.lit _), (.lit _), trivial⟩ (by decide) (Opl.p1 (n := Opl.p1 (n := Opl.nil ?_)))
  exact hk1 _ _ ⟨_, _, H, ⟨rfl, rfl, (by first | rfl | (show PV.lit (.bool _) = _; congr 2; simp_all)), trivial⟩⟩
theorem impl_kindOf.ev {k : Nat} {l0 : List ITerm} {v0 : PV} (hv0 : Sl cITerm l0 v0) {a1 : Int} {r : Int} (H : impl_kindOf.f k l0 a1 = some r) : Ret Try.prog 150 [v0, .lit (.int .i64 a1)] fun v S => v = .lit (.int .i64 r) := by
 unfold impl_kindOf.f at H
 refine Ret.intro Try.func150 rfl (Nat.le_of_ble_eq_true rfl) rfl ?_
 rw [tm2]
 refine Evr.sr rfl (Opl.p1 (n := Opl.nil (Evr.sr rfl (Opl.p1 (n := Opl.p1 (n := ?_))))))
 obtain ⟨t, h_t, H⟩ := Option.bind_eq_some_iff.1 H
 refine Opl.call ((impl_kindsOf.ev hv0 h_t).mono fun _ _ h => Out.vecn h) rfl rfl rfl rfl ⟨hv0.plain, (.lit _), trivial⟩ (by decide) ?_
 rintro pv1 ⟨h1, h2⟩
 refine Opl.p1 (n := Opl.nil (Evr.seq (Evr.sr rfl (Opl.p1 (n := ?_)))))
 by_cases c1 : t = []
 case pos =>
  rw [if_pos c1] at H
  refine Opl.eqnil (by exact h2 c1) K27 rfl rfl (Opl.nil (Evr.condT rfl (Evr.sr rfl (Opl.p1 (n := Opl.nil ?_)))))
  obtain rfl := Option.some.inj H
  refine Evr.ret1 Try.func150 rfl ?_
  show (.lit (.int .i64 0) : PV) = _
  first | rfl | (simp only [go_sem]; rfl)
 rw [if_neg c1] at H
 refine Opl.eqsome (by exact h1) c1 K27 rfl rfl (Opl.nil (Evr.condF rfl (Evr.skip (Evr.sr rfl (Opl.p1 (n := Opl.p1 (n := Opl.len (xs := t) (by exact h1) K27 rfl rfl rfl rfl (Opl.subi (k := .i64) (a := (t.length : Int)) (b := 1) K3 rfl rfl rfl rfl ?_))))))))
 obtain ⟨c2, H⟩ := peel H
 obtain ⟨c3, H⟩ := peel H
 refine Opl.idx (M := (cInt .i64)) (xs := t) (j := (wrap64 ((t.length : Int) - 1))) (0 : Int) (by exact h1) rfl (by omega) (by omega) K27 Z3 rfl rfl ?_
 rintro p1 q1 h3
 obtain rfl : p1 = [.lit (.int .i64 (rd t (wrap64 ((t.length : Int) - 1))))] := h3
 refine Opl.lda (.lit (.int .i64 (rd t (wrap64 ((t.length : Int) - 1))))) rfl T3 rfl rfl rfl rfl (Opl.one (v := .lit (.int .i64 (rd t (wrap64 ((t.length : Int) - 1))))) rfl rfl rfl (Opl.nil ?_))
 obtain rfl := Option.some.inj H
 refine Evr.ret1 Try.func150 rfl ?_
 show (.lit (.int .i64 (rd t (wrap64 ((t.length : Int) - 1)))) : PV) = _
 first | rfl | (simp only [go_sem]; rfl)
theorem impl_ruleOk.ev {k : Nat} {l0_0 : List ITerm} {v0_0 : PV} (hv0_0 : Sl cITerm l0_0 v0_0) {l0_1 : List Int} {v0_1 : PV} (hv0_1 : Sl (cInt .i64) l0_1 v0_1) {l0_2 : List (List ITerm)} {v0_2 : PV} (hv0_2 : Sl (cSl cITerm) l0_2 v0_2) {a1 : Int} {r : Bool} (H : impl_ruleOk.f k l0_0 l0_1 l0_2 a1 = some r) : Ret Try.prog 93 [.agg [v0_0, v0_1, v0_2], .lit (.int .i64 a1)] fun v S => v = .lit (.bool r) := by
 unfold impl_ruleOk.f at H
 refine Ret.intro Try.func93 rfl (Nat.le_of_ble_eq_true rfl) rfl ?_
 rw [tm2]
 refine Evr.sr rfl (Opl.box (cs := [v0_0, v0_1, v0_2]) rfl rfl rfl rfl ?_)
 rintro i1 S h1 u1 w1
 refine Opl.p1 (n := Opl.nil (Evr.seq (Evr.seq ?_)))
 refine Evr.join (fun tm S => ∃ (kq1 : Nat) (x20_1 : Bool) (i2 : Abs.Id), impl_ruleOk.j0 kq1 a1 x20_1 l0_0 l0_1 l0_2 = some r ∧ Has tm [(1, .lit (.int .i64 a1)), (2, .ptr i2 0), (20, .lit (.bool x20_1))] ∧ Box (.ptr i2 0) [v0_0, v0_1, v0_2] S) ?_ fun hk1 => ?_
 ·
  rintro tm S ⟨kq1, x20_1, i2, H, hh, h2⟩
  rw [hh.eq]
  obtain _ | k1 := kq1
  · simp [impl_ruleOk.j0] at H
  simp only [impl_ruleOk.j0] at H
  by_cases c1 : x20_1 = true
  case pos =>
   rw [if_pos c1] at H
   obtain rfl : x20_1 = true := by simpa using c1
   refine Evr.condT rfl (Evr.sr rfl (Opl.p1 (n := Opl.nil ?_)))
   obtain rfl := Option.some.inj H
   refine Evr.ret1 Try.func93 rfl ?_
   show (.lit (.bool false) : PV) = _
   first | rfl | (simp only [go_sem]; rfl)
  rw [if_neg c1] at H
  obtain rfl : x20_1 = false := by simpa using c1
  refine Evr.condF rfl (Evr.skip (Evr.seq (Evr.sr rfl (Opl.p1 (v := .ptr i2 1) (n := Opl.ldb (v := v0_1) h2 rfl T27 rfl rfl rfl rfl (Opl.len (xs := l0_1) (by exact hv0_1) K27 rfl rfl rfl rfl (Opl.p1 (n := Opl.nil (Evr.block ?_)))))))))
  refine Evr.loop (Evr.rounds (n := k1) (Inv := fun n tm S => n ≤ k1 ∧ ∃ (x24_1 : Int) (i3 : Abs.Id), impl_ruleOk.l0 n a1 l0_1 (l0_1.length : Int) x24_1 l0_0 l0_1 l0_2 = some r ∧ Has tm [(1, .lit (.int .i64 a1)), (2, .ptr i3 0), (22, v0_1), (23, .lit (.int .i64 (l0_1.length : Int))), (24, .lit (.int .i64 x24_1))] ∧ Box (.ptr i3 0) [v0_0, v0_1, v0_2] S) ?_ ?_ ?_)
  · exact ⟨Nat.le_refl _, _, _, H, ⟨rfl, rfl, rfl, rfl, rfl, trivial⟩, h2⟩
  ·
   rintro tm S ⟨_, _, _, H, -⟩
   simp [impl_ruleOk.l0] at H
  ·
   rintro n1 ih1 tm S ⟨hle, x24_1, i3, H, hh, h3⟩
   simp only [impl_ruleOk.l0] at H
   rw [hh.eq]
   refine Evr.sr rfl (Opl.p1 (n := Opl.nil (Evr.seq ?_)))
   by_cases c2 : x24_1 < (l0_1.length : Int)
   case neg =>
    rw [if_neg c2] at H
    have e8 : (decide (x24_1 < (l0_1.length : Int))) = false := by simpa using c2
    try rw [e8]
    refine Evr.condF rfl (Evr.exit rfl (Evr.sr rfl (Opl.p1 (n := Opl.nil ?_))))
    obtain rfl := Option.some.inj H
    refine Evr.ret1 Try.func93 rfl ?_
    show (.lit (.bool true) : PV) = _
    first | rfl | (simp only [go_sem]; rfl)
   rw [if_pos c2] at H
   have e1 : (decide (x24_1 < (l0_1.length : Int))) = true := by simpa using c2
   try rw [e1]
   refine Evr.condT rfl (Evr.skip (Evr.seq (Evr.block (Evr.sr rfl (Opl.p1 (n := ?_))))))
   obtain ⟨c3, H⟩ := peel H
   obtain ⟨c4, H⟩ := peel H
   refine Opl.idx (M := (cInt .i64)) (xs := l0_1) (j := x24_1) (0 : Int) (by exact hv0_1) rfl (by omega) (by omega) K27 Z3 rfl rfl ?_
   rintro p1 q1 h4
   obtain rfl : p1 = [.lit (.int .i64 (rd l0_1 x24_1))] := h4
   refine Opl.lda (.lit (.int .i64 (rd l0_1 x24_1))) rfl T3 rfl rfl rfl rfl (Opl.p1 (n := Opl.p1 (n := Opl.nil (Evr.seq ?_))))
   refine Evr.join (fun tm S => ∃ (kq2 : Nat) (x57_1 : Bool) (i4 : Abs.Id), impl_ruleOk.j2 kq2 a1 l0_1 (l0_1.length : Int) x24_1 x57_1 l0_0 l0_1 l0_2 = some r ∧ kq2 ≤ n1 ∧ Has tm [(1, .lit (.int .i64 a1)), (2, .ptr i4 0), (22, v0_1), (23, .lit (.int .i64 (l0_1.length : Int))), (24, .lit (.int .i64 x24_1)), (57, .lit (.bool x57_1))] ∧ Box (.ptr i4 0) [v0_0, v0_1, v0_2] S) ?_ fun hk2 => ?_
   ·
    rintro tm S ⟨kq2, x57_1, i4, H, hle, hh, h5⟩
    rw [hh.eq]
    obtain _ | k2 := kq2
    · simp [impl_ruleOk.j2] at H
    simp only [impl_ruleOk.j2] at H
    by_cases c5 : x57_1 = true
    case pos =>
     rw [if_pos c5] at H
     obtain rfl : x57_1 = true := by simpa using c5
     refine Evr.condT rfl (Evr.sr rfl (Opl.p1 (n := Opl.nil ?_)))
     obtain rfl := Option.some.inj H
     refine Evr.ret1 Try.func93 rfl ?_
     show (.lit (.bool false) : PV) = _
     first | rfl | (simp only [go_sem]; rfl)
    rw [if_neg c5] at H
    obtain rfl : x57_1 = false := by simpa using c5
    refine Evr.condF rfl (Evr.skip (Evr.inBlock (Evr.regionN rfl (Opl.add (k := .i64) (a := x24_1) (b := 1) K3 rfl rfl rfl rfl (Opl.one (v := .lit (.int .i64 (wrap64 (x24_1 + 1)))) rfl rfl rfl (Opl.nil ?_))))))
    exact ih1 _ (by omega) _ _ ⟨by omega, _, _, H, ⟨rfl, rfl, rfl, rfl, rfl, trivial⟩, h5⟩
   ·
    refine Evr.regionN rfl (Opl.p1 (n := Opl.p1 (n := Opl.subi (k := .i64) (a := a1) (b := 1) K3 rfl rfl rfl rfl ?_)))
    obtain ⟨t506, h_t506, H⟩ := Option.bind_eq_some_iff.1 H
    refine Opl.callc (impl_in.ev h_t506) rfl rfl rfl rfl ⟨(.lit _), (.lit _), (.lit _), trivial⟩ (by decide) (Opl.p1 (n := Opl.one (v := .lit (.bool (!t506))) rfl rfl rfl ?_))
    by_cases c6 : t506 = true
    case neg =>
     rw [if_neg c6] at H
     have e7 : (!t506) = true := by simpa using c6
     try rw [e7]
     refine Opl.skp rfl (Opl.skp rfl (Opl.skp rfl (Opl.skp rfl (Opl.skp rfl (Opl.skp rfl (Opl.skp rfl (Opl.skp rfl (Opl.skp rfl (Opl.skp rfl (Opl.skp rfl (Opl.skp rfl (Opl.p1 (n := Opl.one (v := .lit (.bool true)) rfl rfl rfl (Opl.skp rfl (Opl.skp rfl (Opl.skp rfl (Opl.skp rfl (Opl.skp rfl (Opl.skp rfl (Opl.skp rfl (Opl.skp rfl (Opl.p1 (n := Opl.nil ?_)))))))))))))))))))))))
     exact hk2 _ _ ⟨_, _, _, H, by omega, ⟨rfl, rfl, rfl, rfl, rfl, (by first | rfl | (show PV.lit (.bool _) = _; congr 2; simp_all)), trivial⟩, h3⟩
    rw [if_pos c6] at H
    have e2 : (!t506) = false := by simpa using c6
    try rw [e2]
    refine Opl.one (v := .lit (.int .i64 x24_1)) rfl rfl rfl (Opl.p1 (n := Opl.one (v := .lit (.bool (decide (x24_1 > 0)))) rfl rfl rfl ?_))
    by_cases c7 : x24_1 > 0
    case neg =>
     rw [if_neg c7] at H
     have e6 : (decide (x24_1 > 0)) = false := by simpa using c7
     try rw [e6]
     refine Opl.skp rfl (Opl.skp rfl (Opl.skp rfl (Opl.skp rfl (Opl.skp rfl (Opl.skp rfl (Opl.skp rfl (Opl.skp rfl (Opl.p1 (n := Opl.p1 (n := Opl.one (v := .lit (.bool false)) rfl rfl rfl (Opl.p1 (v := .ptr i3 2) (n := Opl.ldb (v := v0_2) h3 rfl T104 rfl rfl rfl rfl (Opl.one (v := .lit (.int .i64 x24_1)) rfl rfl rfl ?_)))))))))))))
     obtain ⟨c12, H⟩ := peel H
     refine Opl.idx (M := (cSl cITerm)) (xs := l0_2) (j := x24_1) ([] : List ITerm) (by exact hv0_2) rfl (by omega) (by omega) K104 Z66 rfl rfl ?_
     rintro p4 q4 h9
     obtain ⟨pv2, rfl, h10⟩ := h9
     refine Opl.lda (pv2) rfl T66 rfl rfl rfl rfl (Opl.one (v := .lit (.int .i64 a1)) rfl rfl rfl ?_)
     obtain ⟨t511, h_t511, H⟩ := Option.bind_eq_some_iff.1 H
     refine Opl.callc (impl_kindOf.ev h10 h_t511) rfl rfl rfl rfl ⟨h10.plain, (.lit _), trivial⟩ (by decide) (Opl.p1 (n := Opl.p1 (n := Opl.nil ?_)))
     exact hk2 _ _ ⟨_, _, _, H, by omega, ⟨rfl, rfl, rfl, rfl, rfl, (by first | rfl | (show PV.lit (.bool _) = _; congr 2; simp_all)), trivial⟩, h3⟩
    rw [if_pos c7] at H
    have e3 : (decide (x24_1 > 0)) = true := by simpa using c7
    try rw [e3]
    refine Opl.p1 (v := .ptr i3 1) (n := Opl.ldb (v := v0_1) h3 rfl T27 rfl rfl rfl rfl (Opl.one (v := .lit (.int .i64 x24_1)) rfl rfl rfl (Opl.subi (k := .i64) (a := x24_1) (b := 1) K3 rfl rfl rfl rfl ?_)))
    obtain ⟨c8, H⟩ := peel H
    obtain ⟨c9, H⟩ := peel H
    refine Opl.idx (M := (cInt .i64)) (xs := l0_1) (j := (wrap64 (x24_1 - 1))) (0 : Int) (by exact hv0_1) rfl (by omega) (by omega) K27 Z3 rfl rfl ?_
    rintro p2 q2 h6
    obtain rfl : p2 = [.lit (.int .i64 (rd l0_1 (wrap64 (x24_1 - 1))))] := h6
    refine Opl.lda (.lit (.int .i64 (rd l0_1 (wrap64 (x24_1 - 1))))) rfl T3 rfl rfl rfl rfl (Opl.one (v := .lit (.int .i64 (rd l0_1 x24_1))) rfl rfl rfl (Opl.geq (a := (rd l0_1 (wrap64 (x24_1 - 1)))) (b := (rd l0_1 x24_1)) K3 rfl rfl rfl rfl (Opl.p1 (n := Opl.p1 (n := Opl.one (v := .lit (.bool (decide ((rd l0_1 (wrap64 (x24_1 - 1))) ≥ (rd l0_1 x24_1))))) rfl rfl rfl ?_)))))
    by_cases c10 : (rd l0_1 (wrap64 (x24_1 - 1))) ≥ (rd l0_1 x24_1)
    case pos =>
     rw [if_pos c10] at H
     have e4 : (decide ((rd l0_1 (wrap64 (x24_1 - 1))) ≥ (rd l0_1 x24_1))) = true := by simpa using c10
     try rw [e4]
     refine Opl.skp rfl (Opl.skp rfl (Opl.skp rfl (Opl.skp rfl (Opl.skp rfl (Opl.skp rfl (Opl.skp rfl (Opl.skp rfl (Opl.p1 (n := Opl.nil ?_)))))))))
     exact hk2 _ _ ⟨_, _, _, H, by omega, ⟨rfl, rfl, rfl, rfl, rfl, (by first | rfl | (show PV.lit (.bool _) = _; congr 2; simp_all)), trivial⟩, h3⟩
    rw [if_neg c10] at H
    have e5 : (decide ((rd l0_1 (wrap64 (x24_1 - 1))) ≥ (rd l0_1 x24_1))) = false := by simpa using c10
    try rw [e5]
    refine Opl.p1 (v := .ptr i3 2) (n := Opl.ldb (v := v0_2) h3 rfl T104 rfl rfl rfl rfl (Opl.one (v := .lit (.int .i64 x24_1)) rfl rfl rfl ?_))
    obtain ⟨c11, H⟩ := peel H
    refine Opl.idx (M := (cSl cITerm)) (xs := l0_2) (j := x24_1) ([] : List ITerm) (by exact hv0_2) rfl (by omega) (by omega) K104 Z66 rfl rfl ?_
    rintro p3 q3 h7
    obtain ⟨pv1, rfl, h8⟩ := h7
    refine Opl.lda (pv1) rfl T66 rfl rfl rfl rfl (Opl.one (v := .lit (.int .i64 a1)) rfl rfl rfl ?_)
    obtain ⟨t509, h_t509, H⟩ := Option.bind_eq_some_iff.1 H
    refine Opl.callc (impl_kindOf.ev h8 h_t509) rfl rfl rfl rfl ⟨h8.plain, (.lit _), trivial⟩ (by decide) (Opl.p1 (n := Opl.p1 (n := Opl.nil ?_)))
    exact hk2 _ _ ⟨_, _, _, H, by omega, ⟨rfl, rfl, rfl, rfl, rfl, (by first | rfl | (show PV.lit (.bool _) = _; congr 2; simp_all)), trivial⟩, h3⟩
 ·
  refine Evr.regionN rfl (Opl.p1 (v := .ptr i1 0) (n := Opl.ldb (v := v0_0) h1 rfl T66 rfl rfl rfl rfl (Opl.p1 (n := ?_))))
  obtain ⟨t504, h_t504, H⟩ := Option.bind_eq_some_iff.1 H
  refine Opl.callc (impl_kindOf.ev hv0_0 h_t504) rfl rfl rfl rfl ⟨hv0_0.plain, (.lit _), trivial⟩ (by decide) (Opl.p1 (n := Opl.p1 (n := ?_)))
  by_cases c13 : t504 = 2
  case neg =>
   rw [if_neg c13] at H
   have e10 : (t504 != 2) = true := by simpa using c13
   try rw [e10]
   refine Opl.skp rfl (Opl.skp rfl (Opl.skp rfl (Opl.skp rfl (Opl.skp rfl (Opl.skp rfl (Opl.skp rfl (Opl.p1 (n := Opl.nil ?_))))))))
   exact hk1 _ _ ⟨_, _, _, H, ⟨rfl, rfl, (by first | rfl | (show PV.lit (.bool _) = _; congr 2; simp_all)), trivial⟩, h1⟩
  rw [if_pos c13] at H
  have e9 : (t504 != 2) = false := by simpa using c13
  try rw [e9]
  refine Opl.p1 (v := .ptr i1 1) (n := Opl.ldb (v := v0_1) h1 rfl T27 rfl rfl rfl rfl (Opl.len (xs := l0_1) (by exact hv0_1) K27 rfl rfl rfl rfl (Opl.p1 (v := .ptr i1 2) (n := Opl.ldb (v := v0_2) h1 rfl T104 rfl rfl rfl rfl (Opl.len (xs := l0_2) (by exact hv0_2) K104 rfl rfl rfl rfl (Opl.p1 (n := Opl.p1 (n := Opl.nil ?_))))))))
  exact hk1 _ _ ⟨_, _, _, H, ⟨rfl, rfl, (by first | rfl | (show PV.lit (.bool _) = _; congr 2; simp_all)), trivial⟩, h1⟩
theorem impl_SystemValid_2.ev {k : Nat} {l0_0 : List ITerm} {v0_0 : PV} (hv0_0 : Sl cITerm l0_0 v0_0) {l0_1 : List Int} {v0_1 : PV} (hv0_1 : Sl (cInt .i64) l0_1 v0_1) {l0_2 : List (List ITerm)} {v0_2 : PV} (hv0_2 : Sl (cSl cITerm) l0_2 v0_2) {l1_0 : List IVar} {v1_0 : PV} (hv1_0 : Sl cIVar l1_0 v1_0) {l1_1 : List IRule} {v1_1 : PV} (hv1_1 : Sl cIRule l1_1 v1_1) {r : Bool} (H : impl_SystemValid_2.f k l0_0 l0_1 l0_2 l1_0 l1_1 = some r) : Ret Try.prog 92 [.agg [v0_0, v0_1, v0_2], .fel (v1_0 :: v1_1 :: [])] fun v S => v = .lit (.bool r) := by
 unfold impl_SystemValid_2.f at H
 refine Ret.intro Try.func92 rfl (Nat.le_of_ble_eq_true rfl) rfl ?_
 rw [tm2]
 refine Evr.sr rfl (Opl.box (cs := [v0_0, v0_1, v0_2]) rfl rfl rfl rfl ?_)
 rintro i1 S h1 u1 w1
 refine Opl.p1 (n := Opl.nil (Evr.sr rfl (Opl.ldb (v := .agg [v0_0, v0_1, v0_2]) h1 rfl T106 rfl rfl rfl rfl (Opl.p1 (v := .fel (v1_0 :: v1_1 :: [])) (n := Opl.lda (v1_0) rfl T23 rfl rfl rfl rfl (Opl.len (xs := l1_0) (by exact hv1_0) K23 rfl rfl rfl rfl ?_))))))
 obtain ⟨t519, h_t519, H⟩ := Option.bind_eq_some_iff.1 H
 refine Opl.callc (impl_ruleOk.ev hv0_0 hv0_1 hv0_2 h_t519) rfl rfl rfl rfl ⟨(.aggL ⟨hv0_0.plain, hv0_1.plain, hv0_2.plain, trivial⟩), (.lit _), trivial⟩ (by decide) (Opl.p1 (n := Opl.p1 (n := Opl.nil ?_)))
 obtain rfl := Option.some.inj H
 refine Evr.ret1 Try.func92 rfl ?_
 show (.lit (.bool (!t519)) : PV) = _
 first | rfl | (simp only [go_sem]; rfl)
theorem slices_IndexFunc_at_impl_SystemValid_2.ev {k : Nat} {l0 : List IRule} {v0 : PV} (hv0 : Sl cIRule l0 v0) {l2_0 : List IVar} {v2_0 : PV} (hv2_0 : Sl cIVar l2_0 v2_0) {l2_1 : List IRule} {v2_1 : PV} (hv2_1 : Sl cIRule l2_1 v2_1) {r : Int} (H : slices_IndexFunc_at_impl_SystemValid_2.f k l0 l2_0 l2_1 = some r) : Ret Try.prog 149 [v0, .fn 92 [.fel (v2_0 :: v2_1 :: [])]] fun v S => v = .lit (.int .i64 r) := by
 unfold slices_IndexFunc_at_impl_SystemValid_2.f at H
 refine Ret.intro Try.func149 rfl (Nat.le_of_ble_eq_true rfl) rfl ?_
 rw [tm2]
 refine Evr.sr rfl (Opl.p1 (n := Opl.nil (Evr.seq (Evr.sr rfl (Opl.p1 (n := Opl.len (xs := l0) (by exact hv0) K24 rfl rfl rfl rfl (Opl.p1 (n := Opl.nil (Evr.block ?_)))))))))
 refine Evr.loop (Evr.rounds (n := k) (Inv := fun n tm S => n ≤ k ∧ ∃ (x8_1 : Int), slices_IndexFunc_at_impl_SystemValid_2.l0 n l0 (l0.length : Int) x8_1 l2_0 l2_1 = some r ∧ Has tm [(0, v0), (1, .fn 92 [.fel (v2_0 :: v2_1 :: [])]), (7, .lit (.int .i64 (l0.length : Int))), (8, .lit (.int .i64 x8_1))]) ?_ ?_ ?_)
 · exact ⟨Nat.le_refl _, _, H, ⟨rfl, rfl, rfl, rfl, trivial⟩⟩
 ·
  rintro tm S ⟨_, _, H, -⟩
  simp [slices_IndexFunc_at_impl_SystemValid_2.l0] at H
 ·
  rintro n1 ih1 tm S ⟨hle, x8_1, H, hh⟩
  simp only [slices_IndexFunc_at_impl_SystemValid_2.l0] at H
  rw [hh.eq]
  refine Evr.sr rfl (Opl.p1 (n := Opl.nil (Evr.seq ?_)))
  by_cases c1 : x8_1 < (l0.length : Int)
  case neg =>
   rw [if_neg c1] at H
   have e2 : (decide (x8_1 < (l0.length : Int))) = false := by simpa using c1
   try rw [e2]
   refine Evr.condF rfl (Evr.exit rfl (Evr.sr rfl (Opl.p1 (n := Opl.nil ?_))))
   obtain rfl := Option.some.inj H
   refine Evr.ret1 Try.func149 rfl ?_
   show (.lit (.int .i64 (-1)) : PV) = _
   first | rfl | (simp only [go_sem]; rfl)
  rw [if_pos c1] at H
  have e1 : (decide (x8_1 < (l0.length : Int))) = true := by simpa using c1
  try rw [e1]
  refine Evr.condT rfl (Evr.skip (Evr.seq (Evr.block (Evr.sr rfl (Opl.p1 (n := Opl.p1 (n := Opl.nil (Evr.sr rfl (Opl.p1 (n := Opl.p1 (n := Opl.p1 (n := ?_))))))))))))
  obtain ⟨c2, H⟩ := peel H
  obtain ⟨c3, H⟩ := peel H
  refine Opl.idx (M := cIRule) (xs := l0) (j := x8_1) zIRule (by exact hv0) rfl (by omega) (by omega) K24 Z106 rfl rfl ?_
  rintro p1 q1 h1
  obtain ⟨pv1, pv2, pv3, rfl, h2, h3, h4⟩ := cIRule_R (x := (rd_IRule l0 x8_1)) h1
  refine Opl.lda (.agg [pv1, pv2, pv3]) rfl T106 rfl rfl rfl rfl ?_
  obtain ⟨t522, h_t522, H⟩ := Option.bind_eq_some_iff.1 H
  refine Opl.callc (impl_SystemValid_2.ev h2 h3 h4 hv2_0 hv2_1 h_t522) rfl rfl rfl rfl ⟨(.aggL ⟨h2.plain, h3.plain, h4.plain, trivial⟩), (.felL ⟨hv2_0.plain, hv2_1.plain, trivial⟩), trivial⟩ (by decide) (Opl.nil ?_)
  by_cases c4 : t522 = true
  case pos =>
   rw [if_pos c4] at H
   obtain rfl : t522 = true := by simpa using c4
   refine Evr.condT rfl (Evr.sr rfl (Opl.p1 (n := Opl.p1 (n := Opl.nil ?_))))
   obtain rfl := Option.some.inj H
   refine Evr.ret1 Try.func149 rfl ?_
   show (.lit (.int .i64 x8_1) : PV) = _
   first | rfl | (simp only [go_sem]; rfl)
  rw [if_neg c4] at H
  obtain rfl : t522 = false := by simpa using c4
  refine Evr.condF rfl (Evr.skip (Evr.inBlock (Evr.regionN rfl (Opl.add (k := .i64) (a := x8_1) (b := 1) K3 rfl rfl rfl rfl (Opl.one (v := .lit (.int .i64 (wrap64 (x8_1 + 1)))) rfl rfl rfl (Opl.nil ?_))))))
  exact ih1 _ (by omega) _ _ ⟨by omega, _, H, ⟨rfl, rfl, rfl, rfl, trivial⟩⟩
theorem slices_ContainsFunc_at_impl_SystemValid_2.ev {k : Nat} {l0 : List IRule} {v0 : PV} (hv0 : Sl cIRule l0 v0) {l2_0 : List IVar} {v2_0 : PV} (hv2_0 : Sl cIVar l2_0 v2_0) {l2_1 : List IRule} {v2_1 : PV} (hv2_1 : Sl cIRule l2_1 v2_1) {r : Bool} (H : slices_ContainsFunc_at_impl_SystemValid_2.f k l0 l2_0 l2_1 = some r) : Ret Try.prog 91 [v0, .fn 92 [.fel (v2_0 :: v2_1 :: [])]] fun v S => v = .lit (.bool r) := by
 unfold slices_ContainsFunc_at_impl_SystemValid_2.f at H
 refine Ret.intro Try.func91 rfl (Nat.le_of_ble_eq_true rfl) rfl ?_
 rw [tm2]
 refine Evr.sr rfl (Opl.p1 (n := Opl.nil (Evr.sr rfl (Opl.p1 (n := Opl.p1 (n := ?_))))))
 obtain ⟨t524, h_t524, H⟩ := Option.bind_eq_some_iff.1 H
 refine Opl.callc (slices_IndexFunc_at_impl_SystemValid_2.ev hv0 hv2_0 hv2_1 h_t524) rfl rfl rfl rfl ⟨hv0.plain, (.fnL ⟨(.felL ⟨hv2_0.plain, hv2_1.plain, trivial⟩), trivial⟩), trivial⟩ (by decide) (Opl.p1 (n := Opl.p1 (n := Opl.nil ?_)))
 obtain rfl := Option.some.inj H
 refine Evr.ret1 Try.func91 rfl ?_
 show (.lit (.bool (decide (t524 ≥ 0))) : PV) = _
 first | rfl | (simp only [go_sem]; rfl)
theorem impl_SystemValid.ev {k : Nat} {l0_0 : List IVar} {v0_0 : PV} (hv0_0 : Sl cIVar l0_0 v0_0) {l0_1 : List IRule} {v0_1 : PV} (hv0_1 : Sl cIRule l0_1 v0_1) {r : Bool} (H : impl_SystemValid.f k l0_0 l0_1 = some r) : Ret Try.prog 26 [.agg [v0_0, v0_1]] fun v S => v = .lit (.bool r) := by
 unfold impl_SystemValid.f at H
 refine Ret.intro Try.func26 rfl (Nat.le_of_ble_eq_true rfl) rfl ?_
 rw [tm1]
 refine Evr.sr rfl (Opl.box (cs := [v0_0, v0_1]) rfl rfl rfl rfl ?_)
 rintro i1 S h1 u1 w1
 refine Opl.p1 (n := Opl.nil (Evr.seq (Evr.seq ?_)))
 refine Evr.join (fun tm S => ∃ (kq1 : Nat) (x24_1 : Bool) (i2 : Abs.Id), impl_SystemValid.j0 kq1 x24_1 l0_0 l0_1 = some r ∧ Has tm [(1, .ptr i2 0), (24, .lit (.bool x24_1))] ∧ Box (.ptr i2 0) [v0_0, v0_1] S) ?_ fun hk1 => ?_
 ·
  rintro tm S ⟨kq1, x24_1, i2, H, hh, h2⟩
  rw [hh.eq]
  obtain _ | k1 := kq1
  · simp [impl_SystemValid.j0] at H
  simp only [impl_SystemValid.j0] at H
  by_cases c1 : x24_1 = true
  case pos =>
   rw [if_pos c1] at H
   obtain rfl : x24_1 = true := by simpa using c1
   refine Evr.condT rfl (Evr.sr rfl (Opl.p1 (n := Opl.nil ?_)))
   obtain rfl := Option.some.inj H
   refine Evr.ret1 Try.func26 rfl ?_
   show (.lit (.bool false) : PV) = _
   first | rfl | (simp only [go_sem]; rfl)
  rw [if_neg c1] at H
  obtain rfl : x24_1 = false := by simpa using c1
  refine Evr.condF rfl (Evr.skip (Evr.sr rfl (Opl.p1 (v := .ptr i2 1) (n := Opl.ldb (v := v0_1) h2 rfl T24 rfl rfl rfl rfl (Opl.p1 (n := ?_))))))
  obtain ⟨t529, h_t529, H⟩ := Option.bind_eq_some_iff.1 H
  refine Opl.callw (slices_ContainsFunc_at_impl_SystemValid_2.ev hv0_1 hv0_0 hv0_1 h_t529) rfl rfl rfl (.cons (.refl _) (.cons (View.fnV (.cons (View.boxV h2 (.cons (.refl _) (.cons (.refl _) .nil))) .nil)) .nil)) ⟨hv0_1.plain, (.fnL ⟨(.felL ⟨hv0_0.plain, hv0_1.plain, trivial⟩), trivial⟩), trivial⟩ (by decide) (Opl.p1 (n := Opl.p1 (n := Opl.nil ?_)))
  obtain rfl := Option.some.inj H
  refine Evr.ret1 Try.func26 rfl ?_
  show (.lit (.bool (!t529)) : PV) = _
  first | rfl | (simp only [go_sem]; rfl)
 ·
  refine Evr.regionN rfl (Opl.p1 (v := .ptr i1 0) (n := Opl.ldb (v := v0_0) h1 rfl T23 rfl rfl rfl rfl (Opl.len (xs := l0_0) (by exact hv0_0) K23 rfl rfl rfl rfl ?_)))
  obtain ⟨t526, h_t526, H⟩ := Option.bind_eq_some_iff.1 H
  refine Opl.callc (impl_in.ev h_t526) rfl rfl rfl rfl ⟨(.lit _), (.lit _), (.lit _), trivial⟩ (by decide) (Opl.p1 (n := Opl.p1 (n := ?_)))
  by_cases c2 : t526 = true
  case neg =>
   rw [if_neg c2] at H
   have e4 : (!t526) = true := by simpa using c2
   try rw [e4]
   refine Opl.skp rfl (Opl.skp rfl (Opl.skp rfl (Opl.skp rfl (Opl.p1 (n := Opl.p1 (n := Opl.skp rfl (Opl.skp rfl (Opl.skp rfl (Opl.p1 (n := Opl.p1 (n := Opl.skp rfl (Opl.skp rfl (Opl.skp rfl (Opl.skp rfl (Opl.p1 (n := Opl.nil ?_))))))))))))))))
   exact hk1 _ _ ⟨_, _, _, H, ⟨rfl, (by first | rfl | (show PV.lit (.bool _) = _; congr 2; simp_all)), trivial⟩, h1⟩
  rw [if_pos c2] at H
  have e1 : (!t526) = false := by simpa using c2
  try rw [e1]
  refine Opl.p1 (v := .ptr i1 1) (n := Opl.ldb (v := v0_1) h1 rfl T24 rfl rfl rfl rfl (Opl.len (xs := l0_1) (by exact hv0_1) K24 rfl rfl rfl rfl (Opl.p1 (n := Opl.p1 (n := Opl.p1 (n := ?_))))))
  by_cases c3 : (l0_1.length : Int) > 8
  case pos =>
   rw [if_pos c3] at H
   have e2 : (decide ((l0_1.length : Int) > 8)) = true := by simpa using c3
   try rw [e2]
   refine Opl.skp rfl (Opl.skp rfl (Opl.skp rfl (Opl.p1 (n := Opl.p1 (n := Opl.skp rfl (Opl.skp rfl (Opl.skp rfl (Opl.skp rfl (Opl.p1 (n := Opl.nil ?_))))))))))
   exact hk1 _ _ ⟨_, _, _, H, ⟨rfl, (by first | rfl | (show PV.lit (.bool _) = _; congr 2; simp_all)), trivial⟩, h1⟩
  rw [if_neg c3] at H
  have e3 : (decide ((l0_1.length : Int) > 8)) = false := by simpa using c3
  try rw [e3]
  refine Opl.p1 (v := .ptr i1 0) (n := Opl.ldb (v := v0_0) h1 rfl T23 rfl rfl rfl rfl ?_)
  obtain ⟨t527, h_t527, H⟩ := Option.bind_eq_some_iff.1 H
  refine Opl.callc (slices_ContainsFunc_at_impl_SystemValid_1.ev hv0_0 h_t527) rfl rfl rfl rfl ⟨hv0_0.plain, (.lit _), trivial⟩ (by decide) (Opl.p1 (n := Opl.p1 (n := ?_)))
  by_cases c4 : t527 = true
  case pos =>
   rw [if_pos c4] at H
   obtain rfl : t527 = true := by simpa using c4
   refine Opl.skp rfl (Opl.skp rfl (Opl.skp rfl (Opl.skp rfl (Opl.p1 (n := Opl.nil ?_)))))
   exact hk1 _ _ ⟨_, _, _, H, ⟨rfl, (by first | rfl | (show PV.lit (.bool _) = _; congr 2; simp_all)), trivial⟩, h1⟩
  rw [if_neg c4] at H
  obtain rfl : t527 = false := by simpa using c4
  refine Opl.p1 (v := .ptr i1 0) (n := Opl.ldb (v := v0_0) h1 rfl T23 rfl rfl rfl rfl ?_)
  obtain ⟨t528, h_t528, H⟩ := Option.bind_eq_some_iff.1 H
  refine Opl.callc (impl_size.ev hv0_0 h_t528) rfl rfl rfl rfl ⟨hv0_0.plain, trivial⟩ (by decide) (Opl.p1 (n := Opl.p1 (n := Opl.nil ?_)))
  exact hk1 _ _ ⟨_, _, _, H, ⟨rfl, (by first | rfl | (show PV.lit (.bool _) = _; congr 2; simp_all)), trivial⟩, h1⟩
theorem impl_clone_Lint.ev {l0 : List (List Int)} {v0 : PV} (hv0 : Sl (cSl (cInt .i64)) l0 v0) {r : List (List Int)} (H : impl_clone_Lint.f l0 = some r) : Ret Try.prog 83 [v0] fun v S => Vec (cSl (cInt .i64)) r v S := by
 unfold impl_clone_Lint.f at H
 refine Ret.intro Try.func83 rfl (Nat.le_of_ble_eq_true rfl) rfl ?_
 rw [tm1]
 obtain ⟨c1, H⟩ := peel H
 obtain rfl := Option.some.inj H
 refine Evr.seq (Evr.regionN rfl (Opl.p1 (n := Opl.nil (Evr.seq (Evr.seq (Evr.regionN rfl (Opl.p1 (n := Opl.len (by exact hv0) K30 rfl rfl rfl rfl (Opl.p1 (n := Opl.nil ?_))))))))))
 by_cases c2 : (l0.length : Int) = 0
 · have e1 : ((l0.length : Int) == 0) = true := by simpa using c2
   try rw [e1]
   refine Evr.condT rfl (Evr.seq (Evr.regionN rfl (Opl.p1 (n := Opl.nil ?_))))
   obtain rfl : l0 = [] := List.eq_nil_of_length_eq_zero (by omega)
   refine Evr.ret1 Try.func83 rfl ?_
   exact .nil
 · have e1 : ((l0.length : Int) == 0) = false := by simpa using c2
   try rw [e1]
   refine Evr.condF rfl (Evr.skip (Evr.seq (Evr.regionN rfl (Opl.p1 (n := Opl.len (by exact hv0) K30 rfl rfl rfl rfl ?_)))))
   refine Opl.make (M := (cSl (cInt .i64))) (m := (l0.length : Int)) ([] : List Int) (by exact ⟨_, rfl, .nil⟩) rfl rfl K30 T27 rfl (by omega) (by show (_ : Nat) * 24 ≤ 281474976710656; omega) (by omega) rfl rfl rfl ?_
   rintro pv1 S h1 u1 w1
   refine Opl.p1 (n := Opl.nil (Evr.seq (Evr.regionN rfl (Opl.p1 (n := Opl.p1 (n := ?_))))))
   refine Opl.copy (M := (cSl (cInt .i64))) (ys := l0) h1 (by exact hv0) (oSl (cInt .i64)) rfl (by simp) (by simp; omega) K30 Z27 rfl rfl rfl rfl rfl ?_
   rintro S h2 u2
   refine Opl.nil (Evr.seq (Evr.regionN rfl (Opl.p1 (n := Opl.p1 (n := Opl.nil ?_)))))
   refine Evr.ret1 Try.func83 rfl ?_
   exact h2
theorem impl_clone_Lint.evs {l0 : List (List Int)} {p : PV} {ids : List Abs.Id} {S0 : Sto} (h : (oRow (oRow (oPl (cInt .i64) (oInt .i64)))).R S0 ids l0 [p]) {r : List (List Int)} (H : impl_clone_Lint.f l0 = some r) : RetS Try.prog 83 [p] S0 fun v S => ∃ ids', (oRow (oRow (oPl (cInt .i64) (oInt .i64)))).R S ids' r [v] ∧ Fr S0 ids ids' ∧ Grow S0 S := by
 unfold impl_clone_Lint.f at H
 refine RetS.intro Try.func83 rfl (Nat.le_of_ble_eq_true rfl) rfl ?_
 rw [tm1]
 obtain ⟨c1, H⟩ := peel H
 obtain rfl := Option.some.inj H
 have hlen := oRow_len h
 refine Evr.seq (Evr.regionN rfl (Opl.p1 (n := Opl.nil (Evr.seq (Evr.seq (Evr.regionN rfl (Opl.p1 (n := Opl.leno (by exact hlen) K30 rfl rfl rfl rfl (Opl.p1 (n := Opl.nil ?_))))))))))
 by_cases c2 : (l0.length : Int) = 0
 · have e1 : ((l0.length : Int) == 0) = true := by simpa using c2
   try rw [e1]
   refine Evr.condT rfl (Evr.seq (Evr.regionN rfl (Opl.p1 (n := Opl.nil ?_))))
   obtain rfl : l0 = [] := List.eq_nil_of_length_eq_zero (by omega)
   refine Evr.ret1 Try.func83 rfl ?_
   exact ⟨[], oRow_nil, (fun _ h => by cases h), .refl _⟩
 · have e1 : ((l0.length : Int) == 0) = false := by simpa using c2
   try rw [e1]
   refine Evr.condF rfl (Evr.skip (Evr.seq (Evr.regionN rfl (Opl.p1 (n := Opl.leno (by exact hlen) K30 rfl rfl rfl rfl ?_)))))
   refine Opl.maket (N := (oRow (oPl (cInt .i64) (oInt .i64)))) (m := (l0.length : Int)) ([] : List Int) (by intro S; exact .inl ⟨rfl, rfl, rfl⟩) rfl rfl K30 T27 rfl (by omega) (by show (_ : Nat) * 24 ≤ 281474976710656; omega) (by omega) rfl rfl rfl ?_
   rintro p1 S ids1 h1 f1 g1
   have h2 := g1.tree h
   have hnew := oRow_new h1 f1
   have e3 : (List.replicate ((l0.length : Int)).toNat ([] : List Int)).length = l0.length := by simp
   obtain ⟨_, e0, _⟩ | ⟨d, zs, is, rfl, rfl, hn, hl, hr⟩ := oRow_data h1
   · rw [e0] at e3; simp at e3; omega
   have hz := hr.length
   rw [e3] at hz hnew ⊢
   refine Opl.p1 (n := Opl.nil (Evr.seq (Evr.regionN rfl (Opl.p1 (n := Opl.p1 (n := ?_))))))
   refine Opl.copyt (N := (oRow (oPl (cInt .i64) (oInt .i64)))) (xs := l0) hl hz h2 (fun hm => by obtain ⟨o, ho, _⟩ := (oRow (oRow (oPl (cInt .i64) (oInt .i64)))).live h d hm; exact f1 d List.mem_cons_self o ho) (by omega) rfl rfl K30 Z27 rfl rfl rfl rfl rfl ?_
   rintro S ids' h3 m3 u3
   refine Opl.nil (Evr.seq (Evr.regionN rfl (Opl.p1 (n := Opl.p1 (n := Opl.nil ?_)))))
   refine Evr.ret1 Try.func83 rfl ?_
   exact ⟨ids', h3, fun i hi => (m3 i hi).elim (fun e => .inr (by rw [e]; exact f1 d List.mem_cons_self)) .inl, g1.up u3 hnew⟩
theorem impl_clone_int.ev {l0 : List Int} {v0 : PV} (hv0 : Sl (cInt .i64) l0 v0) {r : List Int} (H : impl_clone_int.f l0 = some r) : Ret Try.prog 81 [v0] fun v S => Vec (cInt .i64) r v S := by
 unfold impl_clone_int.f at H
 refine Ret.intro Try.func81 rfl (Nat.le_of_ble_eq_true rfl) rfl ?_
 rw [tm1]
 obtain ⟨c1, H⟩ := peel H
 obtain rfl := Option.some.inj H
 refine Evr.seq (Evr.regionN rfl (Opl.p1 (n := Opl.nil (Evr.seq (Evr.seq (Evr.regionN rfl (Opl.p1 (n := Opl.len (by exact hv0) K27 rfl rfl rfl rfl (Opl.p1 (n := Opl.nil ?_))))))))))
 by_cases c2 : (l0.length : Int) = 0
 · have e1 : ((l0.length : Int) == 0) = true := by simpa using c2
   try rw [e1]
   refine Evr.condT rfl (Evr.seq (Evr.regionN rfl (Opl.p1 (n := Opl.nil ?_))))
   obtain rfl : l0 = [] := List.eq_nil_of_length_eq_zero (by omega)
   refine Evr.ret1 Try.func81 rfl ?_
   exact .nil
 · have e1 : ((l0.length : Int) == 0) = false := by simpa using c2
   try rw [e1]
   refine Evr.condF rfl (Evr.skip (Evr.seq (Evr.regionN rfl (Opl.p1 (n := Opl.len (by exact hv0) K27 rfl rfl rfl rfl ?_)))))
   refine Opl.make (M := (cInt .i64)) (m := (l0.length : Int)) (0 : Int) (by exact rfl) rfl rfl K27 T3 rfl (by omega) (by show (_ : Nat) * 8 ≤ 281474976710656; omega) (by omega) rfl rfl rfl ?_
   rintro pv1 S h1 u1 w1
   refine Opl.p1 (n := Opl.nil (Evr.seq (Evr.regionN rfl (Opl.p1 (n := Opl.p1 (n := ?_))))))
   refine Opl.copy (M := (cInt .i64)) (ys := l0) h1 (by exact hv0) (oInt .i64) rfl (by simp) (by simp; omega) K27 Z3 rfl rfl rfl rfl rfl ?_
   rintro S h2 u2
   refine Opl.nil (Evr.seq (Evr.regionN rfl (Opl.p1 (n := Opl.p1 (n := Opl.nil ?_)))))
   refine Evr.ret1 Try.func81 rfl ?_
   exact h2
theorem impl_first.ev {k : Nat} {l0_0 : List IVar} {v0_0 : PV} (hv0_0 : Sl cIVar l0_0 v0_0) {l0_1 : List IRule} {v0_1 : PV} (hv0_1 : Sl cIRule l0_1 v0_1) {r : (List Int)} (H : impl_first.f k l0_0 l0_1 = some r) : Ret Try.prog 86 [.agg [v0_0, v0_1]] fun v S => Vec (cInt .i64) r v S := by
 unfold impl_first.f at H
 refine Ret.intro Try.func86 rfl (Nat.le_of_ble_eq_true rfl) rfl ?_
 rw [tm1]
 refine Evr.sr rfl (Opl.box (cs := [v0_0, v0_1]) rfl rfl rfl rfl ?_)
 rintro i1 S h1 u1 w1
 refine Opl.p1 (n := Opl.nil (Evr.sr rfl (Opl.p1 (n := Opl.nil (Evr.seq (Evr.sr rfl (Opl.p1 (v := .ptr i1 0) (n := Opl.ldb (v := v0_0) h1 rfl T23 rfl rfl rfl rfl (Opl.len (xs := l0_0) (by exact hv0_0) K23 rfl rfl rfl rfl (Opl.p1 (n := Opl.nil (Evr.block ?_))))))))))))
 refine Evr.loop (Evr.rounds (n := k) (Inv := fun n tm S => n ≤ k ∧ ∃ (x3_1 : List Int) (x9_1 : Int) (pv1 : PV), impl_first.l0 n x3_1 l0_0 (l0_0.length : Int) x9_1 = some r ∧ Has tm [(3, pv1), (7, v0_0), (8, .lit (.int .i64 (l0_0.length : Int))), (9, .lit (.int .i64 x9_1))] ∧ Vec (cInt .i64) x3_1 pv1 S) ?_ ?_ ?_)
 · exact ⟨Nat.le_refl _, _, _, _, H, ⟨rfl, rfl, rfl, rfl, trivial⟩, .nil⟩
 ·
  rintro tm S ⟨_, _, _, _, H, -⟩
  simp [impl_first.l0] at H
 ·
  rintro n1 ih1 tm S ⟨hle, x3_1, x9_1, pv1, H, hh, h2⟩
  simp only [impl_first.l0] at H
  rw [hh.eq]
  refine Evr.sr rfl (Opl.p1 (n := Opl.nil (Evr.seq ?_)))
  by_cases c1 : x9_1 < (l0_0.length : Int)
  case neg =>
   rw [if_neg c1] at H
   have e2 : (decide (x9_1 < (l0_0.length : Int))) = false := by simpa using c1
   try rw [e2]
   refine Evr.condF rfl (Evr.exit rfl (Evr.sr rfl (Opl.p1 (n := ?_))))
   obtain ⟨t1079, h_t1079, H⟩ := Option.bind_eq_some_iff.1 H
   obtain ⟨pv4, h14, -, h15⟩ := Out.vec h2
   refine Opl.callav (sInt .i64) (impl_clone_int.ev h15 h_t1079) rfl rfl rfl (.cons h14 .nil) ⟨h15.plain, trivial⟩ rfl ?_
   rintro pv5 S h16 u6 w6
   have ap6 := w6.vec h2
   have h17 := u6.vec h2 ap6
   refine Opl.p1 (n := Opl.nil ?_)
   obtain rfl := Option.some.inj H
   refine Evr.ret1 Try.func86 rfl ?_
   show Vec _ _ pv5 _
   exact h16
  rw [if_pos c1] at H
  have e1 : (decide (x9_1 < (l0_0.length : Int))) = true := by simpa using c1
  try rw [e1]
  refine Evr.condT rfl (Evr.skip (Evr.seq (Evr.block (Evr.sr rfl ?_))))
  obtain ⟨c2, H⟩ := peel H
  obtain ⟨c3, H⟩ := peel H
  obtain ⟨c4, H⟩ := peel H
  refine Opl.idx (M := cIVar) (xs := l0_0) (j := x9_1) zIVar (by exact hv0_0) rfl (by omega) (by omega) K23 Z101 rfl rfl ?_
  rintro p1 q1 h3
  obtain rfl := cIVar_R (x := (rd_IVar l0_0 x9_1)) h3
  refine Opl.lda (.agg [.lit (.int .i64 ((rd_IVar l0_0 x9_1).f0)), .lit (.int .i64 ((rd_IVar l0_0 x9_1).f1)), .lit (.int .i64 ((rd_IVar l0_0 x9_1).f2))]) rfl T101 rfl rfl rfl rfl (Opl.alloc T101 rfl rfl rfl ?_)
  rintro i2 S h4 u2 w2
  have ap1 := w2.vec h2
  have h5 := u2.vec h2 ap1
  refine Opl.stb (vs := [.lit (.int .i64 ((rd_IVar l0_0 x9_1).f0)), .lit (.int .i64 ((rd_IVar l0_0 x9_1).f1)), .lit (.int .i64 ((rd_IVar l0_0 x9_1).f2))]) h4 rfl rfl Z101 rfl (Nat.le_of_ble_eq_true rfl) rfl rfl rfl rfl ?_
  rintro S (h6 : Box (.ptr i2 0) [.lit (.int .i64 ((rd_IVar l0_0 x9_1).f0)), .lit (.int .i64 ((rd_IVar l0_0 x9_1).f1)), .lit (.int .i64 ((rd_IVar l0_0 x9_1).f2))] _) u3
  have h7 := u3.vec h5 ap1
  refine Opl.nil (Evr.regionN rfl (Opl.p1 (n := Opl.p1 (v := .ptr i2 2) (n := Opl.ldb (v := .lit (.int .i64 ((rd_IVar l0_0 x9_1).f2))) h6 rfl T3 rfl rfl rfl rfl (Opl.lits (M := (cInt .i64)) (ys := [((rd_IVar l0_0 x9_1).f2)]) [.tmp 15] K27 T3 rfl rfl rfl (by exact ⟨rfl, trivial⟩) rfl (by decide) rfl rfl rfl ?_)))))
  rintro pv2 S h8 u4 w4
  have ap2 := w4.vec h7
  have h9 := u4.vec h7 ap2
  have ap3 := w4.box h6
  have h10 := u4.box h6 ap3
  refine Opl.app (M := (cInt .i64)) (xs := x3_1) (ys := [((rd_IVar l0_0 x9_1).f2)]) (v := pv1) h9 (.vec h8) (oInt .i64) rfl rfl K27 T3 rfl rfl (by (try simp only [List.length_cons, List.length_nil]); omega) (by show (_ + _) * 8 ≤ 140737488355328; (try simp only [List.length_cons, List.length_nil]); omega) rfl rfl rfl rfl rfl ?_
  rintro pv3 S h11 u5 w5
  have ap4 := w5.box h10
  have h12 := u5.box h10 ap1.symm
  have ap5 := w5.vec h8
  have h13 := u5.vec h8 ap2.symm
  refine Opl.p1 (n := Opl.nil (Evr.inBlock (Evr.regionN rfl (Opl.add (k := .i64) (a := x9_1) (b := 1) K3 rfl rfl rfl rfl (Opl.one (v := .lit (.int .i64 (wrap64 (x9_1 + 1)))) rfl rfl rfl (Opl.nil ?_))))))
  exact ih1 _ (by omega) _ _ ⟨by omega, _, _, _, H, ⟨rfl, rfl, rfl, rfl, trivial⟩, h11⟩
theorem impl_bit.ev {a0 : Bool} {r : Int} (H : impl_bit.f a0 = some r) : Ret Try.prog 170 [.lit (.bool a0)] fun v S => v = .lit (.int .i64 r) := by
 unfold impl_bit.f at H
 refine Ret.intro Try.func170 rfl (Nat.le_of_ble_eq_true rfl) rfl ?_
 rw [tm1]
 refine Evr.sr rfl (Opl.p1 (n := Opl.nil (Evr.seq (Evr.sr rfl (Opl.p1 (n := Opl.nil ?_))))))
 by_cases c1 : a0 = true
 case pos =>
  rw [if_pos c1] at H
  obtain rfl : a0 = true := by simpa using c1
  refine Evr.condT rfl (Evr.sr rfl (Opl.p1 (n := Opl.nil ?_)))
  obtain rfl := Option.some.inj H
  refine Evr.ret1 Try.func170 rfl ?_
  show (.lit (.int .i64 1) : PV) = _
  first | rfl | (simp only [go_sem]; rfl)
 rw [if_neg c1] at H
 obtain rfl : a0 = false := by simpa using c1
 refine Evr.condF rfl (Evr.skip (Evr.sr rfl (Opl.p1 (n := Opl.nil ?_))))
 obtain rfl := Option.some.inj H
 refine Evr.ret1 Try.func170 rfl ?_
 show (.lit (.int .i64 0) : PV) = _
 first | rfl | (simp only [go_sem]; rfl)
theorem impl_held.ev {a0 : Int} {r : Int} (H : impl_held.f a0 = some r) : Ret Try.prog 167 [.lit (.int .i64 a0)] fun v S => v = .lit (.int .i64 r) := by
 unfold impl_held.f at H
 refine Ret.intro Try.func167 rfl (Nat.le_of_ble_eq_true rfl) rfl ?_
 rw [tm1]
 refine Evr.sr rfl (Opl.p1 (n := Opl.nil (Evr.sr rfl (Opl.p1 (n := Opl.one rfl rfl (by simp only [go_sem, minFn, maxFn]; rfl) (Opl.one rfl rfl (by simp only [go_sem, minFn, maxFn]; rfl) (Opl.p1 (n := Opl.nil ?_))))))))
 obtain rfl := Option.some.inj H
 refine Evr.ret1 Try.func167 rfl ?_
 show (.lit (.int .i64 (if (if a0 < 9999 then a0 else 9999) > (-9999) then (if a0 < 9999 then a0 else 9999) else (-9999))) : PV) = _
 first | rfl | (simp only [go_sem]; rfl)
theorem impl_do.ev {a0 : Int} {a1 : Int} {a2 : Int} {r : Int} (H : impl_do.f a0 a1 a2 = some r) : Ret Try.prog 171 [.lit (.int .i64 a0), .lit (.int .i64 a1), .lit (.int .i64 a2)] fun v S => v = .lit (.int .i64 r) := by
 unfold impl_do.f at H
 refine Ret.intro Try.func171 rfl (Nat.le_of_ble_eq_true rfl) rfl ?_
 rw [tm3]
 refine Evr.sr rfl (Opl.p1 (n := Opl.nil (Evr.seq (Evr.sr rfl (Opl.p1 (n := Opl.nil (Evr.block (Evr.sr rfl (Opl.p1 (n := Opl.p1 (n := Opl.nil ?_)))))))))))
 by_cases c1 : a0 = 2
 case pos =>
  rw [if_pos c1] at H
  have e1 : (a0 == 2) = true := by simpa using c1
  try rw [e1]
  refine Evr.condT rfl (Evr.sr rfl (Opl.p1 (n := Opl.p1 (n := Opl.add (k := .i64) (a := a1) (b := a2) K3 rfl rfl rfl rfl ?_))))
  obtain ⟨t1087, h_t1087, H⟩ := Option.bind_eq_some_iff.1 H
  refine Opl.callc (impl_held.ev h_t1087) rfl rfl rfl rfl ⟨(.lit _), trivial⟩ (by decide) (Opl.one (v := .lit (.int .i64 t1087)) rfl rfl rfl (Opl.nil ?_))
  obtain rfl := Option.some.inj H
  refine Evr.ret1 Try.func171 rfl ?_
  show (.lit (.int .i64 t1087) : PV) = _
  first | rfl | (simp only [go_sem]; rfl)
 rw [if_neg c1] at H
 have e2 : (a0 == 2) = false := by simpa using c1
 try rw [e2]
 refine Evr.condF rfl (Evr.sr rfl (Opl.p1 (n := Opl.p1 (n := Opl.nil ?_))))
 by_cases c2 : a0 = 3
 case pos =>
  rw [if_pos c2] at H
  have e3 : (a0 == 3) = true := by simpa using c2
  try rw [e3]
  refine Evr.condT rfl (Evr.sr rfl (Opl.p1 (n := Opl.p1 (n := Opl.subi (k := .i64) (a := a1) (b := a2) K3 rfl rfl rfl rfl ?_))))
  obtain ⟨t1088, h_t1088, H⟩ := Option.bind_eq_some_iff.1 H
  refine Opl.callc (impl_held.ev h_t1088) rfl rfl rfl rfl ⟨(.lit _), trivial⟩ (by decide) (Opl.one (v := .lit (.int .i64 t1088)) rfl rfl rfl (Opl.nil ?_))
  obtain rfl := Option.some.inj H
  refine Evr.ret1 Try.func171 rfl ?_
  show (.lit (.int .i64 t1088) : PV) = _
  first | rfl | (simp only [go_sem]; rfl)
 rw [if_neg c2] at H
 have e4 : (a0 == 3) = false := by simpa using c2
 try rw [e4]
 refine Evr.condF rfl (Evr.sr rfl (Opl.p1 (n := Opl.p1 (n := Opl.nil ?_))))
 by_cases c3 : a0 = 4
 case pos =>
  rw [if_pos c3] at H
  have e5 : (a0 == 4) = true := by simpa using c3
  try rw [e5]
  refine Evr.condT rfl (Evr.sr rfl (Opl.p1 (n := Opl.p1 (n := Opl.mul (k := .i64) (a := a1) (b := a2) K3 rfl rfl rfl rfl ?_))))
  obtain ⟨t1089, h_t1089, H⟩ := Option.bind_eq_some_iff.1 H
  refine Opl.callc (impl_held.ev h_t1089) rfl rfl rfl rfl ⟨(.lit _), trivial⟩ (by decide) (Opl.one (v := .lit (.int .i64 t1089)) rfl rfl rfl (Opl.nil ?_))
  obtain rfl := Option.some.inj H
  refine Evr.ret1 Try.func171 rfl ?_
  show (.lit (.int .i64 t1089) : PV) = _
  first | rfl | (simp only [go_sem]; rfl)
 rw [if_neg c3] at H
 have e6 : (a0 == 4) = false := by simpa using c3
 try rw [e6]
 refine Evr.condF rfl (Evr.sr rfl (Opl.p1 (n := Opl.p1 (n := Opl.nil ?_))))
 by_cases c4 : a0 = 5
 case pos =>
  rw [if_pos c4] at H
  have e7 : (a0 == 5) = true := by simpa using c4
  try rw [e7]
  refine Evr.condT rfl (Evr.sr rfl (Opl.p1 (n := Opl.p1 (n := Opl.p1 (n := ?_)))))
  obtain ⟨t1090, h_t1090, H⟩ := Option.bind_eq_some_iff.1 H
  refine Opl.callc (impl_bit.ev h_t1090) rfl rfl rfl rfl ⟨(.lit _), trivial⟩ (by decide) (Opl.p1 (n := Opl.nil ?_))
  obtain rfl := Option.some.inj H
  refine Evr.ret1 Try.func171 rfl ?_
  show (.lit (.int .i64 t1090) : PV) = _
  first | rfl | (simp only [go_sem]; rfl)
 rw [if_neg c4] at H
 have e8 : (a0 == 5) = false := by simpa using c4
 try rw [e8]
 refine Evr.condF rfl (Evr.sr rfl (Opl.p1 (n := Opl.p1 (n := Opl.nil ?_))))
 by_cases c5 : a0 = 6
 case pos =>
  rw [if_pos c5] at H
  have e9 : (a0 == 6) = true := by simpa using c5
  try rw [e9]
  refine Evr.condT rfl (Evr.sr rfl (Opl.p1 (n := Opl.p1 (n := Opl.p1 (n := ?_)))))
  obtain ⟨t1091, h_t1091, H⟩ := Option.bind_eq_some_iff.1 H
  refine Opl.callc (impl_bit.ev h_t1091) rfl rfl rfl rfl ⟨(.lit _), trivial⟩ (by decide) (Opl.p1 (n := Opl.nil ?_))
  obtain rfl := Option.some.inj H
  refine Evr.ret1 Try.func171 rfl ?_
  show (.lit (.int .i64 t1091) : PV) = _
  first | rfl | (simp only [go_sem]; rfl)
 rw [if_neg c5] at H
 have e10 : (a0 == 6) = false := by simpa using c5
 try rw [e10]
 refine Evr.condF rfl (Evr.sr rfl (Opl.p1 (n := Opl.p1 (n := Opl.nil ?_))))
 by_cases c6 : a0 = 7
 case pos =>
  rw [if_pos c6] at H
  have e11 : (a0 == 7) = true := by simpa using c6
  try rw [e11]
  refine Evr.condT rfl (Evr.sr rfl (Opl.p1 (n := Opl.subi (k := .i64) (a := 1) (b := a1) K3 rfl rfl rfl rfl (Opl.one (v := .lit (.int .i64 (wrap64 (1 - a1)))) rfl rfl rfl (Opl.nil ?_)))))
  obtain rfl := Option.some.inj H
  refine Evr.ret1 Try.func171 rfl ?_
  show (.lit (.int .i64 (wrap64 (1 - a1))) : PV) = _
  first | rfl | (simp only [go_sem]; rfl)
 rw [if_neg c6] at H
 have e12 : (a0 == 7) = false := by simpa using c6
 try rw [e12]
 refine Evr.condF rfl (Evr.sr rfl (Opl.p1 (n := Opl.p1 (n := Opl.nil ?_))))
 by_cases c7 : a0 = 8
 case pos =>
  rw [if_pos c7] at H
  have e13 : (a0 == 8) = true := by simpa using c7
  try rw [e13]
  refine Evr.condT rfl (Evr.sr rfl (Opl.p1 (n := Opl.p1 (n := Opl.one rfl rfl (by simp only [go_sem, minFn, maxFn]; rfl) (Opl.p1 (n := Opl.nil ?_))))))
  obtain rfl := Option.some.inj H
  refine Evr.ret1 Try.func171 rfl ?_
  show (.lit (.int .i64 (if a2 < a1 then a2 else a1)) : PV) = _
  first | rfl | (simp only [go_sem]; rfl)
 rw [if_neg c7] at H
 have e14 : (a0 == 8) = false := by simpa using c7
 try rw [e14]
 refine Evr.condF rfl (Evr.skip (Evr.inBlock (Evr.sr rfl (Opl.p1 (n := Opl.p1 (n := Opl.one rfl rfl (by simp only [go_sem, minFn, maxFn]; rfl) (Opl.p1 (n := Opl.nil ?_))))))))
 obtain rfl := Option.some.inj H
 refine Evr.ret1 Try.func171 rfl ?_
 show (.lit (.int .i64 (if a2 > a1 then a2 else a1)) : PV) = _
 first | rfl | (simp only [go_sem]; rfl)
theorem impl_eval.ev {k : Nat} {l0 : List ITerm} {v0 : PV} (hv0 : Sl cITerm l0 v0) {l1 : List Int} {v1 : PV} (hv1 : Sl (cInt .i64) l1 v1) {r : Int} (H : impl_eval.f k l0 l1 = some r) : Ret Try.prog 124 [v0, v1] fun v S => v = .lit (.int .i64 r) := by
 unfold impl_eval.f at H
 refine Ret.intro Try.func124 rfl (Nat.le_of_ble_eq_true rfl) rfl ?_
 rw [tm2]
 refine Evr.sr rfl (Opl.p1 (n := Opl.nil (Evr.sr rfl (Opl.p1 (n := Opl.len (xs := l0) (by exact hv0) K66 rfl rfl rfl rfl ?_)))))
 obtain ⟨c1, H⟩ := peel H
 obtain ⟨c2, H⟩ := peel H
 refine Opl.make (M := (cInt .i64)) (m := (l0.length : Int)) (0 : Int) (by exact rfl) rfl rfl K27 T3 rfl (by omega) (by show ((l0.length : Int)).toNat * 8 ≤ 281474976710656; omega) (by omega) rfl rfl rfl ?_
 rintro pv1 S h1 u1 w1
 refine Opl.p1 (n := Opl.nil (Evr.seq (Evr.sr rfl (Opl.p1 (n := Opl.len (xs := l0) (by exact hv0) K66 rfl rfl rfl rfl (Opl.p1 (n := Opl.nil (Evr.block ?_))))))))
 refine Evr.loop (Evr.rounds (n := k) (Inv := fun n tm S => n ≤ k ∧ ∃ (x5_1 : List Int) (x13_1 : Int) (pv2 : PV), impl_eval.l0 n l1 x5_1 l0 (l0.length : Int) x13_1 = some r ∧ Has tm [(1, v1), (5, pv2), (11, v0), (12, .lit (.int .i64 (l0.length : Int))), (13, .lit (.int .i64 x13_1))] ∧ Vec (cInt .i64) x5_1 pv2 S) ?_ ?_ ?_)
 · exact ⟨Nat.le_refl _, _, _, _, H, ⟨rfl, rfl, rfl, rfl, rfl, trivial⟩, h1⟩
 ·
  rintro tm S ⟨_, _, _, _, H, -⟩
  simp [impl_eval.l0] at H
 ·
  rintro n1 ih1 tm S ⟨hle, x5_1, x13_1, pv2, H, hh, h2⟩
  simp only [impl_eval.l0] at H
  rw [hh.eq]
  refine Evr.sr rfl (Opl.p1 (n := Opl.nil (Evr.seq ?_)))
  by_cases c3 : x13_1 < (l0.length : Int)
  case neg =>
   rw [if_neg c3] at H
   have e6 : (decide (x13_1 < (l0.length : Int))) = false := by simpa using c3
   try rw [e6]
   refine Evr.condF rfl (Evr.exit rfl (Evr.sr rfl (Opl.p1 (n := Opl.p1 (n := Opl.lenv (xs := x5_1) (by exact h2) K27 rfl rfl rfl rfl (Opl.subi (k := .i64) (a := (x5_1.length : Int)) (b := 1) K3 rfl rfl rfl rfl ?_))))))
   obtain ⟨c17, H⟩ := peel H
   obtain ⟨c18, H⟩ := peel H
   refine Opl.idv (M := (cInt .i64)) (xs := x5_1) (j := (wrap64 ((x5_1.length : Int) - 1))) (v := pv2) h2 rfl rfl (by omega) (by omega) K27 Z3 rfl rfl ?_
   rintro d6 z6 q10 h29 h30
   refine Opl.ldv (M := (cInt .i64)) (xs := x5_1) (j := (wrap64 ((x5_1.length : Int) - 1))) (0 : Int) h29 h30 (by omega) (by omega) rfl T3 rfl rfl rfl ?_
   rintro p5 q11 h31
   obtain rfl : p5 = [.lit (.int .i64 (rd x5_1 (wrap64 ((x5_1.length : Int) - 1))))] := h31
   refine ⟨.lit (.int .i64 (rd x5_1 (wrap64 ((x5_1.length : Int) - 1)))), rfl, ?_⟩
   refine Opl.one (v := .lit (.int .i64 (rd x5_1 (wrap64 ((x5_1.length : Int) - 1))))) rfl rfl rfl (Opl.nil ?_)
   obtain rfl := Option.some.inj H
   refine Evr.ret1 Try.func124 rfl ?_
   show (.lit (.int .i64 (rd x5_1 (wrap64 ((x5_1.length : Int) - 1)))) : PV) = _
   first | rfl | (simp only [go_sem]; rfl)
  rw [if_pos c3] at H
  have e1 : (decide (x13_1 < (l0.length : Int))) = true := by simpa using c3
  try rw [e1]
  refine Evr.condT rfl (Evr.skip (Evr.seq (Evr.block (Evr.sr rfl (Opl.p1 (n := ?_))))))
  obtain ⟨c4, H⟩ := peel H
  obtain ⟨c5, H⟩ := peel H
  refine Opl.idx (M := cITerm) (xs := l0) (j := x13_1) zITerm (by exact hv0) rfl (by omega) (by omega) K66 Z128 rfl rfl ?_
  rintro p1 q1 h3
  obtain rfl := cITerm_R (x := (rd_ITerm l0 x13_1)) h3
  refine Opl.lda (.agg [.lit (.int .i64 ((rd_ITerm l0 x13_1).f0)), .lit (.int .i64 ((rd_ITerm l0 x13_1).f1)), .lit (.int .i64 ((rd_ITerm l0 x13_1).f2)), .lit (.int .i64 ((rd_ITerm l0 x13_1).f3))]) rfl T128 rfl rfl rfl rfl (Opl.alloc T128 rfl rfl rfl ?_)
  rintro i1 S h4 u2 w2
  have ap1 := w2.vec h2
  have h5 := u2.vec h2 ap1
  refine Opl.p1 (n := Opl.stb (vs := [.lit (.int .i64 ((rd_ITerm l0 x13_1).f0)), .lit (.int .i64 ((rd_ITerm l0 x13_1).f1)), .lit (.int .i64 ((rd_ITerm l0 x13_1).f2)), .lit (.int .i64 ((rd_ITerm l0 x13_1).f3))]) h4 rfl rfl Z128 rfl (Nat.le_of_ble_eq_true rfl) rfl rfl rfl rfl ?_)
  rintro S (h6 : Box (.ptr i1 0) [.lit (.int .i64 ((rd_ITerm l0 x13_1).f0)), .lit (.int .i64 ((rd_ITerm l0 x13_1).f1)), .lit (.int .i64 ((rd_ITerm l0 x13_1).f2)), .lit (.int .i64 ((rd_ITerm l0 x13_1).f3))] _) u3
  have h7 := u3.vec h5 ap1
  refine Opl.nil (Evr.sr rfl (Opl.p1 (v := .ptr i1 0) (n := Opl.ldb (v := .lit (.int .i64 ((rd_ITerm l0 x13_1).f0))) h6 rfl T3 rfl rfl rfl rfl (Opl.nil (Evr.block (Evr.sr rfl (Opl.p1 (n := Opl.p1 (n := Opl.nil ?_)))))))))
  refine Evr.join (fun tm S => ∃ (kq1 : Nat) (x5_2 : List Int) (pv3 : PV), impl_eval.l0 kq1 l1 x5_2 l0 (l0.length : Int) (wrap64 (x13_1 + 1)) = some r ∧ kq1 ≤ n1 ∧ Has tm [(1, v1), (5, pv3), (11, v0), (12, .lit (.int .i64 (l0.length : Int))), (13, .lit (.int .i64 x13_1))] ∧ Vec (cInt .i64) x5_2 pv3 S) ?_ fun hk1 => ?_
  ·
   rintro tm S ⟨kq1, x5_2, pv3, H, hle, hh, h8⟩
   rw [hh.eq]
   refine Evr.inBlock (Evr.inBlock (Evr.regionN rfl (Opl.add (k := .i64) (a := x13_1) (b := 1) K3 rfl rfl rfl rfl (Opl.one (v := .lit (.int .i64 (wrap64 (x13_1 + 1)))) rfl rfl rfl (Opl.nil ?_)))))
   exact ih1 _ (by omega) _ _ ⟨by omega, _, _, _, H, ⟨rfl, rfl, rfl, rfl, rfl, trivial⟩, h8⟩
  ·
   by_cases c6 : ((rd_ITerm l0 x13_1).f0) = 0
   case pos =>
    rw [if_pos c6] at H
    have e2 : (((rd_ITerm l0 x13_1).f0) == 0) = true := by simpa using c6
    try rw [e2]
    refine Evr.condT rfl (Evr.regionN rfl (Opl.p1 (n := Opl.p1 (n := Opl.p1 (v := .ptr i1 1) (n := Opl.ldb (v := .lit (.int .i64 ((rd_ITerm l0 x13_1).f1))) h6 rfl T3 rfl rfl rfl rfl ?_)))))
    obtain ⟨c7, H⟩ := peel H
    refine Opl.idv (M := (cInt .i64)) (xs := x5_1) (j := x13_1) (v := pv2) h7 rfl rfl (by omega) (by omega) K27 Z3 rfl rfl ?_
    rintro d1 z1 q2 h9 h10
    refine Opl.stv (M := (cInt .i64)) (xs := x5_1) (j := x13_1) (y := ((rd_ITerm l0 x13_1).f1)) (vs := [.lit (.int .i64 ((rd_ITerm l0 x13_1).f1))]) h9 h10 (by omega) (by omega) rfl rfl (by exact rfl) Z3 rfl rfl rfl rfl ?_
    rw [← q2]
    rintro S h11 u4
    have h12 := u4.box h6 ap1.symm
    refine Opl.nil ?_
    exact hk1 _ _ ⟨_, _, _, H, by omega, ⟨rfl, rfl, rfl, rfl, rfl, trivial⟩, h11⟩
   rw [if_neg c6] at H
   have e3 : (((rd_ITerm l0 x13_1).f0) == 0) = false := by simpa using c6
   try rw [e3]
   refine Evr.condF rfl (Evr.sr rfl (Opl.p1 (n := Opl.p1 (n := Opl.nil ?_))))
   refine Evr.join (fun tm S => ∃ (kq2 : Nat) (x5_3 : List Int) (pv4 : PV), impl_eval.l0 kq2 l1 x5_3 l0 (l0.length : Int) (wrap64 (x13_1 + 1)) = some r ∧ kq2 ≤ n1 ∧ Has tm [(1, v1), (5, pv4), (11, v0), (12, .lit (.int .i64 (l0.length : Int))), (13, .lit (.int .i64 x13_1))] ∧ Vec (cInt .i64) x5_3 pv4 S) ?_ fun hk2 => ?_
   ·
    rintro tm S ⟨kq2, x5_3, pv4, H, hle, hh, h13⟩
    rw [hh.eq]
    exact hk1 _ _ ⟨_, _, _, H, by omega, ⟨rfl, rfl, rfl, rfl, rfl, trivial⟩, h13⟩
   ·
    by_cases c8 : ((rd_ITerm l0 x13_1).f0) = 1
    case pos =>
     rw [if_pos c8] at H
     have e4 : (((rd_ITerm l0 x13_1).f0) == 1) = true := by simpa using c8
     try rw [e4]
     refine Evr.condT rfl (Evr.regionN rfl (Opl.p1 (n := Opl.p1 (n := Opl.p1 (n := Opl.p1 (v := .ptr i1 1) (n := Opl.ldb (v := .lit (.int .i64 ((rd_ITerm l0 x13_1).f1))) h6 rfl T3 rfl rfl rfl rfl ?_))))))
     obtain ⟨c9, H⟩ := peel H
     obtain ⟨c10, H⟩ := peel H
     obtain ⟨c11, H⟩ := peel H
     refine Opl.idx (M := (cInt .i64)) (xs := l1) (j := ((rd_ITerm l0 x13_1).f1)) (0 : Int) (by exact hv1) rfl (by omega) (by omega) K27 Z3 rfl rfl ?_
     rintro p2 q3 h14
     obtain rfl : p2 = [.lit (.int .i64 (rd l1 ((rd_ITerm l0 x13_1).f1)))] := h14
     refine Opl.lda (.lit (.int .i64 (rd l1 ((rd_ITerm l0 x13_1).f1)))) rfl T3 rfl rfl rfl rfl (Opl.idv (M := (cInt .i64)) (xs := x5_1) (j := x13_1) (v := pv2) h7 rfl rfl (by omega) (by omega) K27 Z3 rfl rfl ?_)
     rintro d2 z2 q4 h15 h16
     refine Opl.stv (M := (cInt .i64)) (xs := x5_1) (j := x13_1) (y := (rd l1 ((rd_ITerm l0 x13_1).f1))) (vs := [.lit (.int .i64 (rd l1 ((rd_ITerm l0 x13_1).f1)))]) h15 h16 (by omega) (by omega) rfl rfl (by exact rfl) Z3 rfl rfl rfl rfl ?_
     rw [← q4]
     rintro S h17 u5
     have h18 := u5.box h6 ap1.symm
     refine Opl.nil ?_
     exact hk2 _ _ ⟨_, _, _, H, by omega, ⟨rfl, rfl, rfl, rfl, rfl, trivial⟩, h17⟩
    rw [if_neg c8] at H
    have e5 : (((rd_ITerm l0 x13_1).f0) == 1) = false := by simpa using c8
    try rw [e5]
    refine Evr.condF rfl (Evr.regionD rfl (by kernel_rfl) (Opl.p1 (n := Opl.p1 (n := Opl.p1 (v := .ptr i1 0) (n := Opl.ldb (v := .lit (.int .i64 ((rd_ITerm l0 x13_1).f0))) h6 rfl T3 rfl rfl rfl rfl (Opl.p1 (n := Opl.p1 (v := .ptr i1 2) (n := Opl.ldb (v := .lit (.int .i64 ((rd_ITerm l0 x13_1).f2))) h6 rfl T3 rfl rfl rfl rfl ?_))))))))
    obtain ⟨c12, H⟩ := peel H
    obtain ⟨c13, H⟩ := peel H
    obtain ⟨c14, H⟩ := peel H
    obtain ⟨c15, H⟩ := peel H
    refine Opl.idv (M := (cInt .i64)) (xs := x5_1) (j := ((rd_ITerm l0 x13_1).f2)) (v := pv2) h7 rfl rfl (by omega) (by omega) K27 Z3 rfl rfl ?_
    rintro d3 z3 q5 h19 h20
    refine Opl.ldv (M := (cInt .i64)) (xs := x5_1) (j := ((rd_ITerm l0 x13_1).f2)) (0 : Int) h19 h20 (by omega) (by omega) rfl T3 rfl rfl rfl ?_
    rintro p3 q6 h21
    obtain rfl : p3 = [.lit (.int .i64 (rd x5_1 ((rd_ITerm l0 x13_1).f2)))] := h21
    refine ⟨.lit (.int .i64 (rd x5_1 ((rd_ITerm l0 x13_1).f2))), rfl, ?_⟩
    refine Opl.p1 (n := Opl.p1 (v := .ptr i1 3) (n := Opl.ldb (v := .lit (.int .i64 ((rd_ITerm l0 x13_1).f3))) h6 rfl T3 rfl rfl rfl rfl (Opl.idv (M := (cInt .i64)) (xs := x5_1) (j := ((rd_ITerm l0 x13_1).f3)) (v := pv2) h7 rfl rfl (by omega) (by omega) K27 Z3 rfl rfl ?_)))
    rintro d4 z4 q7 h22 h23
    refine Opl.ldv (M := (cInt .i64)) (xs := x5_1) (j := ((rd_ITerm l0 x13_1).f3)) (0 : Int) h22 h23 (by omega) (by omega) rfl T3 rfl rfl rfl ?_
    rintro p4 q8 h24
    obtain rfl : p4 = [.lit (.int .i64 (rd x5_1 ((rd_ITerm l0 x13_1).f3)))] := h24
    refine ⟨.lit (.int .i64 (rd x5_1 ((rd_ITerm l0 x13_1).f3))), rfl, ?_⟩
    obtain ⟨t1103, h_t1103, H⟩ := Option.bind_eq_some_iff.1 H
    refine Opl.callc (impl_do.ev h_t1103) rfl rfl rfl rfl ⟨(.lit _), (.lit _), (.lit _), trivial⟩ (by decide) ?_
    obtain ⟨c16, H⟩ := peel H
    refine Opl.idv (M := (cInt .i64)) (xs := x5_1) (j := x13_1) (v := pv2) h7 rfl rfl (by omega) (by omega) K27 Z3 rfl rfl ?_
    rintro d5 z5 q9 h25 h26
    refine Opl.stv (M := (cInt .i64)) (xs := x5_1) (j := x13_1) (y := t1103) (vs := [.lit (.int .i64 t1103)]) h25 h26 (by omega) (by omega) rfl rfl (by exact rfl) Z3 rfl rfl rfl rfl ?_
    rw [← q9]
    rintro S h27 u6
    have h28 := u6.box h6 ap1.symm
    refine Opl.nil ?_
    exact hk2 _ _ ⟨_, _, _, H, by omega, ⟨rfl, rfl, rfl, rfl, rfl, trivial⟩, h27⟩
theorem impl_inRange.ev {k : Nat} {l0_0 : List IVar} {v0_0 : PV} (hv0_0 : Sl cIVar l0_0 v0_0) {l0_1 : List IRule} {v0_1 : PV} (hv0_1 : Sl cIRule l0_1 v0_1) {l1 : List Int} {v1 : PV} (hv1 : Sl (cInt .i64) l1 v1) {r : Bool} (H : impl_inRange.f k l0_0 l0_1 l1 = some r) : Ret Try.prog 101 [.agg [v0_0, v0_1], v1] fun v S => v = .lit (.bool r) := by
 unfold impl_inRange.f at H
 refine Ret.intro Try.func101 rfl (Nat.le_of_ble_eq_true rfl) rfl ?_
 rw [tm2]
 refine Evr.sr rfl (Opl.box (cs := [v0_0, v0_1]) rfl rfl rfl rfl ?_)
 rintro i1 S h1 u1 w1
 refine Opl.p1 (n := Opl.nil (Evr.seq (Evr.sr rfl (Opl.p1 (n := Opl.len (xs := l1) (by exact hv1) K27 rfl rfl rfl rfl (Opl.p1 (v := .ptr i1 0) (n := Opl.ldb (v := v0_0) h1 rfl T23 rfl rfl rfl rfl (Opl.len (xs := l0_0) (by exact hv0_0) K23 rfl rfl rfl rfl (Opl.p1 (n := Opl.nil ?_))))))))))
 by_cases c1 : (l1.length : Int) = (l0_0.length : Int)
 case neg =>
  rw [if_neg c1] at H
  have e6 : ((l1.length : Int) != (l0_0.length : Int)) = true := by simpa using c1
  try rw [e6]
  refine Evr.condT rfl (Evr.sr rfl (Opl.p1 (n := Opl.nil ?_)))
  obtain rfl := Option.some.inj H
  refine Evr.ret1 Try.func101 rfl ?_
  show (.lit (.bool false) : PV) = _
  first | rfl | (simp only [go_sem]; rfl)
 rw [if_pos c1] at H
 have e1 : ((l1.length : Int) != (l0_0.length : Int)) = false := by simpa using c1
 try rw [e1]
 refine Evr.condF rfl (Evr.skip (Evr.seq (Evr.sr rfl (Opl.p1 (v := .ptr i1 0) (n := Opl.ldb (v := v0_0) h1 rfl T23 rfl rfl rfl rfl (Opl.len (xs := l0_0) (by exact hv0_0) K23 rfl rfl rfl rfl (Opl.p1 (n := Opl.nil (Evr.block ?_)))))))))
 refine Evr.loop (Evr.rounds (n := k) (Inv := fun n tm S => n ≤ k ∧ ∃ (x16_1 : Int), impl_inRange.l0 n l1 l0_0 (l0_0.length : Int) x16_1 = some r ∧ Has tm [(1, v1), (14, v0_0), (15, .lit (.int .i64 (l0_0.length : Int))), (16, .lit (.int .i64 x16_1))]) ?_ ?_ ?_)
 · exact ⟨Nat.le_refl _, _, H, ⟨rfl, rfl, rfl, rfl, trivial⟩⟩
 ·
  rintro tm S ⟨_, _, H, -⟩
  simp [impl_inRange.l0] at H
 ·
  rintro n1 ih1 tm S ⟨hle, x16_1, H, hh⟩
  simp only [impl_inRange.l0] at H
  rw [hh.eq]
  refine Evr.sr rfl (Opl.p1 (n := Opl.nil (Evr.seq ?_)))
  by_cases c2 : x16_1 < (l0_0.length : Int)
  case neg =>
   rw [if_neg c2] at H
   have e5 : (decide (x16_1 < (l0_0.length : Int))) = false := by simpa using c2
   try rw [e5]
   refine Evr.condF rfl (Evr.exit rfl (Evr.sr rfl (Opl.p1 (n := Opl.nil ?_))))
   obtain rfl := Option.some.inj H
   refine Evr.ret1 Try.func101 rfl ?_
   show (.lit (.bool true) : PV) = _
   first | rfl | (simp only [go_sem]; rfl)
  rw [if_pos c2] at H
  have e2 : (decide (x16_1 < (l0_0.length : Int))) = true := by simpa using c2
  try rw [e2]
  refine Evr.condT rfl (Evr.skip (Evr.seq (Evr.block (Evr.sr rfl (Opl.p1 (n := ?_))))))
  obtain ⟨c3, H⟩ := peel H
  obtain ⟨c4, H⟩ := peel H
  obtain ⟨c5, H⟩ := peel H
  refine Opl.idx (M := cIVar) (xs := l0_0) (j := x16_1) zIVar (by exact hv0_0) rfl (by omega) (by omega) K23 Z101 rfl rfl ?_
  rintro p1 q1 h2
  obtain rfl := cIVar_R (x := (rd_IVar l0_0 x16_1)) h2
  refine Opl.lda (.agg [.lit (.int .i64 ((rd_IVar l0_0 x16_1).f0)), .lit (.int .i64 ((rd_IVar l0_0 x16_1).f1)), .lit (.int .i64 ((rd_IVar l0_0 x16_1).f2))]) rfl T101 rfl rfl rfl rfl (Opl.alloc T101 rfl rfl rfl ?_)
  rintro i2 S h3 u2 w2
  refine Opl.p1 (n := Opl.stb (vs := [.lit (.int .i64 ((rd_IVar l0_0 x16_1).f0)), .lit (.int .i64 ((rd_IVar l0_0 x16_1).f1)), .lit (.int .i64 ((rd_IVar l0_0 x16_1).f2))]) h3 rfl rfl Z101 rfl (Nat.le_of_ble_eq_true rfl) rfl rfl rfl rfl ?_)
  rintro S (h4 : Box (.ptr i2 0) [.lit (.int .i64 ((rd_IVar l0_0 x16_1).f0)), .lit (.int .i64 ((rd_IVar l0_0 x16_1).f1)), .lit (.int .i64 ((rd_IVar l0_0 x16_1).f2))] _) u3
  refine Opl.nil (Evr.seq (Evr.regionD rfl (by kernel_rfl) (Opl.p1 (n := Opl.p1 (n := Opl.idx (M := (cInt .i64)) (xs := l1) (j := x16_1) (0 : Int) (by exact hv1) rfl (by omega) (by omega) K27 Z3 rfl rfl ?_)))))
  rintro p2 q2 h5
  obtain rfl : p2 = [.lit (.int .i64 (rd l1 x16_1))] := h5
  refine Opl.lda (.lit (.int .i64 (rd l1 x16_1))) rfl T3 rfl rfl rfl rfl (Opl.p1 (v := .ptr i2 0) (n := Opl.ldb (v := .lit (.int .i64 ((rd_IVar l0_0 x16_1).f0))) h4 rfl T3 rfl rfl rfl rfl (Opl.p1 (v := .ptr i2 1) (n := Opl.ldb (v := .lit (.int .i64 ((rd_IVar l0_0 x16_1).f1))) h4 rfl T3 rfl rfl rfl rfl ?_))))
  obtain ⟨t1086, h_t1086, H⟩ := Option.bind_eq_some_iff.1 H
  refine Opl.callc (impl_in.ev h_t1086) rfl rfl rfl rfl ⟨(.lit _), (.lit _), (.lit _), trivial⟩ (by decide) (Opl.p1 (n := Opl.nil ?_))
  by_cases c6 : t1086 = true
  case neg =>
   rw [if_neg c6] at H
   have e4 : (!t1086) = true := by simpa using c6
   try rw [e4]
   refine Evr.condT rfl (Evr.sr rfl (Opl.p1 (n := Opl.nil ?_)))
   obtain rfl := Option.some.inj H
   refine Evr.ret1 Try.func101 rfl ?_
   show (.lit (.bool false) : PV) = _
   first | rfl | (simp only [go_sem]; rfl)
  rw [if_pos c6] at H
  have e3 : (!t1086) = false := by simpa using c6
  try rw [e3]
  refine Evr.condF rfl (Evr.skip (Evr.inBlock (Evr.regionN rfl (Opl.add (k := .i64) (a := x16_1) (b := 1) K3 rfl rfl rfl rfl (Opl.one (v := .lit (.int .i64 (wrap64 (x16_1 + 1)))) rfl rfl rfl (Opl.nil ?_))))))
  exact ih1 _ (by omega) _ _ ⟨by omega, _, H, ⟨rfl, rfl, rfl, rfl, trivial⟩⟩
theorem impl_use.ev {k : Nat} {l0_0 : List IVar} {v0_0 : PV} (hv0_0 : Sl cIVar l0_0 v0_0) {l0_1 : List IRule} {v0_1 : PV} (hv0_1 : Sl cIRule l0_1 v0_1) {l1 : List Int} {v1 : PV} (hv1 : Sl (cInt .i64) l1 v1) {a2 : Int} {r : (List Int) × Bool} (H : impl_use.f k l0_0 l0_1 l1 a2 = some r) : Ret Try.prog 87 [.agg [v0_0, v0_1], v1, .lit (.int .i64 a2)] fun v S => Out (fun q => ∃ q1 q2, q = .tup [q1, q2] ∧ Sl (cInt .i64) r.1 q1 ∧ q2 = .lit (.bool r.2)) v S := by
 unfold impl_use.f at H
 refine Ret.intro Try.func87 rfl (Nat.le_of_ble_eq_true rfl) rfl ?_
 rw [tm3]
 refine Evr.sr rfl (Opl.box (cs := [v0_0, v0_1]) rfl rfl rfl rfl ?_)
 rintro i1 S h1 u1 w1
 refine Opl.p1 (n := Opl.p1 (n := Opl.nil (Evr.sr rfl (Opl.p1 (v := .ptr i1 1) (n := Opl.ldb (v := v0_1) h1 rfl T24 rfl rfl rfl rfl (Opl.p1 (n := ?_)))))))
 obtain ⟨c1, H⟩ := peel H
 obtain ⟨c2, H⟩ := peel H
 refine Opl.idx (M := cIRule) (xs := l0_1) (j := a2) zIRule (by exact hv0_1) rfl (by omega) (by omega) K24 Z106 rfl rfl ?_
 rintro p1 q1 h2
 obtain ⟨pv1, pv2, pv3, rfl, h3, h4, h5⟩ := cIRule_R (x := (rd_IRule l0_1 a2)) h2
 refine Opl.lda (.agg [pv1, pv2, pv3]) rfl T106 rfl rfl rfl rfl (Opl.alloc T106 rfl rfl rfl ?_)
 rintro i2 S h6 u2 w2
 have ap1 := w2.box h1
 have h7 := u2.box h1 ap1
 refine Opl.stb (vs := [pv1, pv2, pv3]) h6 rfl rfl Z106 rfl (Nat.le_of_ble_eq_true rfl) (by simp only [List.all_cons, List.all_nil, h3.one, h4.one, h5.one, Bool.and_true, Bool.true_and] <;> rfl) rfl rfl rfl ?_
 rintro S (h8 : Box (.ptr i2 0) [pv1, pv2, pv3] _) u3
 have h9 := u3.box h7 ap1
 refine Opl.nil (Evr.seq (Evr.sr rfl (Opl.p1 (v := .ptr i2 0) (n := Opl.ldb (v := pv1) h8 rfl T66 rfl rfl rfl rfl (Opl.p1 (n := ?_))))))
 obtain ⟨t1108, h_t1108, H⟩ := Option.bind_eq_some_iff.1 H
 refine Opl.callc (impl_eval.ev h3 hv1 h_t1108) rfl rfl rfl rfl ⟨h3.plain, hv1.plain, trivial⟩ (by decide) (Opl.p1 (n := Opl.nil ?_))
 by_cases c3 : t1108 = 0
 case pos =>
  rw [if_pos c3] at H
  have e1 : (t1108 == 0) = true := by simpa using c3
  try rw [e1]
  refine Evr.condT rfl (Evr.sr rfl (Opl.p1 (n := Opl.p1 (n := Opl.nil ?_))))
  obtain rfl := Option.some.inj H
  refine Evr.ret2 Try.func87 rfl ?_
  show Out _ (.tup [.lit (.slice none 0 0), .lit (.bool false)]) _
  exact .tup2 (.sl .nil) .lit
 rw [if_neg c3] at H
 have e2 : (t1108 == 0) = false := by simpa using c3
 try rw [e2]
 refine Evr.condF rfl (Evr.skip (Evr.sr rfl (Opl.p1 (n := ?_))))
 obtain ⟨t1109, h_t1109, H⟩ := Option.bind_eq_some_iff.1 H
 refine Opl.calla (impl_clone_int.ev hv1 h_t1109) rfl rfl rfl rfl ⟨hv1.plain, trivial⟩ rfl ?_
 rintro pv4 S h10 u4 w4
 have ap2 := w4.box h9
 have h11 := u4.box h9 ap2
 have ap3 := w4.box h8
 have h12 := u4.box h8 ap3
 refine Opl.p1 (n := Opl.nil (Evr.seq (Evr.sr rfl (Opl.p1 (v := .ptr i2 1) (n := Opl.ldb (v := pv2) h12 rfl T27 rfl rfl rfl rfl (Opl.len (xs := ((rd_IRule l0_1 a2).f1)) (by exact h4) K27 rfl rfl rfl rfl (Opl.p1 (n := Opl.nil (Evr.block ?_)))))))))
 refine Evr.loop (Evr.rounds (n := k) (Inv := fun n tm S => n ≤ k ∧ ∃ (x9_1 : List Int) (x27_1 : Int) (i3 : Abs.Id) (i4 : Abs.Id) (pv5 : PV), impl_use.l0 n l1 x9_1 ((rd_IRule l0_1 a2).f1) (((rd_IRule l0_1 a2).f1).length : Int) x27_1 l0_0 l0_1 ((rd_IRule l0_1 a2).f0) ((rd_IRule l0_1 a2).f1) ((rd_IRule l0_1 a2).f2) = some r ∧ Has tm [(1, v1), (3, .ptr i3 0), (8, .ptr i4 0), (9, pv5), (25, pv2), (26, .lit (.int .i64 (((rd_IRule l0_1 a2).f1).length : Int))), (27, .lit (.int .i64 x27_1))] ∧ Box (.ptr i3 0) [v0_0, v0_1] S ∧ Box (.ptr i4 0) [pv1, pv2, pv3] S ∧ Vec (cInt .i64) x9_1 pv5 S ∧ Ap (.ptr i3 0) (.ptr i4 0) ∧ Ap (.ptr i3 0) pv5 ∧ Ap (.ptr i4 0) pv5) ?_ ?_ ?_)
 · exact ⟨Nat.le_refl _, _, _, _, _, _, H, ⟨rfl, rfl, rfl, rfl, rfl, rfl, rfl, trivial⟩, h11, h12, h10, ap1, ap2, ap3⟩
 ·
  rintro tm S ⟨_, _, _, _, _, _, H, -⟩
  simp [impl_use.l0] at H
 ·
  rintro n1 ih1 tm S ⟨hle, x9_1, x27_1, i3, i4, pv5, H, hh, h13, h14, h15, ap4, ap5, ap6⟩
  simp only [impl_use.l0] at H
  rw [hh.eq]
  refine Evr.sr rfl (Opl.p1 (n := Opl.nil (Evr.seq ?_)))
  by_cases c4 : x27_1 < (((rd_IRule l0_1 a2).f1).length : Int)
  case neg =>
   rw [if_neg c4] at H
   have e4 : (decide (x27_1 < (((rd_IRule l0_1 a2).f1).length : Int))) = false := by simpa using c4
   try rw [e4]
   refine Evr.condF rfl (Evr.exit rfl (Evr.seq (Evr.sr rfl (Opl.ldb (v := .agg [v0_0, v0_1]) h13 rfl T26 rfl rfl rfl rfl (Opl.p1 (n := ?_))))))
   obtain ⟨t1116, h_t1116, H⟩ := Option.bind_eq_some_iff.1 H
   obtain ⟨pv7, h24, -, h25⟩ := Out.vec h15
   refine Opl.callw (impl_inRange.ev hv0_0 hv0_1 h25 h_t1116) rfl rfl rfl (.cons (.refl _) (.cons h24 .nil)) ⟨(.aggL ⟨hv0_0.plain, hv0_1.plain, trivial⟩), h25.plain, trivial⟩ (by decide) (Opl.p1 (n := Opl.nil ?_))
   by_cases c10 : t1116 = true
   case neg =>
    rw [if_neg c10] at H
    have e6 : (!t1116) = true := by simpa using c10
    try rw [e6]
    refine Evr.condT rfl (Evr.sr rfl (Opl.p1 (n := Opl.p1 (n := Opl.nil ?_))))
    obtain rfl := Option.some.inj H
    refine Evr.ret2 Try.func87 rfl ?_
    show Out _ (.tup [.lit (.slice none 0 0), .lit (.bool false)]) _
    exact .tup2 (.sl .nil) .lit
   rw [if_pos c10] at H
   have e5 : (!t1116) = false := by simpa using c10
   try rw [e5]
   refine Evr.condF rfl (Evr.skip (Evr.sr rfl (Opl.p1 (n := Opl.p1 (n := Opl.p1 (n := Opl.nil ?_))))))
   obtain rfl := Option.some.inj H
   refine Evr.ret2 Try.func87 rfl ?_
   show Out _ (.tup [pv5, .lit (.bool true)]) _
   exact .tup2 (.vec h15) .lit
  rw [if_pos c4] at H
  have e3 : (decide (x27_1 < (((rd_IRule l0_1 a2).f1).length : Int))) = true := by simpa using c4
  try rw [e3]
  refine Evr.condT rfl (Evr.skip (Evr.seq (Evr.block (Evr.sr rfl (Opl.p1 (n := ?_))))))
  obtain ⟨c5, H⟩ := peel H
  obtain ⟨c6, H⟩ := peel H
  obtain ⟨c7, H⟩ := peel H
  refine Opl.idx (M := (cInt .i64)) (xs := ((rd_IRule l0_1 a2).f1)) (j := x27_1) (0 : Int) (by exact h4) rfl (by omega) (by omega) K27 Z3 rfl rfl ?_
  rintro p2 q2 h16
  obtain rfl : p2 = [.lit (.int .i64 (rd ((rd_IRule l0_1 a2).f1) x27_1))] := h16
  refine Opl.lda (.lit (.int .i64 (rd ((rd_IRule l0_1 a2).f1) x27_1))) rfl T3 rfl rfl rfl rfl (Opl.p1 (n := Opl.p1 (n := Opl.nil (Evr.regionN rfl (Opl.p1 (n := Opl.p1 (n := Opl.p1 (v := .ptr i4 2) (n := Opl.ldb (v := pv3) h14 rfl T104 rfl rfl rfl rfl (Opl.p1 (n := Opl.idx (M := (cSl cITerm)) (xs := ((rd_IRule l0_1 a2).f2)) (j := x27_1) ([] : List ITerm) (by exact h5) rfl (by omega) (by omega) K104 Z66 rfl rfl ?_))))))))))
  rintro p3 q3 h17
  obtain ⟨pv6, rfl, h18⟩ := h17
  refine Opl.lda (pv6) rfl T66 rfl rfl rfl rfl (Opl.p1 (n := ?_))
  obtain ⟨t1114, h_t1114, H⟩ := Option.bind_eq_some_iff.1 H
  refine Opl.callc (impl_eval.ev h18 hv1 h_t1114) rfl rfl rfl rfl ⟨h18.plain, hv1.plain, trivial⟩ (by decide) ?_
  obtain ⟨c8, H⟩ := peel H
  obtain ⟨c9, H⟩ := peel H
  refine Opl.idv (M := (cInt .i64)) (xs := x9_1) (j := (rd ((rd_IRule l0_1 a2).f1) x27_1)) (v := pv5) h15 rfl rfl (by omega) (by omega) K27 Z3 rfl rfl ?_
  rintro d1 z1 q4 h19 h20
  refine Opl.stv (M := (cInt .i64)) (xs := x9_1) (j := (rd ((rd_IRule l0_1 a2).f1) x27_1)) (y := t1114) (vs := [.lit (.int .i64 t1114)]) h19 h20 (by omega) (by omega) rfl rfl (by exact rfl) Z3 rfl rfl rfl rfl ?_
  rw [← q4]
  rintro S h21 u5
  have h22 := u5.box h13 ap5
  have h23 := u5.box h14 ap6
  refine Opl.nil (Evr.inBlock (Evr.regionN rfl (Opl.add (k := .i64) (a := x27_1) (b := 1) K3 rfl rfl rfl rfl (Opl.one (v := .lit (.int .i64 (wrap64 (x27_1 + 1)))) rfl rfl rfl (Opl.nil ?_)))))
  exact ih1 _ (by omega) _ _ ⟨by omega, _, _, _, _, _, H, ⟨rfl, rfl, rfl, rfl, rfl, rfl, rfl, trivial⟩, h22, h23, h21, ap4, ap5, ap6⟩
theorem impl_use.evo {k : Nat} {l0_0 : List IVar} {v0_0 : PV} (hv0_0 : Sl cIVar l0_0 v0_0) {l0_1 : List IRule} {v0_1 : PV} (hv0_1 : Sl cIRule l0_1 v0_1) {l1 : List Int} {v1 : PV} (hv1 : Sl (cInt .i64) l1 v1) {a2 : Int} {r : (List Int) × Bool} (H : impl_use.f k l0_0 l0_1 l1 a2 = some r) : Ret Try.prog 87 [.agg [v0_0, v0_1], v1, .lit (.int .i64 a2)] fun v S => Own1 (oPr (oRow (oPl (cInt .i64) (oInt .i64))) (oPl cBool oBool)) r .tup v S := by
 unfold impl_use.f at H
 refine Ret.intro Try.func87 rfl (Nat.le_of_ble_eq_true rfl) rfl ?_
 rw [tm3]
 refine Evr.sr rfl (Opl.box (cs := [v0_0, v0_1]) rfl rfl rfl rfl ?_)
 rintro i1 S h1 u1 w1
 refine Opl.p1 (n := Opl.p1 (n := Opl.nil (Evr.sr rfl (Opl.p1 (v := .ptr i1 1) (n := Opl.ldb (v := v0_1) h1 rfl T24 rfl rfl rfl rfl (Opl.p1 (n := ?_)))))))
 obtain ⟨c1, H⟩ := peel H
 obtain ⟨c2, H⟩ := peel H
 refine Opl.idx (M := cIRule) (xs := l0_1) (j := a2) zIRule (by exact hv0_1) rfl (by omega) (by omega) K24 Z106 rfl rfl ?_
 rintro p1 q1 h2
 obtain ⟨pv1, pv2, pv3, rfl, h3, h4, h5⟩ := cIRule_R (x := (rd_IRule l0_1 a2)) h2
 refine Opl.lda (.agg [pv1, pv2, pv3]) rfl T106 rfl rfl rfl rfl (Opl.alloc T106 rfl rfl rfl ?_)
 rintro i2 S h6 u2 w2
 have ap1 := w2.box h1
 have h7 := u2.box h1 ap1
 refine Opl.stb (vs := [pv1, pv2, pv3]) h6 rfl rfl Z106 rfl (Nat.le_of_ble_eq_true rfl) (by simp only [List.all_cons, List.all_nil, h3.one, h4.one, h5.one, Bool.and_true, Bool.true_and] <;> rfl) rfl rfl rfl ?_
 rintro S (h8 : Box (.ptr i2 0) [pv1, pv2, pv3] _) u3
 have h9 := u3.box h7 ap1
 refine Opl.nil (Evr.seq (Evr.sr rfl (Opl.p1 (v := .ptr i2 0) (n := Opl.ldb (v := pv1) h8 rfl T66 rfl rfl rfl rfl (Opl.p1 (n := ?_))))))
 obtain ⟨t1108, h_t1108, H⟩ := Option.bind_eq_some_iff.1 H
 refine Opl.callc (impl_eval.ev h3 hv1 h_t1108) rfl rfl rfl rfl ⟨h3.plain, hv1.plain, trivial⟩ (by decide) (Opl.p1 (n := Opl.nil ?_))
 by_cases c3 : t1108 = 0
 case pos =>
  rw [if_pos c3] at H
  have e1 : (t1108 == 0) = true := by simpa using c3
  try rw [e1]
  refine Evr.condT rfl (Evr.sr rfl (Opl.p1 (n := Opl.p1 (n := Opl.nil ?_))))
  obtain rfl := Option.some.inj H
  refine Evr.ret2 Try.func87 rfl ?_
  show Own1 _ _ _ (.tup [.lit (.slice none 0 0), .lit (.bool false)]) _
  exact ⟨[.lit (.slice none 0 0), .lit (.bool false)], _, rfl, [.lit (.slice none 0 0)], [.lit (.bool false)], _, [], rfl, rfl, (fun _ _ h => by cases h), .inl ⟨rfl, rfl, rfl⟩, rfl, rfl⟩
 rw [if_neg c3] at H
 have e2 : (t1108 == 0) = false := by simpa using c3
 try rw [e2]
 refine Evr.condF rfl (Evr.skip (Evr.sr rfl (Opl.p1 (n := ?_))))
 obtain ⟨t1109, h_t1109, H⟩ := Option.bind_eq_some_iff.1 H
 refine Opl.calla (impl_clone_int.ev hv1 h_t1109) rfl rfl rfl rfl ⟨hv1.plain, trivial⟩ rfl ?_
 rintro pv4 S h10 u4 w4
 have ap2 := w4.box h9
 have h11 := u4.box h9 ap2
 have ap3 := w4.box h8
 have h12 := u4.box h8 ap3
 refine Opl.p1 (n := Opl.nil (Evr.seq (Evr.sr rfl (Opl.p1 (v := .ptr i2 1) (n := Opl.ldb (v := pv2) h12 rfl T27 rfl rfl rfl rfl (Opl.len (xs := ((rd_IRule l0_1 a2).f1)) (by exact h4) K27 rfl rfl rfl rfl (Opl.p1 (n := Opl.nil (Evr.block ?_)))))))))
 refine Evr.loop (Evr.rounds (n := k) (Inv := fun n tm S => n ≤ k ∧ ∃ (x9_1 : List Int) (x27_1 : Int) (i3 : Abs.Id) (i4 : Abs.Id) (pv5 : PV), impl_use.l0 n l1 x9_1 ((rd_IRule l0_1 a2).f1) (((rd_IRule l0_1 a2).f1).length : Int) x27_1 l0_0 l0_1 ((rd_IRule l0_1 a2).f0) ((rd_IRule l0_1 a2).f1) ((rd_IRule l0_1 a2).f2) = some r ∧ Has tm [(1, v1), (3, .ptr i3 0), (8, .ptr i4 0), (9, pv5), (25, pv2), (26, .lit (.int .i64 (((rd_IRule l0_1 a2).f1).length : Int))), (27, .lit (.int .i64 x27_1))] ∧ Box (.ptr i3 0) [v0_0, v0_1] S ∧ Box (.ptr i4 0) [pv1, pv2, pv3] S ∧ Vec (cInt .i64) x9_1 pv5 S ∧ Ap (.ptr i3 0) (.ptr i4 0) ∧ Ap (.ptr i3 0) pv5 ∧ Ap (.ptr i4 0) pv5) ?_ ?_ ?_)
 · exact ⟨Nat.le_refl _, _, _, _, _, _, H, ⟨rfl, rfl, rfl, rfl, rfl, rfl, rfl, trivial⟩, h11, h12, h10, ap1, ap2, ap3⟩
 ·
  rintro tm S ⟨_, _, _, _, _, _, H, -⟩
  simp [impl_use.l0] at H
 ·
  rintro n1 ih1 tm S ⟨hle, x9_1, x27_1, i3, i4, pv5, H, hh, h13, h14, h15, ap4, ap5, ap6⟩
  simp only [impl_use.l0] at H
  rw [hh.eq]
  refine Evr.sr rfl (Opl.p1 (n := Opl.nil (Evr.seq ?_)))
  by_cases c4 : x27_1 < (((rd_IRule l0_1 a2).f1).length : Int)
  case neg =>
   rw [if_neg c4] at H
   have e4 : (decide (x27_1 < (((rd_IRule l0_1 a2).f1).length : Int))) = false := by simpa using c4
   try rw [e4]
   refine Evr.condF rfl (Evr.exit rfl (Evr.seq (Evr.sr rfl (Opl.ldb (v := .agg [v0_0, v0_1]) h13 rfl T26 rfl rfl rfl rfl (Opl.p1 (n := ?_))))))
   obtain ⟨t1116, h_t1116, H⟩ := Option.bind_eq_some_iff.1 H
   obtain ⟨pv7, h24, -, h25⟩ := Out.vec h15
   refine Opl.callw (impl_inRange.ev hv0_0 hv0_1 h25 h_t1116) rfl rfl rfl (.cons (.refl _) (.cons h24 .nil)) ⟨(.aggL ⟨hv0_0.plain, hv0_1.plain, trivial⟩), h25.plain, trivial⟩ (by decide) (Opl.p1 (n := Opl.nil ?_))
   by_cases c10 : t1116 = true
   case pos =>
    rw [if_pos c10] at H
    have e5 : (!t1116) = false := by simpa using c10
    try rw [e5]
    refine Evr.condF rfl (Evr.skip (Evr.sr rfl (Opl.p1 (n := Opl.p1 (n := Opl.p1 (n := Opl.nil ?_))))))
    obtain rfl := Option.some.inj H
    refine Evr.ret2 Try.func87 rfl ?_
    show Own1 _ _ _ (.tup [pv5, .lit (.bool true)]) _
    exact ⟨[pv5, .lit (.bool true)], _, rfl, [pv5], [.lit (.bool true)], _, [], rfl, rfl, (fun _ _ h => by cases h), h15.tree (oInt .i64), rfl, rfl⟩
   rw [if_neg c10] at H
   have e6 : (!t1116) = true := by simpa using c10
   try rw [e6]
   refine Evr.condT rfl (Evr.sr rfl (Opl.p1 (n := Opl.p1 (n := Opl.nil ?_))))
   obtain rfl := Option.some.inj H
   refine Evr.ret2 Try.func87 rfl ?_
   show Own1 _ _ _ (.tup [.lit (.slice none 0 0), .lit (.bool false)]) _
   exact ⟨[.lit (.slice none 0 0), .lit (.bool false)], _, rfl, [.lit (.slice none 0 0)], [.lit (.bool false)], _, [], rfl, rfl, (fun _ _ h => by cases h), .inl ⟨rfl, rfl, rfl⟩, rfl, rfl⟩
  rw [if_pos c4] at H
  have e3 : (decide (x27_1 < (((rd_IRule l0_1 a2).f1).length : Int))) = true := by simpa using c4
  try rw [e3]
  refine Evr.condT rfl (Evr.skip (Evr.seq (Evr.block (Evr.sr rfl (Opl.p1 (n := ?_))))))
  obtain ⟨c5, H⟩ := peel H
  obtain ⟨c6, H⟩ := peel H
  obtain ⟨c7, H⟩ := peel H
  refine Opl.idx (M := (cInt .i64)) (xs := ((rd_IRule l0_1 a2).f1)) (j := x27_1) (0 : Int) (by exact h4) rfl (by omega) (by omega) K27 Z3 rfl rfl ?_
  rintro p2 q2 h16
  obtain rfl : p2 = [.lit (.int .i64 (rd ((rd_IRule l0_1 a2).f1) x27_1))] := h16
  refine Opl.lda (.lit (.int .i64 (rd ((rd_IRule l0_1 a2).f1) x27_1))) rfl T3 rfl rfl rfl rfl (Opl.p1 (n := Opl.p1 (n := Opl.nil (Evr.regionN rfl (Opl.p1 (n := Opl.p1 (n := Opl.p1 (v := .ptr i4 2) (n := Opl.ldb (v := pv3) h14 rfl T104 rfl rfl rfl rfl (Opl.p1 (n := Opl.idx (M := (cSl cITerm)) (xs := ((rd_IRule l0_1 a2).f2)) (j := x27_1) ([] : List ITerm) (by exact h5) rfl (by omega) (by omega) K104 Z66 rfl rfl ?_))))))))))
  rintro p3 q3 h17
  obtain ⟨pv6, rfl, h18⟩ := h17
  refine Opl.lda (pv6) rfl T66 rfl rfl rfl rfl (Opl.p1 (n := ?_))
  obtain ⟨t1114, h_t1114, H⟩ := Option.bind_eq_some_iff.1 H
  refine Opl.callc (impl_eval.ev h18 hv1 h_t1114) rfl rfl rfl rfl ⟨h18.plain, hv1.plain, trivial⟩ (by decide) ?_
  obtain ⟨c8, H⟩ := peel H
  obtain ⟨c9, H⟩ := peel H
  refine Opl.idv (M := (cInt .i64)) (xs := x9_1) (j := (rd ((rd_IRule l0_1 a2).f1) x27_1)) (v := pv5) h15 rfl rfl (by omega) (by omega) K27 Z3 rfl rfl ?_
  rintro d1 z1 q4 h19 h20
  refine Opl.stv (M := (cInt .i64)) (xs := x9_1) (j := (rd ((rd_IRule l0_1 a2).f1) x27_1)) (y := t1114) (vs := [.lit (.int .i64 t1114)]) h19 h20 (by omega) (by omega) rfl rfl (by exact rfl) Z3 rfl rfl rfl rfl ?_
  rw [← q4]
  rintro S h21 u5
  have h22 := u5.box h13 ap5
  have h23 := u5.box h14 ap6
  refine Opl.nil (Evr.inBlock (Evr.regionN rfl (Opl.add (k := .i64) (a := x27_1) (b := 1) K3 rfl rfl rfl rfl (Opl.one (v := .lit (.int .i64 (wrap64 (x27_1 + 1)))) rfl rfl rfl (Opl.nil ?_)))))
  exact ih1 _ (by omega) _ _ ⟨by omega, _, _, _, _, _, H, ⟨rfl, rfl, rfl, rfl, rfl, rfl, rfl, trivial⟩, h22, h23, h21, ap4, ap5, ap6⟩
theorem impl_Replay.ev {k : Nat} {l0_0 : List IVar} {v0_0 : PV} (hv0_0 : Sl cIVar l0_0 v0_0) {l0_1 : List IRule} {v0_1 : PV} (hv0_1 : Sl cIRule l0_1 v0_1) {l1 : List Int} {v1 : PV} (hv1 : Sl (cInt .i64) l1 v1) {r : (List (List Int) × List Int) × Int} (H : impl_Replay.f k l0_0 l0_1 l1 = some r) : Ret Try.prog 30 [.agg [v0_0, v0_1], v1] fun v S => Out (fun q => ∃ q1 q2, q = .tup [q1, q2] ∧ (∃ q11 q12, q1 = .agg [q11, q12] ∧ Sl (cSl (cInt .i64)) r.1.1 q11 ∧ Sl (cInt .i64) r.1.2 q12) ∧ q2 = .lit (.int .i64 r.2)) v S := by
 unfold impl_Replay.f at H
 refine Ret.intro Try.func30 rfl (Nat.le_of_ble_eq_true rfl) rfl ?_
 rw [tm2]
 refine Evr.sr rfl (Opl.box (cs := [v0_0, v0_1]) rfl rfl rfl rfl ?_)
 rintro i1 S h1 u1 w1
 refine Opl.alloc T42 rfl rfl rfl ?_
 rintro i2 S h2 u2 w2
 have ap1 := w2.box h1
 have h3 := u2.box h1 ap1
 refine Opl.p1 (n := Opl.nil (Evr.seq (Evr.sr rfl (Opl.ldb (v := .agg [v0_0, v0_1]) h3 rfl T26 rfl rfl rfl rfl ?_))))
 obtain ⟨r1, h_r1, H⟩ := Option.bind_eq_some_iff.1 H
 refine Opl.callc (impl_SystemValid.ev hv0_0 hv0_1 h_r1) rfl rfl rfl rfl ⟨(.aggL ⟨hv0_0.plain, hv0_1.plain, trivial⟩), trivial⟩ (by decide) (Opl.p1 (n := Opl.p1 (n := ?_)))
 by_cases c1 : r1 = true
 case neg =>
  rw [if_neg c1] at H
  have e10 : (!r1) = true := by simpa using c1
  try rw [e10]
  refine Opl.skp rfl (Opl.skp rfl (Opl.skp rfl (Opl.p1 (n := Opl.nil (Evr.condT rfl (Evr.sr rfl (Opl.p1 (v := .agg [.lit (.slice none 0 0), .lit (.slice none 0 0)]) (n := Opl.stb (vs := [.lit (.slice none 0 0), .lit (.slice none 0 0)]) h2 rfl rfl Z42 rfl (Nat.le_of_ble_eq_true rfl) rfl rfl rfl rfl ?_))))))))
  rintro S (h109 : Box (.ptr i2 0) [.lit (.slice none 0 0), .lit (.slice none 0 0)] _) u29
  have h110 := u29.box h3 ap1
  refine Opl.p1 (n := Opl.nil ?_)
  obtain rfl := Option.some.inj H
  refine Evr.ret_ct (v0 := .agg [.lit (.slice none 0 0), .lit (.slice none 0 0)]) Try.func30 rfl h109 rfl T42 rfl ?_
  show Out _ (.tup [.agg [.lit (.slice none 0 0), .lit (.slice none 0 0)], .lit (.int .i64 0)]) _
  exact .tup2 (.agg2 (.sl .nil) (.sl .nil)) .lit
 rw [if_pos c1] at H
 have e1 : (!r1) = false := by simpa using c1
 try rw [e1]
 refine Opl.p1 (n := Opl.len (xs := l1) (by exact hv1) K27 rfl rfl rfl rfl (Opl.p1 (n := Opl.p1 (n := Opl.nil ?_))))
 by_cases c2 : (l1.length : Int) ≥ 500
 case pos =>
  rw [if_pos c2] at H
  have e2 : (decide ((l1.length : Int) ≥ 500)) = true := by simpa using c2
  try rw [e2]
  refine Evr.condT rfl (Evr.sr rfl (Opl.p1 (v := .agg [.lit (.slice none 0 0), .lit (.slice none 0 0)]) (n := Opl.stb (vs := [.lit (.slice none 0 0), .lit (.slice none 0 0)]) h2 rfl rfl Z42 rfl (Nat.le_of_ble_eq_true rfl) rfl rfl rfl rfl ?_)))
  rintro S (h4 : Box (.ptr i2 0) [.lit (.slice none 0 0), .lit (.slice none 0 0)] _) u3
  have h5 := u3.box h3 ap1
  refine Opl.p1 (n := Opl.nil ?_)
  obtain rfl := Option.some.inj H
  refine Evr.ret_ct (v0 := .agg [.lit (.slice none 0 0), .lit (.slice none 0 0)]) Try.func30 rfl h4 rfl T42 rfl ?_
  show Out _ (.tup [.agg [.lit (.slice none 0 0), .lit (.slice none 0 0)], .lit (.int .i64 0)]) _
  exact .tup2 (.agg2 (.sl .nil) (.sl .nil)) .lit
 rw [if_neg c2] at H
 have e3 : (decide ((l1.length : Int) ≥ 500)) = false := by simpa using c2
 try rw [e3]
 refine Evr.condF rfl (Evr.skip (Evr.sr rfl (Opl.ldb (v := .agg [v0_0, v0_1]) h3 rfl T26 rfl rfl rfl rfl ?_)))
 obtain ⟨r2, h_r2, H⟩ := Option.bind_eq_some_iff.1 H
 refine Opl.call ((impl_first.ev hv0_0 hv0_1 h_r2).mono fun _ _ h => Out.vec h) rfl rfl rfl rfl ⟨(.aggL ⟨hv0_0.plain, hv0_1.plain, trivial⟩), trivial⟩ (by decide) ?_
 rintro pv1 h6
 refine Opl.lits (M := (cSl (cInt .i64))) (ys := [r2]) [.tmp 21] K30 T27 rfl rfl rfl (by exact ⟨⟨_, by first | rfl | exact h6.cells, h6⟩, trivial⟩) rfl (by decide) rfl rfl rfl ?_
 rintro pv2 S h7 u4 w4
 have ap2 := w4.box h3
 have h8 := u4.box h3 ap2
 have ap3 := w4.box h2
 have h9 := u4.box h2 ap3
 refine Opl.one (v := .agg [pv2, .lit (.slice none 0 0)]) rfl rfl (by simp only [go_sem]; simp only [fillL, Vec.cells h7]; rfl) (Opl.alloc T42 rfl rfl rfl ?_)
 rintro i3 S h10 u5 w5
 have ap4 := w5.box h8
 have h11 := u5.box h8 ap4
 have ap5 := w5.box h9
 have h12 := u5.box h9 ap5
 have ap6 := w5.vec h7
 have h13 := u5.vec h7 ap6
 refine Opl.stb (vs := [pv2, .lit (.slice none 0 0)]) h10 rfl rfl Z42 rfl (Nat.le_of_ble_eq_true rfl) (by simp only [List.all_cons, List.all_nil, Vec.one h13, Bool.and_true, Bool.true_and] <;> rfl) rfl rfl rfl ?_
 rintro S (h14 : Box (.ptr i3 0) [pv2, .lit (.slice none 0 0)] _) u6
 have h15 := u6.box h11 ap4
 have h16 := u6.box h12 ap5
 have h17 := u6.vec h13 ap6
 refine Opl.nil (Evr.seq (Evr.sr rfl (Opl.p1 (n := Opl.len (xs := l1) (by exact hv1) K27 rfl rfl rfl rfl (Opl.p1 (n := Opl.nil (Evr.block ?_)))))))
 refine Evr.loop (Evr.rounds (n := k) (Inv := fun n tm S => n ≤ k ∧ ∃ (x6b0_1 : List (List Int)) (x6b1_1 : List Int) (x26_1 : Int) (i4 : Abs.Id) (i5 : Abs.Id) (pv3 : PV) (pv4 : PV) (i6 : Abs.Id), impl_Replay.l1 n x6b0_1 x6b1_1 x26_1 l0_0 l0_1 l1 = some r ∧ Has tm [(2, .ptr i4 0), (4, .ptr i5 0), (6, .ptr i6 0), (24, v1), (25, .lit (.int .i64 (l1.length : Int))), (26, .lit (.int .i64 x26_1))] ∧ Box (.ptr i4 0) [v0_0, v0_1] S ∧ Box (.ptr i5 0) [.lit (.slice none 0 0), .lit (.slice none 0 0)] S ∧ Vec (cSl (cInt .i64)) x6b0_1 pv3 S ∧ Vec (cInt .i64) x6b1_1 pv4 S ∧ Box (.ptr i6 0) [pv3, pv4] S ∧ Ap (.ptr i4 0) (.ptr i5 0) ∧ Ap (.ptr i4 0) pv3 ∧ Ap (.ptr i4 0) pv4 ∧ Ap (.ptr i4 0) (.ptr i6 0) ∧ Ap (.ptr i5 0) pv3 ∧ Ap (.ptr i5 0) pv4 ∧ Ap (.ptr i5 0) (.ptr i6 0) ∧ Ap pv3 pv4 ∧ Ap pv3 (.ptr i6 0) ∧ Ap pv4 (.ptr i6 0)) ?_ ?_ ?_)
 · exact ⟨Nat.le_refl _, _, _, _, _, _, _, _, _, H, ⟨rfl, rfl, rfl, rfl, rfl, rfl, trivial⟩, h15, h16, h17, .nil, h14, ap1, ap2, Ap.nil.symm, ap4, ap3, Ap.nil.symm, ap5, Ap.nil.symm, ap6, .nil⟩
 ·
  rintro tm S ⟨_, _, _, _, _, _, _, _, _, H, -⟩
  simp [impl_Replay.l1] at H
 ·
  rintro n1 ih1 tm S ⟨hle, x6b0_1, x6b1_1, x26_1, i4, i5, pv3, pv4, i6, H, hh, h18, h19, h21, h22, h20, ap7, ap8, ap9, ap10, ap11, ap12, ap13, ap14, ap15, ap16⟩
  simp only [impl_Replay.l1] at H
  rw [hh.eq]
  refine Evr.sr rfl (Opl.p1 (n := Opl.nil (Evr.seq ?_)))
  by_cases c3 : x26_1 < (l1.length : Int)
  case neg =>
   rw [if_neg c3] at H
   have e9 : (decide (x26_1 < (l1.length : Int))) = false := by simpa using c3
   try rw [e9]
   refine Evr.condF rfl (Evr.exit rfl (Evr.seq (Evr.frzc [] [pv4] h20 h21 ap15 ?_)))
   rintro pv22 S1_ S h90 u23 u24 h91
   have h92 := u24.box (u23.box h18 ap8) ap10
   have h93 := u24.box (u23.box h19 ap11) ap13
   have h94 := u24.vec (u23.vec h22 ap14.symm) ap16
   have h95 : Sl (cSl (cInt .i64)) x6b0_1 pv22 := h90
   have h96 : Box (.ptr i6 0) [pv22, pv4] S := h91
   refine Evr.frzc [pv22] [] h96 h94 ap16 ?_
   rintro pv23 S1_ S h97 u25 u26 h98
   have h99 := u26.box (u25.box h92 ap9) ap10
   have h100 := u26.box (u25.box h93 ap12) ap13
   have h101 : Sl (cInt .i64) x6b1_1 pv23 := h97
   have h102 : Box (.ptr i6 0) [pv22, pv23] S := h98
   refine Evr.frzb 6 h102 rfl ?_
   rintro S u27
   have h103 := u27.box h99 ap10
   have h104 := u27.box h100 ap13
   refine Evr.regionL [(1, .p), (4, .p), (8, .p)] rfl (by kernel_rfl) (Opl.p1 (v := .fel (pv22 :: pv23 :: [])) (n := Opl.ldp (pv22) rfl T30 rfl rfl rfl ?_))
   obtain ⟨r9, h_r9, H⟩ := Option.bind_eq_some_iff.1 H
   refine Opl.call ((impl_clone_Lint.ev h95 h_r9).mono fun _ _ h => Out.vec h) rfl rfl rfl rfl ⟨h95.plain, trivial⟩ (by decide) ?_
   rintro pv24 h105
   refine Opl.p1 (v := .fel (pv23 :: [])) (n := Opl.ldp (pv23) rfl T27 rfl rfl rfl ?_)
   obtain ⟨r10, h_r10, H⟩ := Option.bind_eq_some_iff.1 H
   refine Opl.call ((impl_clone_int.ev h101 h_r10).mono fun _ _ h => Out.vec h) rfl rfl rfl rfl ⟨h101.plain, trivial⟩ (by decide) ?_
   rintro pv25 h106
   refine Opl.one (v := .agg [pv24, pv25]) rfl rfl (by simp only [go_sem]; simp only [fillL, Sl.cells h105, Sl.cells h106]; rfl) (Opl.p1 (v := .fel (pv23 :: [])) (n := Opl.ldp (pv23) rfl T27 rfl rfl rfl (Opl.len (xs := x6b1_1) (by exact h101) K27 rfl rfl rfl rfl (Opl.stb (vs := [pv24, pv25]) h104 rfl rfl Z42 rfl (Nat.le_of_ble_eq_true rfl) (by simp only [List.all_cons, List.all_nil, h105.one, h106.one, Bool.and_true, Bool.true_and] <;> rfl) rfl rfl rfl ?_))))
   rintro S (h107 : Box (.ptr i5 0) [pv24, pv25] _) u28
   have h108 := u28.box h103 ap7
   refine Opl.p1 (n := Opl.nil ?_)
   obtain rfl := Option.some.inj H
   refine Evr.ret_ct (v0 := .agg [pv24, pv25]) Try.func30 rfl h107 rfl T42 rfl ?_
   show Out _ (.tup [.agg [pv24, pv25], .lit (.int .i64 (x6b1_1.length : Int))]) _
   exact .tup2 (.agg2 (.sl h105) (.sl h106)) .lit
  rw [if_pos c3] at H
  have e4 : (decide (x26_1 < (l1.length : Int))) = true := by simpa using c3
  try rw [e4]
  refine Evr.condT rfl (Evr.skip (Evr.seq (Evr.block (Evr.sr rfl (Opl.p1 (n := ?_))))))
  obtain ⟨c4, H⟩ := peel H
  obtain ⟨c5, H⟩ := peel H
  refine Opl.idx (M := (cInt .i64)) (xs := l1) (j := x26_1) (0 : Int) (by exact hv1) rfl (by omega) (by omega) K27 Z3 rfl rfl ?_
  rintro p1 q1 h23
  obtain rfl : p1 = [.lit (.int .i64 (rd l1 x26_1))] := h23
  refine Opl.lda (.lit (.int .i64 (rd l1 x26_1))) rfl T3 rfl rfl rfl rfl (Opl.p1 (n := Opl.p1 (n := Opl.nil (Evr.seq (Evr.sr rfl (Opl.p1 (n := Opl.p1 (v := .ptr i4 1) (n := Opl.ldb (v := v0_1) h18 rfl T24 rfl rfl rfl rfl (Opl.len (xs := l0_1) (by exact hv0_1) K24 rfl rfl rfl rfl (Opl.subi (k := .i64) (a := (l0_1.length : Int)) (b := 1) K3 rfl rfl rfl rfl ?_))))))))))
  obtain ⟨r3, h_r3, H⟩ := Option.bind_eq_some_iff.1 H
  refine Opl.callc (impl_in.ev h_r3) rfl rfl rfl rfl ⟨(.lit _), (.lit _), (.lit _), trivial⟩ (by decide) (Opl.p1 (n := Opl.nil ?_))
  by_cases c6 : r3 = true
  case neg =>
   rw [if_neg c6] at H
   have e8 : (!r3) = true := by simpa using c6
   try rw [e8]
   refine Evr.condT rfl (Evr.exit rfl (Evr.seq (Evr.frzc [] [pv4] h20 h21 ap15 ?_)))
   rintro pv18 S1_ S h71 u17 u18 h72
   have h73 := u18.box (u17.box h18 ap8) ap10
   have h74 := u18.box (u17.box h19 ap11) ap13
   have h75 := u18.vec (u17.vec h22 ap14.symm) ap16
   have h76 : Sl (cSl (cInt .i64)) x6b0_1 pv18 := h71
   have h77 : Box (.ptr i6 0) [pv18, pv4] S := h72
   refine Evr.frzc [pv18] [] h77 h75 ap16 ?_
   rintro pv19 S1_ S h78 u19 u20 h79
   have h80 := u20.box (u19.box h73 ap9) ap10
   have h81 := u20.box (u19.box h74 ap12) ap13
   have h82 : Sl (cInt .i64) x6b1_1 pv19 := h78
   have h83 : Box (.ptr i6 0) [pv18, pv19] S := h79
   refine Evr.frzb 6 h83 rfl ?_
   rintro S u21
   have h84 := u21.box h80 ap10
   have h85 := u21.box h81 ap13
   refine Evr.regionL [(1, .p), (4, .p), (8, .p)] rfl (by kernel_rfl) (Opl.p1 (v := .fel (pv18 :: pv19 :: [])) (n := Opl.ldp (pv18) rfl T30 rfl rfl rfl ?_))
   obtain ⟨r7, h_r7, H⟩ := Option.bind_eq_some_iff.1 H
   refine Opl.call ((impl_clone_Lint.ev h76 h_r7).mono fun _ _ h => Out.vec h) rfl rfl rfl rfl ⟨h76.plain, trivial⟩ (by decide) ?_
   rintro pv20 h86
   refine Opl.p1 (v := .fel (pv19 :: [])) (n := Opl.ldp (pv19) rfl T27 rfl rfl rfl ?_)
   obtain ⟨r8, h_r8, H⟩ := Option.bind_eq_some_iff.1 H
   refine Opl.call ((impl_clone_int.ev h82 h_r8).mono fun _ _ h => Out.vec h) rfl rfl rfl rfl ⟨h82.plain, trivial⟩ (by decide) ?_
   rintro pv21 h87
   refine Opl.one (v := .agg [pv20, pv21]) rfl rfl (by simp only [go_sem]; simp only [fillL, Sl.cells h86, Sl.cells h87]; rfl) (Opl.p1 (v := .fel (pv19 :: [])) (n := Opl.ldp (pv19) rfl T27 rfl rfl rfl (Opl.len (xs := x6b1_1) (by exact h82) K27 rfl rfl rfl rfl (Opl.stb (vs := [pv20, pv21]) h85 rfl rfl Z42 rfl (Nat.le_of_ble_eq_true rfl) (by simp only [List.all_cons, List.all_nil, h86.one, h87.one, Bool.and_true, Bool.true_and] <;> rfl) rfl rfl rfl ?_))))
   rintro S (h88 : Box (.ptr i5 0) [pv20, pv21] _) u22
   have h89 := u22.box h84 ap7
   refine Opl.one (v := .lit (.int .i64 (x6b1_1.length : Int))) rfl rfl rfl (Opl.nil ?_)
   obtain rfl := Option.some.inj H
   refine Evr.ret_ct (v0 := .agg [pv20, pv21]) Try.func30 rfl h88 rfl T42 rfl ?_
   show Out _ (.tup [.agg [pv20, pv21], .lit (.int .i64 (x6b1_1.length : Int))]) _
   exact .tup2 (.agg2 (.sl h86) (.sl h87)) .lit
  rw [if_pos c6] at H
  have e5 : (!r3) = false := by simpa using c6
  try rw [e5]
  refine Evr.condF rfl (Evr.skip (Evr.seq (Evr.regionD rfl (by kernel_rfl) (Opl.ldb (v := .agg [v0_0, v0_1]) h18 rfl T26 rfl rfl rfl rfl (Opl.p1 (v := .ptr i6 0) (n := Opl.ldb (v := pv3) h20 rfl T30 rfl rfl rfl rfl (Opl.one (v := .lit (.int .i64 x26_1)) rfl rfl rfl ?_)))))))
  obtain ⟨c7, H⟩ := peel H
  obtain ⟨c8, H⟩ := peel H
  refine Opl.idv (M := (cSl (cInt .i64))) (xs := x6b0_1) (j := x26_1) (v := pv3) h21 rfl rfl (by omega) (by omega) K30 Z27 rfl rfl ?_
  rintro d1 z1 q2 h24 h25
  refine Opl.ldv (M := (cSl (cInt .i64))) (xs := x6b0_1) (j := x26_1) ([] : List Int) h24 h25 (by omega) (by omega) rfl T27 rfl rfl rfl ?_
  rintro p2 q3 h26
  obtain ⟨pv5, rfl, h27⟩ := h26
  refine ⟨pv5, rfl, ?_⟩
  refine Opl.one (v := .lit (.int .i64 (rd l1 x26_1))) rfl rfl rfl ?_
  obtain ⟨r4, h_r4, H⟩ := Option.bind_eq_some_iff.1 H
  refine Opl.call (impl_use.ev hv0_0 hv0_1 h27 h_r4) rfl rfl rfl rfl ⟨(.aggL ⟨hv0_0.plain, hv0_1.plain, trivial⟩), h27.plain, (.lit _), trivial⟩ (by decide) ?_
  rintro _ ⟨pv7, _, rfl, h29, rfl⟩
  refine Opl.p1 (n := Opl.p1 (v := pv7) (n := Opl.p1 (v := .lit (.bool r4.2)) (n := Opl.one (v := pv7) rfl rfl rfl (Opl.one (v := .lit (.bool r4.2)) rfl rfl rfl (Opl.nil (Evr.seq (Evr.sr rfl (Opl.one (v := .lit (.bool r4.2)) rfl rfl rfl (Opl.p1 (n := Opl.nil ?_))))))))))
  by_cases c9 : r4.2 = true
  case neg =>
   rw [if_neg c9] at H
   have e7 : (!r4.2) = true := by simpa using c9
   try rw [e7]
   refine Evr.condT rfl (Evr.exit rfl (Evr.seq (Evr.frzc [] [pv4] h20 h21 ap15 ?_)))
   rintro pv14 S1_ S h52 u11 u12 h53
   have h54 := u12.box (u11.box h18 ap8) ap10
   have h55 := u12.box (u11.box h19 ap11) ap13
   have h56 := u12.vec (u11.vec h22 ap14.symm) ap16
   have h57 : Sl (cSl (cInt .i64)) x6b0_1 pv14 := h52
   have h58 : Box (.ptr i6 0) [pv14, pv4] S := h53
   refine Evr.frzc [pv14] [] h58 h56 ap16 ?_
   rintro pv15 S1_ S h59 u13 u14 h60
   have h61 := u14.box (u13.box h54 ap9) ap10
   have h62 := u14.box (u13.box h55 ap12) ap13
   have h63 : Sl (cInt .i64) x6b1_1 pv15 := h59
   have h64 : Box (.ptr i6 0) [pv14, pv15] S := h60
   refine Evr.frzb 6 h64 rfl ?_
   rintro S u15
   have h65 := u15.box h61 ap10
   have h66 := u15.box h62 ap13
   refine Evr.regionL [(1, .p), (4, .p), (8, .p)] rfl (by kernel_rfl) (Opl.p1 (v := .fel (pv14 :: pv15 :: [])) (n := Opl.ldp (pv14) rfl T30 rfl rfl rfl ?_))
   obtain ⟨r5, h_r5, H⟩ := Option.bind_eq_some_iff.1 H
   refine Opl.call ((impl_clone_Lint.ev h57 h_r5).mono fun _ _ h => Out.vec h) rfl rfl rfl rfl ⟨h57.plain, trivial⟩ (by decide) ?_
   rintro pv16 h67
   refine Opl.p1 (v := .fel (pv15 :: [])) (n := Opl.ldp (pv15) rfl T27 rfl rfl rfl ?_)
   obtain ⟨r6, h_r6, H⟩ := Option.bind_eq_some_iff.1 H
   refine Opl.call ((impl_clone_int.ev h63 h_r6).mono fun _ _ h => Out.vec h) rfl rfl rfl rfl ⟨h63.plain, trivial⟩ (by decide) ?_
   rintro pv17 h68
   refine Opl.one (v := .agg [pv16, pv17]) rfl rfl (by simp only [go_sem]; simp only [fillL, Sl.cells h67, Sl.cells h68]; rfl) (Opl.p1 (v := .fel (pv15 :: [])) (n := Opl.ldp (pv15) rfl T27 rfl rfl rfl (Opl.len (xs := x6b1_1) (by exact h63) K27 rfl rfl rfl rfl (Opl.stb (vs := [pv16, pv17]) h66 rfl rfl Z42 rfl (Nat.le_of_ble_eq_true rfl) (by simp only [List.all_cons, List.all_nil, h67.one, h68.one, Bool.and_true, Bool.true_and] <;> rfl) rfl rfl rfl ?_))))
   rintro S (h69 : Box (.ptr i5 0) [pv16, pv17] _) u16
   have h70 := u16.box h65 ap7
   refine Opl.one (v := .lit (.int .i64 (x6b1_1.length : Int))) rfl rfl rfl (Opl.nil ?_)
   obtain rfl := Option.some.inj H
   refine Evr.ret_ct (v0 := .agg [pv16, pv17]) Try.func30 rfl h69 rfl T42 rfl ?_
   show Out _ (.tup [.agg [pv16, pv17], .lit (.int .i64 (x6b1_1.length : Int))]) _
   exact .tup2 (.agg2 (.sl h67) (.sl h68)) .lit
  rw [if_pos c9] at H
  have e6 : (!r4.2) = false := by simpa using c9
  try rw [e6]
  refine Evr.condF rfl (Evr.skip (Evr.sr rfl (Opl.p1 (v := .ptr i6 0) (n := Opl.ldb (v := pv3) h20 rfl T30 rfl rfl rfl rfl (Opl.one (v := pv7) rfl rfl rfl (Opl.liti (M := (cSl (cInt .i64))) (ys := [r4.1]) [.tmp 53] K30 T27 rfl rfl rfl (by exact ⟨⟨_, by first | rfl | exact h29.cells, h29⟩, trivial⟩) rfl (by decide) rfl rfl ?_))))))
  rintro pv9 h30
  obtain ⟨c10, H⟩ := peel H
  obtain ⟨c11, H⟩ := peel H
  refine Opl.app (M := (cSl (cInt .i64))) (xs := x6b0_1) (ys := [r4.1]) (v := pv3) h21 (.sl h30) (oSl (cInt .i64)) rfl rfl K30 T27 rfl rfl (by (try simp only [List.length_cons, List.length_nil]); omega) (by show (_ + _) * 24 ≤ 140737488355328; (try simp only [List.length_cons, List.length_nil]); omega) rfl rfl rfl rfl rfl ?_
  rintro pv10 S h31 u7 w7
  have ap17 := w7.box h18
  have h32 := u7.box h18 ap8
  have ap18 := w7.box h19
  have h33 := u7.box h19 ap11
  have ap19 := w7.vec h22
  have h34 := u7.vec h22 ap14.symm
  have ap20 := w7.box h20
  have h35 := u7.box h20 ap15.symm
  refine Opl.p1 (v := .ptr i6 0) (n := Opl.stb (vs := [pv10]) h35 rfl (by exact Vec.cells h31) Z30 rfl (Nat.le_of_ble_eq_true rfl) (by simp only [List.all_cons, List.all_nil, Vec.one h31, Bool.and_true, Bool.true_and] <;> rfl) rfl rfl rfl ?_)
  rintro S (h36 : Box (.ptr i6 0) [pv10, pv4] _) u8
  have h37 := u8.box h32 ap10
  have h38 := u8.box h33 ap13
  have h39 := u8.vec h34 ap16
  have h40 := u8.vec h31 ap20.symm
  refine Opl.nil (Evr.regionN rfl (Opl.p1 (v := .ptr i6 1) (n := Opl.ldb (v := pv4) h36 rfl T27 rfl rfl rfl rfl (Opl.one (v := .lit (.int .i64 (rd l1 x26_1))) rfl rfl rfl (Opl.liti (M := (cInt .i64)) (ys := [(rd l1 x26_1)]) [.tmp 59] K27 T3 rfl rfl rfl (by exact ⟨rfl, trivial⟩) rfl (by decide) rfl rfl ?_)))))
  rintro pv12 h41
  refine Opl.app (M := (cInt .i64)) (xs := x6b1_1) (ys := [(rd l1 x26_1)]) (v := pv4) h39 (.sl h41) (oInt .i64) rfl rfl K27 T3 rfl rfl (by (try simp only [List.length_cons, List.length_nil]); omega) (by show (_ + _) * 8 ≤ 140737488355328; (try simp only [List.length_cons, List.length_nil]); omega) rfl rfl rfl rfl rfl ?_
  rintro pv13 S h42 u9 w9
  have ap21 := w9.box h37
  have h43 := u9.box h37 ap9
  have ap22 := w9.box h38
  have h44 := u9.box h38 ap12
  have ap23 := w9.box h36
  have h45 := u9.box h36 ap16.symm
  have ap24 := w9.vec h40
  have h46 := u9.vec h40 ap19.symm
  refine Opl.p1 (v := .ptr i6 1) (n := Opl.stb (vs := [pv13]) h45 rfl (by exact Vec.cells h42) Z27 rfl (Nat.le_of_ble_eq_true rfl) (by simp only [List.all_cons, List.all_nil, Vec.one h42, Bool.and_true, Bool.true_and] <;> rfl) rfl rfl rfl ?_)
  rintro S (h47 : Box (.ptr i6 0) [pv10, pv13] _) u10
  have h48 := u10.box h43 ap10
  have h49 := u10.box h44 ap13
  have h50 := u10.vec h46 ap20.symm
  have h51 := u10.vec h42 ap23.symm
  refine Opl.nil (Evr.inBlock (Evr.regionN rfl (Opl.add (k := .i64) (a := x26_1) (b := 1) K3 rfl rfl rfl rfl (Opl.one (v := .lit (.int .i64 (wrap64 (x26_1 + 1)))) rfl rfl rfl (Opl.nil ?_)))))
  exact ih1 _ (by omega) _ _ ⟨by omega, _, _, _, _, _, _, _, _, H, ⟨rfl, rfl, rfl, rfl, rfl, rfl, trivial⟩, h48, h49, h50, h51, h47, ap7, ap17, ap21, ap10, ap18, ap22, ap13, ap24, ap20.symm, ap23.symm⟩
theorem impl_Replay.evo {k : Nat} {l0_0 : List IVar} {v0_0 : PV} (hv0_0 : Sl cIVar l0_0 v0_0) {l0_1 : List IRule} {v0_1 : PV} (hv0_1 : Sl cIRule l0_1 v0_1) {l1 : List Int} {v1 : PV} (hv1 : Sl (cInt .i64) l1 v1) {r : (List (List Int) × List Int) × Int} (H : impl_Replay.f k l0_0 l0_1 l1 = some r) : Ret Try.prog 30 [.agg [v0_0, v0_1], v1] fun v S => Own1 (oPr (oPr (oRow (oRow (oPl (cInt .i64) (oInt .i64)))) (oRow (oPl (cInt .i64) (oInt .i64)))) (oPl (cInt .i64) (oInt .i64))) r (aggTup 2) v S := by
 unfold impl_Replay.f at H
 refine Ret.intro Try.func30 rfl (Nat.le_of_ble_eq_true rfl) rfl ?_
 rw [tm2]
 refine Evr.sr rfl (Opl.box (cs := [v0_0, v0_1]) rfl rfl rfl rfl ?_)
 rintro i1 S h1 u1 w1
 refine Opl.alloc T42 rfl rfl rfl ?_
 rintro i2 S h2 u2 w2
 have ap1 := w2.box h1
 have h3 := u2.box h1 ap1
 refine Opl.p1 (n := Opl.nil (Evr.seq (Evr.sr rfl (Opl.ldb (v := .agg [v0_0, v0_1]) h3 rfl T26 rfl rfl rfl rfl ?_))))
 obtain ⟨r1, h_r1, H⟩ := Option.bind_eq_some_iff.1 H
 refine Opl.callc (impl_SystemValid.ev hv0_0 hv0_1 h_r1) rfl rfl rfl rfl ⟨(.aggL ⟨hv0_0.plain, hv0_1.plain, trivial⟩), trivial⟩ (by decide) (Opl.p1 (n := Opl.p1 (n := ?_)))
 by_cases c1 : r1 = true
 case neg =>
  rw [if_neg c1] at H
  have e10 : (!r1) = true := by simpa using c1
  try rw [e10]
  refine Opl.skp rfl (Opl.skp rfl (Opl.skp rfl (Opl.p1 (n := Opl.nil (Evr.condT rfl (Evr.sr rfl (Opl.p1 (v := .agg [.lit (.slice none 0 0), .lit (.slice none 0 0)]) (n := Opl.stb (vs := [.lit (.slice none 0 0), .lit (.slice none 0 0)]) h2 rfl rfl Z42 rfl (Nat.le_of_ble_eq_true rfl) rfl rfl rfl rfl ?_))))))))
  rintro S (h119 : Box (.ptr i2 0) [.lit (.slice none 0 0), .lit (.slice none 0 0)] _) u24
  have h120 := u24.box h3 ap1
  refine Opl.p1 (n := Opl.nil ?_)
  obtain rfl := Option.some.inj H
  refine Evr.ret_ct (v0 := .agg [.lit (.slice none 0 0), .lit (.slice none 0 0)]) Try.func30 rfl h119 rfl T42 rfl ?_
  show Own1 _ _ _ (.tup [.agg [.lit (.slice none 0 0), .lit (.slice none 0 0)], .lit (.int .i64 0)]) _
  exact ⟨[.lit (.slice none 0 0), .lit (.slice none 0 0), .lit (.int .i64 0)], _, rfl, [.lit (.slice none 0 0), .lit (.slice none 0 0)], [.lit (.int .i64 0)], _, [], rfl, rfl, (fun _ _ h => by cases h), ⟨[.lit (.slice none 0 0)], [.lit (.slice none 0 0)], _, _, rfl, rfl, (fun _ h => by cases h), oRow_nil, (.inl ⟨rfl, rfl, rfl⟩)⟩, rfl, rfl⟩
 rw [if_pos c1] at H
 have e1 : (!r1) = false := by simpa using c1
 try rw [e1]
 refine Opl.p1 (n := Opl.len (xs := l1) (by exact hv1) K27 rfl rfl rfl rfl (Opl.p1 (n := Opl.p1 (n := Opl.nil ?_))))
 by_cases c2 : (l1.length : Int) ≥ 500
 case pos =>
  rw [if_pos c2] at H
  have e2 : (decide ((l1.length : Int) ≥ 500)) = true := by simpa using c2
  try rw [e2]
  refine Evr.condT rfl (Evr.sr rfl (Opl.p1 (v := .agg [.lit (.slice none 0 0), .lit (.slice none 0 0)]) (n := Opl.stb (vs := [.lit (.slice none 0 0), .lit (.slice none 0 0)]) h2 rfl rfl Z42 rfl (Nat.le_of_ble_eq_true rfl) rfl rfl rfl rfl ?_)))
  rintro S (h4 : Box (.ptr i2 0) [.lit (.slice none 0 0), .lit (.slice none 0 0)] _) u3
  have h5 := u3.box h3 ap1
  refine Opl.p1 (n := Opl.nil ?_)
  obtain rfl := Option.some.inj H
  refine Evr.ret_ct (v0 := .agg [.lit (.slice none 0 0), .lit (.slice none 0 0)]) Try.func30 rfl h4 rfl T42 rfl ?_
  show Own1 _ _ _ (.tup [.agg [.lit (.slice none 0 0), .lit (.slice none 0 0)], .lit (.int .i64 0)]) _
  exact ⟨[.lit (.slice none 0 0), .lit (.slice none 0 0), .lit (.int .i64 0)], _, rfl, [.lit (.slice none 0 0), .lit (.slice none 0 0)], [.lit (.int .i64 0)], _, [], rfl, rfl, (fun _ _ h => by cases h), ⟨[.lit (.slice none 0 0)], [.lit (.slice none 0 0)], _, _, rfl, rfl, (fun _ h => by cases h), oRow_nil, (.inl ⟨rfl, rfl, rfl⟩)⟩, rfl, rfl⟩
 rw [if_neg c2] at H
 have e3 : (decide ((l1.length : Int) ≥ 500)) = false := by simpa using c2
 try rw [e3]
 refine Evr.condF rfl (Evr.skip (Evr.sr rfl (Opl.ldb (v := .agg [v0_0, v0_1]) h3 rfl T26 rfl rfl rfl rfl ?_)))
 obtain ⟨r2, h_r2, H⟩ := Option.bind_eq_some_iff.1 H
 refine Opl.calla (impl_first.ev hv0_0 hv0_1 h_r2) rfl rfl rfl rfl ⟨(.aggL ⟨hv0_0.plain, hv0_1.plain, trivial⟩), trivial⟩ rfl ?_
 rintro pv1 S h6 u4 w4
 have ap2 := w4.box h3
 have h7 := u4.box h3 ap2
 have ap3 := w4.box h2
 have h8 := u4.box h2 ap3
 refine Opl.litt (N := (oRow (oPl (cInt .i64) (oInt .i64)))) (ys := [r2]) (idy := pv1.id?.toList) [.tmp 21] K30 T27 rfl rfl rfl (fun x hx => by obtain rfl := List.mem_singleton.1 hx; exact (congrArg List.length (Vec.cells h6)).trans rfl) (by show RowsO _ _ _ _ (PV.cells pv1 ++ []); rw [(Vec.cells h6)]; exact RowsO.one (h6.tree (oInt .i64))) rfl rfl (Nat.le_of_ble_eq_true rfl) rfl rfl rfl ?_
 rintro pv3 S ids1 h9 f1 u5 w5
 have ap4 := w5.box h7
 have ap5 := f1.box ap2.apT h7
 have h10 := u5.box h7 ap4
 have ap6 := w5.box h8
 have ap7 := f1.box ap3.apT h8
 have h11 := u5.box h8 ap6
 refine Opl.one (v := .agg [pv3, .lit (.slice none 0 0)]) rfl rfl (by simp only [go_sem]; simp only [fillL, oRow_cells h9]; rfl) (Opl.alloc T42 rfl rfl rfl ?_)
 rintro i3 S h12 u6 w6
 have ap8 := w6.box h10
 have h13 := u6.box h10 ap8
 have ap9 := w6.box h11
 have h14 := u6.box h11 ap9
 have ap10 := w6.tree h9
 have h15 := u6.tree h9 ap10
 refine Opl.stb (vs := [pv3, .lit (.slice none 0 0)]) h12 rfl rfl Z42 rfl (Nat.le_of_ble_eq_true rfl) (by simp only [List.all_cons, List.all_nil, oRow_p1 h15, Bool.and_true, Bool.true_and] <;> rfl) rfl rfl rfl ?_
 rintro S (h16 : Box (.ptr i3 0) [pv3, .lit (.slice none 0 0)] _) u7
 have h17 := u7.box h13 ap8
 have h18 := u7.box h14 ap9
 have h19 := u7.tree h15 ap10
 refine Opl.nil (Evr.seq (Evr.sr rfl (Opl.p1 (n := Opl.len (xs := l1) (by exact hv1) K27 rfl rfl rfl rfl (Opl.p1 (n := Opl.nil (Evr.block (Evr.frzb 2 h17 rfl ?_))))))))
 rintro S u8
 have h20 := u8.box h18 ap1.symm
 have h21 := u8.tree h19 ap5
 have h22 := u8.box h16 ap8.symm
 refine Evr.loop (Evr.rounds (n := k) (Inv := fun n tm S => n ≤ k ∧ ∃ (x6b0_1 : List (List Int)) (x6b1_1 : List Int) (x26_1 : Int) (i4 : Abs.Id) (pv4 : PV) (ids2 : List Abs.Id) (pv5 : PV) (i5 : Abs.Id), impl_Replay.l1 n x6b0_1 x6b1_1 x26_1 l0_0 l0_1 l1 = some r ∧ Has tm [(2, .fel (v0_0 :: v0_1 :: [])), (4, .ptr i4 0), (6, .ptr i5 0), (24, v1), (25, .lit (.int .i64 (l1.length : Int))), (26, .lit (.int .i64 x26_1))] ∧ Box (.ptr i4 0) [.lit (.slice none 0 0), .lit (.slice none 0 0)] S ∧ (oRow (oRow (oPl (cInt .i64) (oInt .i64)))).R S ids2 x6b0_1 [pv4] ∧ Vec (cInt .i64) x6b1_1 pv5 S ∧ Box (.ptr i5 0) [pv4, pv5] S ∧ ApT (.ptr i4 0) ids2 ∧ Ap (.ptr i4 0) pv5 ∧ Ap (.ptr i4 0) (.ptr i5 0) ∧ ApT pv5 ids2 ∧ ApT (.ptr i5 0) ids2 ∧ Ap pv5 (.ptr i5 0)) ?_ ?_ ?_)
 · exact ⟨Nat.le_refl _, _, _, _, _, _, _, _, _, H, ⟨rfl, rfl, rfl, rfl, rfl, rfl, trivial⟩, h20, h21, .nil, h22, ap7, Ap.nil.symm, ap9, ApT.lit, ap10, .nil⟩
 ·
  rintro tm S ⟨_, _, _, _, _, _, _, _, _, H, -⟩
  simp [impl_Replay.l1] at H
 ·
  rintro n1 ih1 tm S ⟨hle, x6b0_1, x6b1_1, x26_1, i4, pv4, ids2, pv5, i5, H, hh, h23, h25, h26, h24, ap11, ap12, ap13, ap14, ap15, ap16⟩
  simp only [impl_Replay.l1] at H
  rw [hh.eq]
  refine Evr.sr rfl (Opl.p1 (n := Opl.nil (Evr.seq ?_)))
  by_cases c3 : x26_1 < (l1.length : Int)
  case neg =>
   rw [if_neg c3] at H
   have e9 : (decide (x26_1 < (l1.length : Int))) = false := by simpa using c3
   try rw [e9]
   refine Evr.condF rfl (Evr.exit rfl (Evr.seq (Evr.frzb 6 h24 rfl ?_)))
   rintro S u21
   have h103 := u21.box h23 ap13
   have h104 := u21.tree h25 ap15
   have h105 := u21.vec h26 ap16
   refine Evr.regionL [(2, .n), (5, .n), (1, .p), (4, .p), (8, .p)] rfl (by kernel_rfl) (Opl.p1 (v := .fel (pv4 :: pv5 :: [])) (n := Opl.ldp (pv4) rfl T30 rfl rfl rfl ?_))
   obtain ⟨r9, h_r9, H⟩ := Option.bind_eq_some_iff.1 H
   refine Opl.calls (impl_clone_Lint.evs h104 h_r9) rfl rfl rfl rfl rfl ?_
   rintro pv20 S ⟨ids7, h106, f7, g4⟩
   have ap55 := f7.box ap11 h103
   have h107 := g4.box h103
   have ap56 := f7.vec ap14 h105
   have h108 := g4.vec h105
   refine Opl.p1 (v := .fel (pv5 :: [])) (n := Opl.ldp (pv5) rfl T27 rfl rfl rfl ?_)
   obtain ⟨r10, h_r10, H⟩ := Option.bind_eq_some_iff.1 H
   obtain ⟨pv21, h109, -, h110⟩ := Out.vec h108
   refine Opl.callav (sInt .i64) (impl_clone_int.ev h110 h_r10) rfl rfl rfl (.cons h109 .nil) ⟨h110.plain, trivial⟩ rfl ?_
   rintro pv22 S h111 u22 w18
   have ap57 := w18.box h107
   have h112 := u22.box h107 ap57
   have ap58 := w18.vec h108
   have h113 := u22.vec h108 ap58
   have ap59 := w18.tree h106
   have h114 := u22.tree h106 ap59
   refine Opl.one (v := .agg [pv20, pv22]) rfl rfl (by simp only [go_sem]; simp only [fillL, oRow_cells h114, Vec.cells h111]; rfl) (Opl.p1 (v := .fel (pv5 :: [])) (n := Opl.ldp (pv5) rfl T27 rfl rfl rfl (Opl.lenv (xs := x6b1_1) (by exact h113) K27 rfl rfl rfl rfl (Opl.stb (vs := [pv20, pv22]) h112 rfl rfl Z42 rfl (Nat.le_of_ble_eq_true rfl) (by simp only [List.all_cons, List.all_nil, oRow_p1 h114, Vec.one h111, Bool.and_true, Bool.true_and] <;> rfl) rfl rfl rfl ?_))))
   rintro S (h115 : Box (.ptr i4 0) [pv20, pv22] _) u23
   have h116 := u23.vec h113 ap12.symm
   have h117 := u23.tree h114 ap55
   have h118 := u23.vec h111 ap57.symm
   refine Opl.p1 (n := Opl.nil ?_)
   obtain rfl := Option.some.inj H
   refine Evr.ret_ct (v0 := .agg [pv20, pv22]) Try.func30 rfl h115 rfl T42 rfl ?_
   show Own1 _ _ _ (.tup [.agg [pv20, pv22], .lit (.int .i64 (x6b1_1.length : Int))]) _
   exact ⟨[pv20, pv22, .lit (.int .i64 (x6b1_1.length : Int))], _, rfl, [pv20, pv22], [.lit (.int .i64 (x6b1_1.length : Int))], _, [], rfl, rfl, (fun _ _ h => by cases h), ⟨[pv20], [pv22], _, _, rfl, rfl, (apT_ap ap59), h117, (h118.tree (oInt .i64))⟩, rfl, rfl⟩
  rw [if_pos c3] at H
  have e4 : (decide (x26_1 < (l1.length : Int))) = true := by simpa using c3
  try rw [e4]
  refine Evr.condT rfl (Evr.skip (Evr.seq (Evr.block (Evr.sr rfl (Opl.p1 (n := ?_))))))
  obtain ⟨c4, H⟩ := peel H
  obtain ⟨c5, H⟩ := peel H
  refine Opl.idx (M := (cInt .i64)) (xs := l1) (j := x26_1) (0 : Int) (by exact hv1) rfl (by omega) (by omega) K27 Z3 rfl rfl ?_
  rintro p1 q1 h27
  obtain rfl : p1 = [.lit (.int .i64 (rd l1 x26_1))] := h27
  refine Opl.lda (.lit (.int .i64 (rd l1 x26_1))) rfl T3 rfl rfl rfl rfl (Opl.p1 (n := Opl.p1 (n := Opl.nil (Evr.seq (Evr.sr rfl (Opl.p1 (n := Opl.p1 (v := .fel (v0_1 :: [])) (n := Opl.lda (v0_1) rfl T24 rfl rfl rfl rfl (Opl.len (xs := l0_1) (by exact hv0_1) K24 rfl rfl rfl rfl (Opl.subi (k := .i64) (a := (l0_1.length : Int)) (b := 1) K3 rfl rfl rfl rfl ?_))))))))))
  obtain ⟨r3, h_r3, H⟩ := Option.bind_eq_some_iff.1 H
  refine Opl.callc (impl_in.ev h_r3) rfl rfl rfl rfl ⟨(.lit _), (.lit _), (.lit _), trivial⟩ (by decide) (Opl.p1 (n := Opl.nil ?_))
  by_cases c6 : r3 = true
  case neg =>
   rw [if_neg c6] at H
   have e8 : (!r3) = true := by simpa using c6
   try rw [e8]
   refine Evr.condT rfl (Evr.exit rfl (Evr.seq (Evr.frzb 6 h24 rfl ?_)))
   rintro S u18
   have h87 := u18.box h23 ap13
   have h88 := u18.tree h25 ap15
   have h89 := u18.vec h26 ap16
   refine Evr.regionL [(2, .n), (5, .n), (1, .p), (4, .p), (8, .p)] rfl (by kernel_rfl) (Opl.p1 (v := .fel (pv4 :: pv5 :: [])) (n := Opl.ldp (pv4) rfl T30 rfl rfl rfl ?_))
   obtain ⟨r7, h_r7, H⟩ := Option.bind_eq_some_iff.1 H
   refine Opl.calls (impl_clone_Lint.evs h88 h_r7) rfl rfl rfl rfl rfl ?_
   rintro pv17 S ⟨ids6, h90, f6, g3⟩
   have ap50 := f6.box ap11 h87
   have h91 := g3.box h87
   have ap51 := f6.vec ap14 h89
   have h92 := g3.vec h89
   refine Opl.p1 (v := .fel (pv5 :: [])) (n := Opl.ldp (pv5) rfl T27 rfl rfl rfl ?_)
   obtain ⟨r8, h_r8, H⟩ := Option.bind_eq_some_iff.1 H
   obtain ⟨pv18, h93, -, h94⟩ := Out.vec h92
   refine Opl.callav (sInt .i64) (impl_clone_int.ev h94 h_r8) rfl rfl rfl (.cons h93 .nil) ⟨h94.plain, trivial⟩ rfl ?_
   rintro pv19 S h95 u19 w16
   have ap52 := w16.box h91
   have h96 := u19.box h91 ap52
   have ap53 := w16.vec h92
   have h97 := u19.vec h92 ap53
   have ap54 := w16.tree h90
   have h98 := u19.tree h90 ap54
   refine Opl.one (v := .agg [pv17, pv19]) rfl rfl (by simp only [go_sem]; simp only [fillL, oRow_cells h98, Vec.cells h95]; rfl) (Opl.p1 (v := .fel (pv5 :: [])) (n := Opl.ldp (pv5) rfl T27 rfl rfl rfl (Opl.lenv (xs := x6b1_1) (by exact h97) K27 rfl rfl rfl rfl (Opl.stb (vs := [pv17, pv19]) h96 rfl rfl Z42 rfl (Nat.le_of_ble_eq_true rfl) (by simp only [List.all_cons, List.all_nil, oRow_p1 h98, Vec.one h95, Bool.and_true, Bool.true_and] <;> rfl) rfl rfl rfl ?_))))
   rintro S (h99 : Box (.ptr i4 0) [pv17, pv19] _) u20
   have h100 := u20.vec h97 ap12.symm
   have h101 := u20.tree h98 ap50
   have h102 := u20.vec h95 ap52.symm
   refine Opl.one (v := .lit (.int .i64 (x6b1_1.length : Int))) rfl rfl rfl (Opl.nil ?_)
   obtain rfl := Option.some.inj H
   refine Evr.ret_ct (v0 := .agg [pv17, pv19]) Try.func30 rfl h99 rfl T42 rfl ?_
   show Own1 _ _ _ (.tup [.agg [pv17, pv19], .lit (.int .i64 (x6b1_1.length : Int))]) _
   exact ⟨[pv17, pv19, .lit (.int .i64 (x6b1_1.length : Int))], _, rfl, [pv17, pv19], [.lit (.int .i64 (x6b1_1.length : Int))], _, [], rfl, rfl, (fun _ _ h => by cases h), ⟨[pv17], [pv19], _, _, rfl, rfl, (apT_ap ap54), h101, (h102.tree (oInt .i64))⟩, rfl, rfl⟩
  rw [if_pos c6] at H
  have e5 : (!r3) = false := by simpa using c6
  try rw [e5]
  refine Evr.condF rfl (Evr.skip (Evr.seq (Evr.regionL [(7, .n), (0, .p)] rfl (by kernel_rfl) (Opl.ldp (.agg [v0_0, v0_1]) rfl T26 rfl rfl rfl (Opl.p1 (v := .ptr i5 0) (n := Opl.ldb (v := pv4) h24 rfl T30 rfl rfl rfl rfl (Opl.one (v := .lit (.int .i64 x26_1)) rfl rfl rfl ?_)))))))
  obtain ⟨c7, H⟩ := peel H
  obtain ⟨c8, H⟩ := peel H
  refine Opl.idt (N := (oRow (oPl (cInt .i64) (oInt .i64)))) (xs := x6b0_1) (j := x26_1) (v := pv4) h25 rfl rfl (by omega) (by omega) K30 Z27 rfl rfl ?_
  rintro d1 h28
  have h29 := h25
  rw [h28] at h29
  refine Opl.ldt (N := (oRow (oPl (cInt .i64) (oInt .i64)))) (xs := x6b0_1) (j := x26_1) ([] : List Int) h29 (by omega) (by omega) rfl T27 rfl rfl rfl ?_
  rintro c9 q2 ij1 h30
  obtain ⟨pv6, rfl⟩ := oRow_one h30
  refine ⟨pv6, rfl, ?_⟩
  have h31 : Vec (cInt .i64) (rd_Lint x6b0_1 x26_1) pv6 S := (tree_vec h30).1
  refine Opl.one (v := .lit (.int .i64 (rd l1 x26_1))) rfl rfl rfl ?_
  obtain ⟨r4, h_r4, H⟩ := Option.bind_eq_some_iff.1 H
  obtain ⟨pv7, h32, -, h33⟩ := Out.vec h31
  refine Opl.callg2 (.pl (sInt .i64)) sBool (c0 := (.bool r4.2)) (fun _ h => h) (impl_use.evo hv0_0 hv0_1 h33 h_r4) rfl rfl rfl (.cons (.refl _) (.cons h32 (.cons (.refl _) .nil))) ⟨(.aggL ⟨hv0_0.plain, hv0_1.plain, trivial⟩), h33.plain, (.lit _), trivial⟩ rfl ?_
  rintro pv8 S ids_ ht_ f2 g1
  obtain ⟨h34, rfl⟩ := tree_vec ht_
  have ap17 := (f2.box h23).ap
  have h35 := g1.box h23
  have ap18 := (f2.tree h25).apT
  have h36 := g1.tree h25
  have ap19 := (f2.vec h26).ap
  have h37 := g1.vec h26
  have ap20 := (f2.box h24).ap
  have h38 := g1.box h24
  refine Opl.p1 (n := Opl.p1 (v := pv8) (n := Opl.p1 (v := .lit (.bool r4.2)) (n := Opl.one (v := pv8) rfl rfl rfl (Opl.one (v := .lit (.bool r4.2)) rfl rfl rfl (Opl.nil (Evr.seq (Evr.sr rfl (Opl.one (v := .lit (.bool r4.2)) rfl rfl rfl (Opl.p1 (n := Opl.nil ?_))))))))))
  by_cases c10 : r4.2 = true
  case neg =>
   rw [if_neg c10] at H
   have e7 : (!r4.2) = true := by simpa using c10
   try rw [e7]
   refine Evr.condT rfl (Evr.exit rfl (Evr.seq (Evr.frzb 6 h38 rfl ?_)))
   rintro S u15
   have h67 := u15.box h35 ap13
   have h68 := u15.tree h36 ap15
   have h69 := u15.vec h37 ap16
   have h70 := u15.vec h34 ap20.symm
   refine Evr.regionL [(2, .n), (5, .n), (1, .p), (4, .p), (8, .p)] rfl (by kernel_rfl) (Opl.p1 (v := .fel (pv4 :: pv5 :: [])) (n := Opl.ldp (pv4) rfl T30 rfl rfl rfl ?_))
   obtain ⟨r5, h_r5, H⟩ := Option.bind_eq_some_iff.1 H
   refine Opl.calls (impl_clone_Lint.evs h68 h_r5) rfl rfl rfl rfl rfl ?_
   rintro pv14 S ⟨ids5, h71, f5, g2⟩
   have ap43 := f5.box ap11 h67
   have h72 := g2.box h67
   have ap44 := f5.vec ap14 h69
   have h73 := g2.vec h69
   have ap45 := f5.vec ap18 h70
   have h74 := g2.vec h70
   refine Opl.p1 (v := .fel (pv5 :: [])) (n := Opl.ldp (pv5) rfl T27 rfl rfl rfl ?_)
   obtain ⟨r6, h_r6, H⟩ := Option.bind_eq_some_iff.1 H
   obtain ⟨pv15, h75, -, h76⟩ := Out.vec h73
   refine Opl.callav (sInt .i64) (impl_clone_int.ev h76 h_r6) rfl rfl rfl (.cons h75 .nil) ⟨h76.plain, trivial⟩ rfl ?_
   rintro pv16 S h77 u16 w14
   have ap46 := w14.box h72
   have h78 := u16.box h72 ap46
   have ap47 := w14.vec h73
   have h79 := u16.vec h73 ap47
   have ap48 := w14.vec h74
   have h80 := u16.vec h74 ap48
   have ap49 := w14.tree h71
   have h81 := u16.tree h71 ap49
   refine Opl.one (v := .agg [pv14, pv16]) rfl rfl (by simp only [go_sem]; simp only [fillL, oRow_cells h81, Vec.cells h77]; rfl) (Opl.p1 (v := .fel (pv5 :: [])) (n := Opl.ldp (pv5) rfl T27 rfl rfl rfl (Opl.lenv (xs := x6b1_1) (by exact h79) K27 rfl rfl rfl rfl (Opl.stb (vs := [pv14, pv16]) h78 rfl rfl Z42 rfl (Nat.le_of_ble_eq_true rfl) (by simp only [List.all_cons, List.all_nil, oRow_p1 h81, Vec.one h77, Bool.and_true, Bool.true_and] <;> rfl) rfl rfl rfl ?_))))
   rintro S (h82 : Box (.ptr i4 0) [pv14, pv16] _) u17
   have h83 := u17.vec h79 ap12.symm
   have h84 := u17.vec h80 ap17.symm
   have h85 := u17.tree h81 ap43
   have h86 := u17.vec h77 ap46.symm
   refine Opl.one (v := .lit (.int .i64 (x6b1_1.length : Int))) rfl rfl rfl (Opl.nil ?_)
   obtain rfl := Option.some.inj H
   refine Evr.ret_ct (v0 := .agg [pv14, pv16]) Try.func30 rfl h82 rfl T42 rfl ?_
   show Own1 _ _ _ (.tup [.agg [pv14, pv16], .lit (.int .i64 (x6b1_1.length : Int))]) _
   exact ⟨[pv14, pv16, .lit (.int .i64 (x6b1_1.length : Int))], _, rfl, [pv14, pv16], [.lit (.int .i64 (x6b1_1.length : Int))], _, [], rfl, rfl, (fun _ _ h => by cases h), ⟨[pv14], [pv16], _, _, rfl, rfl, (apT_ap ap49), h85, (h86.tree (oInt .i64))⟩, rfl, rfl⟩
  rw [if_pos c10] at H
  have e6 : (!r4.2) = false := by simpa using c10
  try rw [e6]
  refine Evr.condF rfl (Evr.skip (Evr.sr rfl (Opl.p1 (v := .ptr i5 0) (n := Opl.ldb (v := pv4) h38 rfl T30 rfl rfl rfl rfl (Opl.one (v := pv8) rfl rfl rfl (Opl.litt (N := (oRow (oPl (cInt .i64) (oInt .i64)))) (ys := [r4.1]) (idy := pv8.id?.toList) [.tmp 53] K30 T27 rfl rfl rfl (fun x hx => by obtain rfl := List.mem_singleton.1 hx; exact (congrArg List.length (Vec.cells h34)).trans rfl) (by show RowsO _ _ _ _ (PV.cells pv8 ++ []); rw [(Vec.cells h34)]; exact RowsO.one (h34.tree (oInt .i64))) rfl rfl (Nat.le_of_ble_eq_true rfl) rfl rfl rfl ?_))))))
  rintro pv10 S ids3 h39 f3 u9 w8
  have ap21 := w8.box h35
  have ap22 := f3.box ap17.apT h35
  have h40 := u9.box h35 ap21
  have ap23 := w8.tree h36
  have ap24 := f3.tree ap18.apt h36
  have h41 := u9.tree h36 ap23
  have ap25 := w8.vec h37
  have ap26 := f3.vec ap19.apT h37
  have h42 := u9.vec h37 ap25
  have ap27 := w8.box h38
  have ap28 := f3.box ap20.apT h38
  have h43 := u9.box h38 ap27
  obtain ⟨c11, H⟩ := peel H
  obtain ⟨c12, H⟩ := peel H
  refine Opl.appt (N := (oRow (oPl (cInt .i64) (oInt .i64)))) (xs := x6b0_1) (ys := [r4.1]) h41 h39 ap24 rfl rfl K30 T27 rfl rfl (by (try simp only [List.length_cons, List.length_nil]); omega) (by show (_ + _) * 24 ≤ 140737488355328; (try simp only [List.length_cons, List.length_nil]); omega) rfl rfl rfl rfl rfl ?_
  rintro pv11 S ids4 h44 f4 u10 w9
  have ap29 := Ap.of_tree h41 ap11
  have ap30 := f4.box (ap11.app ap22) h40
  have h45 := u10.box h40 ap29
  have ap31 := Ap.of_tree h41 ap14
  have ap32 := f4.vec (ap14.app ap26) h42
  have h46 := u10.vec h42 ap31
  have ap33 := Ap.of_tree h41 ap15
  have ap34 := f4.box (ap15.app ap28) h43
  have h47 := u10.box h43 ap33
  refine Opl.p1 (v := .ptr i5 0) (n := Opl.stb (vs := [pv11]) h47 rfl (by exact oRow_cells h44) Z30 rfl (Nat.le_of_ble_eq_true rfl) (by simp only [List.all_cons, List.all_nil, oRow_p1 h44, Bool.and_true, Bool.true_and] <;> rfl) rfl rfl rfl ?_)
  rintro S (h48 : Box (.ptr i5 0) [pv11, pv5] _) u11
  have h49 := u11.box h45 ap13
  have h50 := u11.vec h46 ap16
  have h51 := u11.tree h44 ap34
  refine Opl.nil (Evr.regionN rfl (Opl.p1 (v := .ptr i5 1) (n := Opl.ldb (v := pv5) h48 rfl T27 rfl rfl rfl rfl (Opl.one (v := .lit (.int .i64 (rd l1 x26_1))) rfl rfl rfl (Opl.lits (M := (cInt .i64)) (ys := [(rd l1 x26_1)]) [.tmp 59] K27 T3 rfl rfl rfl (by exact ⟨rfl, trivial⟩) rfl (by decide) rfl rfl rfl ?_)))))
  rintro pv12 S h52 u12 w11
  have ap35 := w11.box h49
  have h53 := u12.box h49 ap35
  have ap36 := w11.vec h50
  have h54 := u12.vec h50 ap36
  have ap37 := w11.box h48
  have h55 := u12.box h48 ap37
  have ap38 := w11.tree h51
  have h56 := u12.tree h51 ap38
  refine Opl.app (M := (cInt .i64)) (xs := x6b1_1) (ys := [(rd l1 x26_1)]) (v := pv5) h54 (.vec h52) (oInt .i64) rfl rfl K27 T3 rfl rfl (by (try simp only [List.length_cons, List.length_nil]); omega) (by show (_ + _) * 8 ≤ 140737488355328; (try simp only [List.length_cons, List.length_nil]); omega) rfl rfl rfl rfl rfl ?_
  rintro pv13 S h57 u13 w12
  have ap39 := w12.box h53
  have h58 := u13.box h53 ap12
  have ap40 := w12.box h55
  have h59 := u13.box h55 ap16.symm
  have ap41 := w12.tree h56
  have h60 := u13.tree h56 ap32
  have ap42 := w12.vec h52
  have h61 := u13.vec h52 ap36.symm
  refine Opl.p1 (v := .ptr i5 1) (n := Opl.stb (vs := [pv13]) h59 rfl (by exact Vec.cells h57) Z27 rfl (Nat.le_of_ble_eq_true rfl) (by simp only [List.all_cons, List.all_nil, Vec.one h57, Bool.and_true, Bool.true_and] <;> rfl) rfl rfl rfl ?_)
  rintro S (h62 : Box (.ptr i5 0) [pv11, pv13] _) u14
  have h63 := u14.box h58 ap13
  have h64 := u14.tree h60 ap34
  have h65 := u14.vec h61 ap37.symm
  have h66 := u14.vec h57 ap40.symm
  refine Opl.nil (Evr.inBlock (Evr.regionN rfl (Opl.add (k := .i64) (a := x26_1) (b := 1) K3 rfl rfl rfl rfl (Opl.one (v := .lit (.int .i64 (wrap64 (x26_1 + 1)))) rfl rfl rfl (Opl.nil ?_)))))
  exact ih1 _ (by omega) _ _ ⟨by omega, _, _, _, _, _, _, _, _, H, ⟨rfl, rfl, rfl, rfl, rfl, rfl, trivial⟩, h63, h64, h66, h62, ap30, ap39, ap13, ap41, ap34, ap40.symm⟩
end Go.Proofs.Ytpjmiaooogephaa.PA
end
