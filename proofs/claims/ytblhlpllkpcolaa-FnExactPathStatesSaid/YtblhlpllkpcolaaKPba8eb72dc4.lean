/- Walks of Go functions: each is shown to answer as the Lean function beside it tells, under the conditions that its theorem names. -/
import Derived.Test.YtblhlpllkpcolaaProg
import Derived.KernelRfl
import Derived.Below
import Derived.Deep.Draws
import Derived.Deep.AppendLies
import Derived.Maps.AppendAt
import Derived.OwnWalk
import Derived.Laws.BytesArg
import Derived.Laws.MakeOwn
import Derived.Laws.OwnMore
import Derived.Deep.OwnRows
import Derived.Tactics
import Derived.Lib.ConvBytes
import Derived.Laws.Slices
import Derived.WalkKit
import Derived.RowKit3
import Derived.Deep.LoopGhost
import Derived.Deep.QuietTactic
import Derived.BigQuiet
import Derived.WideLaws
import Derived.Deep.DeepCutAuto
import Derived.Deep.CutBlock
import Derived.Deep.RegionHeld3
import Derived.Laws.Rows
import Derived.Lib.AppendStr
import Derived.ArgAppend
import Derived.Laws.IdiomCopy
import Derived.OrdersHeld
import Derived.Laws.BitsLemmas
import Derived.RowKit
import Derived.Laws.StructEq
import Derived.Lib.SliceRun
import Derived.WalkSpells
import Derived.ChangeArms
import Derived.ChangeSlices
import Derived.Deep.Slices
import Derived.Attr
import Derived.Laws.Append
import Derived.Laws.AppendOwn
import Derived.Laws.Entries
import Derived.Calls
import Derived.Laws.Sem
import Derived.Test.YtblhlpllkpcolaaKW3a7431c9e6
import Derived.Test.YtblhlpllkpcolaaKD1629d436f8
section
namespace Go.Proofs.Ytblhlpllkpcolaa.PA
open Go Go.Abs Go.RowKit Go.Proofs Go.Proofs.YtblhlpllkpcolaaW.PrintWords Go.Proofs.YtblhlpllkpcolaaW.PrintLast Go.Proofs.YtblhlpllkpcolaaW.PrintMore
set_option maxRecDepth 100000
theorem K3 : tkAt Try.prog 3 = some (.int .i64) := by kernel_rfl
theorem Z3 : szAt Try.prog 3 = some 1 := by kernel_rfl
theorem T3 : tiOf Try.prog 3 = some ⟨(.int .i64), 1, 8, [.int .i64 0], []⟩ := by kernel_rfl
theorem K4 : tkAt Try.prog 4 = some .bool := by kernel_rfl
theorem Z4 : szAt Try.prog 4 = some 1 := by kernel_rfl
theorem T4 : tiOf Try.prog 4 = some ⟨.bool, 1, 1, [.bool false], []⟩ := by kernel_rfl
theorem K22 : tkAt Try.prog 22 = some (.slice 123) := by kernel_rfl
theorem Z22 : szAt Try.prog 22 = some 1 := by kernel_rfl
theorem T22 : tiOf Try.prog 22 = some ⟨(.slice 123), 1, 24, [.slice none 0 0], []⟩ := by kernel_rfl
theorem K23 : tkAt Try.prog 23 = some (.slice 121) := by kernel_rfl
theorem Z23 : szAt Try.prog 23 = some 1 := by kernel_rfl
theorem T23 : tiOf Try.prog 23 = some ⟨(.slice 121), 1, 24, [.slice none 0 0], []⟩ := by kernel_rfl
theorem K25 : tkAt Try.prog 25 = some .strct := by kernel_rfl
theorem Z25 : szAt Try.prog 25 = some 2 := by kernel_rfl
theorem T25 : tiOf Try.prog 25 = some ⟨.strct, 2, 48, [.slice none 0 0, .slice none 0 0], [⟨0, 1, (.slice 123)⟩, ⟨1, 1, (.slice 121)⟩]⟩ := by kernel_rfl
theorem K26 : tkAt Try.prog 26 = some (.slice 3) := by kernel_rfl
theorem Z26 : szAt Try.prog 26 = some 1 := by kernel_rfl
theorem T26 : tiOf Try.prog 26 = some ⟨(.slice 3), 1, 24, [.slice none 0 0], []⟩ := by kernel_rfl
theorem K29 : tkAt Try.prog 29 = some (.slice 97) := by kernel_rfl
theorem Z29 : szAt Try.prog 29 = some 1 := by kernel_rfl
theorem T29 : tiOf Try.prog 29 = some ⟨(.slice 97), 1, 24, [.slice none 0 0], []⟩ := by kernel_rfl
theorem K30 : tkAt Try.prog 30 = some (.slice 125) := by kernel_rfl
theorem Z30 : szAt Try.prog 30 = some 1 := by kernel_rfl
theorem T30 : tiOf Try.prog 30 = some ⟨(.slice 125), 1, 24, [.slice none 0 0], []⟩ := by kernel_rfl
theorem K32 : tkAt Try.prog 32 = some .strct := by kernel_rfl
theorem Z32 : szAt Try.prog 32 = some 2 := by kernel_rfl
theorem T32 : tiOf Try.prog 32 = some ⟨.strct, 2, 48, [.slice none 0 0, .slice none 0 0], [⟨0, 1, (.slice 97)⟩, ⟨1, 1, (.slice 125)⟩]⟩ := by kernel_rfl
theorem K38 : tkAt Try.prog 38 = some (.slice 26) := by kernel_rfl
theorem Z38 : szAt Try.prog 38 = some 1 := by kernel_rfl
theorem T38 : tiOf Try.prog 38 = some ⟨(.slice 26), 1, 24, [.slice none 0 0], []⟩ := by kernel_rfl
theorem K40 : tkAt Try.prog 40 = some .strct := by kernel_rfl
theorem Z40 : szAt Try.prog 40 = some 2 := by kernel_rfl
theorem T40 : tiOf Try.prog 40 = some ⟨.strct, 2, 48, [.slice none 0 0, .slice none 0 0], [⟨0, 1, (.slice 26)⟩, ⟨1, 1, (.slice 3)⟩]⟩ := by kernel_rfl
theorem K43 : tkAt Try.prog 43 = some .strct := by kernel_rfl
theorem Z43 : szAt Try.prog 43 = some 2 := by kernel_rfl
theorem T43 : tiOf Try.prog 43 = some ⟨.strct, 2, 48, [.slice none 0 0, .slice none 0 0], [⟨0, 1, (.slice 26)⟩, ⟨1, 1, (.slice 3)⟩]⟩ := by kernel_rfl
theorem K57 : tkAt Try.prog 57 = some (.slice 108) := by kernel_rfl
theorem Z57 : szAt Try.prog 57 = some 1 := by kernel_rfl
theorem T57 : tiOf Try.prog 57 = some ⟨(.slice 108), 1, 24, [.slice none 0 0], []⟩ := by kernel_rfl
theorem K60 : tkAt Try.prog 60 = some (.slice 106) := by kernel_rfl
theorem Z60 : szAt Try.prog 60 = some 1 := by kernel_rfl
theorem T60 : tiOf Try.prog 60 = some ⟨(.slice 106), 1, 24, [.slice none 0 0], []⟩ := by kernel_rfl
theorem K71 : tkAt Try.prog 71 = some (.slice 57) := by kernel_rfl
theorem Z71 : szAt Try.prog 71 = some 1 := by kernel_rfl
theorem T71 : tiOf Try.prog 71 = some ⟨(.slice 57), 1, 24, [.slice none 0 0], []⟩ := by kernel_rfl
theorem K74 : tkAt Try.prog 74 = some (.slice 60) := by kernel_rfl
theorem Z74 : szAt Try.prog 74 = some 1 := by kernel_rfl
theorem T74 : tiOf Try.prog 74 = some ⟨(.slice 60), 1, 24, [.slice none 0 0], []⟩ := by kernel_rfl
theorem K97 : tkAt Try.prog 97 = some .strct := by kernel_rfl
theorem Z97 : szAt Try.prog 97 = some 3 := by kernel_rfl
theorem T97 : tiOf Try.prog 97 = some ⟨.strct, 3, 24, [.int .i64 0, .int .i64 0, .int .i64 0], [⟨0, 1, (.int .i64)⟩, ⟨1, 1, (.int .i64)⟩, ⟨2, 1, (.int .i64)⟩]⟩ := by kernel_rfl
theorem K106 : tkAt Try.prog 106 = some .strct := by kernel_rfl
theorem Z106 : szAt Try.prog 106 = some 4 := by kernel_rfl
theorem T106 : tiOf Try.prog 106 = some ⟨.strct, 4, 32, [.int .i64 0, .int .i64 0, .int .i64 0, .int .i64 0], [⟨0, 1, (.int .i64)⟩, ⟨1, 1, (.int .i64)⟩, ⟨2, 1, (.int .i64)⟩, ⟨3, 1, (.int .i64)⟩]⟩ := by kernel_rfl
theorem K108 : tkAt Try.prog 108 = some .strct := by kernel_rfl
theorem Z108 : szAt Try.prog 108 = some 4 := by kernel_rfl
theorem T108 : tiOf Try.prog 108 = some ⟨.strct, 4, 32, [.int .i64 0, .int .i64 0, .int .i64 0, .int .i64 0], [⟨0, 1, (.int .i64)⟩, ⟨1, 1, (.int .i64)⟩, ⟨2, 1, (.int .i64)⟩, ⟨3, 1, (.int .i64)⟩]⟩ := by kernel_rfl
theorem K111 : tkAt Try.prog 111 = some (.slice 4) := by kernel_rfl
theorem Z111 : szAt Try.prog 111 = some 1 := by kernel_rfl
theorem T111 : tiOf Try.prog 111 = some ⟨(.slice 4), 1, 24, [.slice none 0 0], []⟩ := by kernel_rfl
theorem K121 : tkAt Try.prog 121 = some .strct := by kernel_rfl
theorem Z121 : szAt Try.prog 121 = some 3 := by kernel_rfl
theorem T121 : tiOf Try.prog 121 = some ⟨.strct, 3, 72, [.slice none 0 0, .slice none 0 0, .slice none 0 0], [⟨0, 1, (.slice 108)⟩, ⟨1, 1, (.slice 3)⟩, ⟨2, 1, (.slice 57)⟩]⟩ := by kernel_rfl
theorem K123 : tkAt Try.prog 123 = some .strct := by kernel_rfl
theorem Z123 : szAt Try.prog 123 = some 3 := by kernel_rfl
theorem T123 : tiOf Try.prog 123 = some ⟨.strct, 3, 24, [.int .i64 0, .int .i64 0, .int .i64 0], [⟨0, 1, (.int .i64)⟩, ⟨1, 1, (.int .i64)⟩, ⟨2, 1, (.int .i64)⟩]⟩ := by kernel_rfl
theorem K125 : tkAt Try.prog 125 = some .strct := by kernel_rfl
theorem Z125 : szAt Try.prog 125 = some 3 := by kernel_rfl
theorem T125 : tiOf Try.prog 125 = some ⟨.strct, 3, 72, [.slice none 0 0, .slice none 0 0, .slice none 0 0], [⟨0, 1, (.slice 106)⟩, ⟨1, 1, (.slice 3)⟩, ⟨2, 1, (.slice 60)⟩]⟩ := by kernel_rfl
theorem K130 : tkAt Try.prog 130 = some .func := by kernel_rfl
theorem Z130 : szAt Try.prog 130 = some 1 := by kernel_rfl
theorem T130 : tiOf Try.prog 130 = some ⟨.func, 1, 8, [.nilFunc], []⟩ := by kernel_rfl
theorem K135 : tkAt Try.prog 135 = some .func := by kernel_rfl
theorem Z135 : szAt Try.prog 135 = some 1 := by kernel_rfl
theorem T135 : tiOf Try.prog 135 = some ⟨.func, 1, 8, [.nilFunc], []⟩ := by kernel_rfl
theorem K143 : tkAt Try.prog 143 = some .func := by kernel_rfl
theorem Z143 : szAt Try.prog 143 = some 1 := by kernel_rfl
theorem T143 : tiOf Try.prog 143 = some ⟨.func, 1, 8, [.nilFunc], []⟩ := by kernel_rfl
theorem K147 : tkAt Try.prog 147 = some .func := by kernel_rfl
theorem Z147 : szAt Try.prog 147 = some 1 := by kernel_rfl
theorem T147 : tiOf Try.prog 147 = some ⟨.func, 1, 8, [.nilFunc], []⟩ := by kernel_rfl
def cLVar : Cd LVar := cIso (cPair (cInt .i64) (cPair (cInt .i64) (cInt .i64))) (fun x => (x.f0, x.f1, x.f2))
theorem cLVar_R {x : LVar} {c : List PV} (h : cLVar.R x c) : c = [.lit (.int .i64 x.f0), .lit (.int .i64 x.f1), .lit (.int .i64 x.f2)] := by
  obtain ⟨p0, q0, e0, g0, r0⟩ := h
  obtain ⟨p1, q1, e1, g1, r1⟩ := r0
  have g0' : p0 = _ := g0
  have g1' : p1 = _ := g1
  have g2' : q1 = _ := r1
  rw [e0, g0', e1, g1', g2']; rfl
def cLTerm : Cd LTerm := cIso (cPair (cInt .i64) (cPair (cInt .i64) (cPair (cInt .i64) (cInt .i64)))) (fun x => (x.f0, x.f1, x.f2, x.f3))
theorem cLTerm_R {x : LTerm} {c : List PV} (h : cLTerm.R x c) : c = [.lit (.int .i64 x.f0), .lit (.int .i64 x.f1), .lit (.int .i64 x.f2), .lit (.int .i64 x.f3)] := by
  obtain ⟨p0, q0, e0, g0, r0⟩ := h
  obtain ⟨p1, q1, e1, g1, r1⟩ := r0
  obtain ⟨p2, q2, e2, g2, r2⟩ := r1
  have g0' : p0 = _ := g0
  have g1' : p1 = _ := g1
  have g2' : p2 = _ := g2
  have g3' : q2 = _ := r2
  rw [e0, g0', e1, g1', e2, g2', g3']; rfl
def cLRule : Cd LRule := cIso (cPair (cSl cLTerm) (cPair (cSl (cInt .i64)) (cSl (cSl cLTerm)))) (fun x => (x.f0, x.f1, x.f2))
theorem cLRule_R {x : LRule} {c : List PV} (h : cLRule.R x c) : ∃ v0 v1 v2, c = [v0, v1, v2] ∧ Sl cLTerm x.f0 v0 ∧ Sl (cInt .i64) x.f1 v1 ∧ Sl (cSl cLTerm) x.f2 v2 := by
  obtain ⟨p0, q0, e0, g0, r0⟩ := h
  obtain ⟨p1, q1, e1, g1, r1⟩ := r0
  obtain ⟨v0, g0', s0⟩ := g0
  obtain ⟨v1, g1', s1⟩ := g1
  obtain ⟨v2, g2', s2⟩ := r1
  exact ⟨v0, v1, v2, by rw [e0, g0', e1, g1', g2']; rfl, s0, s1, s2⟩
def cLSystem : Cd LSystem := cIso (cPair (cSl cLVar) (cSl cLRule)) (fun x => (x.f0, x.f1))
theorem cLSystem_R {x : LSystem} {c : List PV} (h : cLSystem.R x c) : ∃ v0 v1, c = [v0, v1] ∧ Sl cLVar x.f0 v0 ∧ Sl cLRule x.f1 v1 := by
  obtain ⟨p0, q0, e0, g0, r0⟩ := h
  obtain ⟨v0, g0', s0⟩ := g0
  obtain ⟨v1, g1', s1⟩ := r0
  exact ⟨v0, v1, by rw [e0, g0', g1']; rfl, s0, s1⟩
def cIVar : Cd IVar := cIso (cPair (cInt .i64) (cPair (cInt .i64) (cInt .i64))) (fun x => (x.f0, x.f1, x.f2))
theorem oIVar : cIVar.Ones := oIso (oPair (oInt .i64) (oPair (oInt .i64) (oInt .i64)))
theorem cIVar_R {x : IVar} {c : List PV} (h : cIVar.R x c) : c = [.lit (.int .i64 x.f0), .lit (.int .i64 x.f1), .lit (.int .i64 x.f2)] := by
  obtain ⟨p0, q0, e0, g0, r0⟩ := h
  obtain ⟨p1, q1, e1, g1, r1⟩ := r0
  have g0' : p0 = _ := g0
  have g1' : p1 = _ := g1
  have g2' : q1 = _ := r1
  rw [e0, g0', e1, g1', g2']; rfl
theorem cIVar_mk {a0 : Int} {a1 : Int} {a2 : Int}  : cIVar.R ⟨a0, a1, a2⟩ [.lit (.int .i64 a0), .lit (.int .i64 a1), .lit (.int .i64 a2)] := ⟨_, _, rfl, rfl, ⟨_, _, rfl, rfl, rfl⟩⟩
theorem cIVar_z : cIVar.R zIVar (([.int .i64 0, .int .i64 0, .int .i64 0] : List Value).map .lit) := ⟨_, _, rfl, rfl, ⟨_, _, rfl, rfl, rfl⟩⟩
def cITerm : Cd ITerm := cIso (cPair (cInt .i64) (cPair (cInt .i64) (cPair (cInt .i64) (cInt .i64)))) (fun x => (x.f0, x.f1, x.f2, x.f3))
theorem oITerm : cITerm.Ones := oIso (oPair (oInt .i64) (oPair (oInt .i64) (oPair (oInt .i64) (oInt .i64))))
theorem cITerm_R {x : ITerm} {c : List PV} (h : cITerm.R x c) : c = [.lit (.int .i64 x.f0), .lit (.int .i64 x.f1), .lit (.int .i64 x.f2), .lit (.int .i64 x.f3)] := by
  obtain ⟨p0, q0, e0, g0, r0⟩ := h
  obtain ⟨p1, q1, e1, g1, r1⟩ := r0
  obtain ⟨p2, q2, e2, g2, r2⟩ := r1
  have g0' : p0 = _ := g0
  have g1' : p1 = _ := g1
  have g2' : p2 = _ := g2
  have g3' : q2 = _ := r2
  rw [e0, g0', e1, g1', e2, g2', g3']; rfl
theorem cITerm_mk {a0 : Int} {a1 : Int} {a2 : Int} {a3 : Int}  : cITerm.R ⟨a0, a1, a2, a3⟩ [.lit (.int .i64 a0), .lit (.int .i64 a1), .lit (.int .i64 a2), .lit (.int .i64 a3)] := ⟨_, _, rfl, rfl, ⟨_, _, rfl, rfl, ⟨_, _, rfl, rfl, rfl⟩⟩⟩
theorem cITerm_z : cITerm.R zITerm (([.int .i64 0, .int .i64 0, .int .i64 0, .int .i64 0] : List Value).map .lit) := ⟨_, _, rfl, rfl, ⟨_, _, rfl, rfl, ⟨_, _, rfl, rfl, rfl⟩⟩⟩
def cIRule : Cd IRule := cIso (cPair (cSl cITerm) (cPair (cSl (cInt .i64)) (cSl (cSl cITerm)))) (fun x => (x.f0, x.f1, x.f2))
theorem cIRule_R {x : IRule} {c : List PV} (h : cIRule.R x c) : ∃ v0 v1 v2, c = [v0, v1, v2] ∧ Sl cITerm x.f0 v0 ∧ Sl (cInt .i64) x.f1 v1 ∧ Sl (cSl cITerm) x.f2 v2 := by
  obtain ⟨p0, q0, e0, g0, r0⟩ := h
  obtain ⟨p1, q1, e1, g1, r1⟩ := r0
  obtain ⟨v0, g0', s0⟩ := g0
  obtain ⟨v1, g1', s1⟩ := g1
  obtain ⟨v2, g2', s2⟩ := r1
  exact ⟨v0, v1, v2, by rw [e0, g0', e1, g1', g2']; rfl, s0, s1, s2⟩
theorem cIRule_mk  {l0 : List ITerm} {v0 : PV} (h0 : Sl cITerm l0 v0) {l1 : List Int} {v1 : PV} (h1 : Sl (cInt .i64) l1 v1) {l2 : List (List ITerm)} {v2 : PV} (h2 : Sl (cSl cITerm) l2 v2) : cIRule.R ⟨l0, l1, l2⟩ [v0, v1, v2] := ⟨_, _, rfl, ⟨_, rfl, h0⟩, ⟨_, _, rfl, ⟨_, rfl, h1⟩, ⟨_, rfl, h2⟩⟩⟩
theorem cIRule_z : cIRule.R zIRule (([.slice none 0 0, .slice none 0 0, .slice none 0 0] : List Value).map .lit) := ⟨_, _, rfl, ⟨_, rfl, .nil⟩, ⟨_, _, rfl, ⟨_, rfl, .nil⟩, ⟨_, rfl, .nil⟩⟩⟩
attribute [go_sem] K3 Z3 T3 K4 Z4 T4 K22 Z22 T22 K23 Z23 T23 K25 Z25 T25 K26 Z26 T26 K29 Z29 T29 K30 Z30 T30 K32 Z32 T32 K38 Z38 T38 K40 Z40 T40 K43 Z43 T43 K57 Z57 T57 K60 Z60 T60 K71 Z71 T71 K74 Z74 T74 K97 Z97 T97 K106 Z106 T106 K108 Z108 T108 K111 Z111 T111 K121 Z121 T121 K123 Z123 T123 K125 Z125 T125 K130 Z130 T130 K135 Z135 T135 K143 Z143 T143 K147 Z147 T147
end Go.Proofs.Ytblhlpllkpcolaa.PA
end
section
namespace Go.Proofs.Ytblhlpllkpcolaa.PA
open Go Go.Abs Go.RowKit
def owIRule : Od IRule := oIs (oPr (oRow (oPl cITerm oITerm)) (oPr (oRow (oPl (cInt .i64) (oInt .i64))) (oRow (oRow (oPl cITerm oITerm))))) (fun x => (x.f0, x.f1, x.f2))
theorem owIRule_z (S : Sto) : owIRule.R S [] zIRule (([.slice none 0 0, .slice none 0 0, .slice none 0 0] : List Value).map .lit) := ⟨[.lit (.slice none 0 0)], [.lit (.slice none 0 0), .lit (.slice none 0 0)], [], [], rfl, rfl, .nil, .inl ⟨rfl, rfl, rfl⟩, ⟨[.lit (.slice none 0 0)], [.lit (.slice none 0 0)], [], [], rfl, rfl, .nil, .inl ⟨rfl, rfl, rfl⟩, .inl ⟨rfl, rfl, rfl⟩⟩⟩
end Go.Proofs.Ytblhlpllkpcolaa.PA
end
section
namespace Go.Proofs.Ytblhlpllkpcolaa.PA
open Go Go.Abs Go.RowKit Go.Proofs Go.Proofs.YtblhlpllkpcolaaW.PrintWords Go.Proofs.YtblhlpllkpcolaaW.PrintLast Go.Proofs.YtblhlpllkpcolaaW.PrintMore
set_option maxRecDepth 100000
set_option maxHeartbeats 4000000
set_option linter.unusedVariables false
set_option linter.unusedSimpArgs false
theorem impl_bitsFor.ev {k : Nat} {a0 : Int} {r : Int} (H : impl_bitsFor.f k a0 = some r) : Ret Try.prog 173 [.lit (.int .i64 a0)] fun v S => v = .lit (.int .i64 r) := by
 unfold impl_bitsFor.f at H
 refine Ret.intro Try.func173 rfl (Nat.le_of_ble_eq_true rfl) rfl ?_
 rw [tm1]
 refine Evr.seq (Evr.regionN rfl (Opl.one rfl rfl (by simp only [go_sem]; rfl) (Opl.nil (Evr.seq (Evr.regionN rfl (Opl.one rfl rfl (by simp only [go_sem]; rfl) (Opl.nil (Evr.seq (Evr.block ?_)))))))))
 refine Evr.loop (Evr.rounds (n := k) (Inv := fun n tm S => n ≤ k ∧ ∃ (x3_1 : Int), impl_bitsFor.l0 n a0 x3_1 = some r ∧ Has tm [(0, .lit (.int .i64 a0)), (3, .lit (.int .i64 x3_1))]) ?_ ?_ ?_)
 · exact ⟨Nat.le_refl _, _, H, ⟨rfl, rfl, trivial⟩⟩
 ·
  rintro tm S ⟨_, _, H, -⟩
  simp [impl_bitsFor.l0] at H
 ·
  rintro n1 ih1 tm S ⟨hle, x3_1, H, hh⟩
  simp only [impl_bitsFor.l0] at H
  rw [hh.eq]
  refine Evr.seq (Evr.seq (Evr.regionN rfl (Opl.one rfl rfl (by simp only [go_sem]; rfl) ?_)))
  obtain ⟨c1, H⟩ := peel H
  refine Opl.one (v := .lit (.int .i64 (shl .i64 1 x3_1))) rfl rfl (by simp only [go_sem]; rw [if_neg (by omega)]; simp only [shl, w64, IntKind.bits]; rfl) (Opl.one rfl rfl (by simp only [go_sem]; rfl) (Opl.one rfl rfl (by simp only [go_sem]; rfl) (Opl.nil ?_)))
  by_cases c2 : (shl .i64 1 x3_1) < a0
  case pos =>
   rw [if_pos c2] at H
   have e1 : (decide ((shl .i64 1 x3_1) < a0)) = true := by simpa using c2
   try rw [e1]
   refine Evr.condT rfl (Evr.skip (Evr.block (Evr.regionN rfl (Opl.one rfl rfl (by simp only [go_sem]; rfl) (Opl.one rfl rfl (by simp only [go_sem]; rfl) (Opl.one rfl rfl (by simp only [go_sem]; rfl) (Opl.nil (Evr.inBlock ?_))))))))
   exact ih1 _ (by omega) _ _ ⟨by omega, _, H, ⟨rfl, rfl, trivial⟩⟩
  rw [if_neg c2] at H
  have e2 : (decide ((shl .i64 1 x3_1) < a0)) = false := by simpa using c2
  try rw [e2]
  refine Evr.condF rfl (Evr.exit rfl (Evr.seq (Evr.regionN rfl (Opl.one rfl rfl (by simp only [go_sem]; rfl) (Opl.one rfl rfl (by simp only [go_sem]; rfl) (Opl.nil ?_))))))
  obtain rfl := Option.some.inj H
  refine Evr.ret1 Try.func173 rfl ?_
  show (.lit (.int .i64 x3_1) : PV) = _
  first | rfl | (simp only [go_sem]; rfl)
theorem impl_clone_int.ev {l0 : List Int} {v0 : PV} (hv0 : Sl (cInt .i64) l0 v0) {r : List Int} (H : impl_clone_int.f l0 = some r) : Ret Try.prog 119 [v0] fun v S => Vec (cInt .i64) r v S := by
 unfold impl_clone_int.f at H
 refine Ret.intro Try.func119 rfl (Nat.le_of_ble_eq_true rfl) rfl ?_
 rw [tm1]
 obtain ⟨c1, H⟩ := peel H
 obtain rfl := Option.some.inj H
 refine Evr.seq (Evr.regionN rfl (Opl.one rfl rfl (by simp only [go_sem]; rfl) (Opl.nil (Evr.seq (Evr.seq (Evr.regionN rfl (Opl.one rfl rfl (by simp only [go_sem]; rfl) (Opl.len (by exact hv0) K26 rfl rfl rfl rfl (Opl.one rfl rfl (by simp only [go_sem]; rfl) (Opl.nil ?_))))))))))
 by_cases c2 : (l0.length : Int) = 0
 · have e1 : ((l0.length : Int) == 0) = true := by simpa using c2
   try rw [e1]
   refine Evr.condT rfl (Evr.seq (Evr.regionN rfl (Opl.one rfl rfl (by simp only [go_sem]; rfl) (Opl.nil ?_))))
   obtain rfl : l0 = [] := List.eq_nil_of_length_eq_zero (by omega)
   refine Evr.ret1 Try.func119 rfl ?_
   exact .nil
 · have e1 : ((l0.length : Int) == 0) = false := by simpa using c2
   try rw [e1]
   refine Evr.condF rfl (Evr.skip (Evr.seq (Evr.regionN rfl (Opl.one rfl rfl (by simp only [go_sem]; rfl) (Opl.len (by exact hv0) K26 rfl rfl rfl rfl ?_)))))
   refine Opl.make (M := (cInt .i64)) (m := (l0.length : Int)) (0 : Int) (by exact rfl) rfl rfl K26 T3 rfl (by omega) (by show (_ : Nat) * 8 ≤ 281474976710656; omega) (by omega) rfl rfl rfl ?_
   rintro pv1 S h1 u1 w1
   refine Opl.one rfl rfl (by simp only [go_sem]; rfl) (Opl.nil (Evr.seq (Evr.regionN rfl (Opl.one rfl rfl (by simp only [go_sem]; rfl) (Opl.one rfl rfl (by simp only [go_sem]; rfl) ?_)))))
   refine Opl.copy (M := (cInt .i64)) (ys := l0) h1 (by exact hv0) (oInt .i64) rfl (by simp) (by simp; omega) K26 Z3 rfl rfl rfl rfl rfl ?_
   rintro S h2 u2
   refine Opl.nil (Evr.seq (Evr.regionN rfl (Opl.one rfl rfl (by simp only [go_sem]; rfl) (Opl.one rfl rfl (by simp only [go_sem]; rfl) (Opl.nil ?_)))))
   refine Evr.ret1 Try.func119 rfl ?_
   exact h2
theorem impl_bitsOf.ev {k : Nat} {l0_0 : List IVar} {v0_0 : PV} (hv0_0 : Sl cIVar l0_0 v0_0) {l0_1 : List IRule} {v0_1 : PV} (hv0_1 : Sl cIRule l0_1 v0_1) {r : (List Int)} (H : impl_bitsOf.f k l0_0 l0_1 = some r) : Ret Try.prog 147 [.agg [v0_0, v0_1]] fun v S => Vec (cInt .i64) r v S := by
 unfold impl_bitsOf.f at H
 refine Ret.intro Try.func147 rfl (Nat.le_of_ble_eq_true rfl) rfl ?_
 rw [tm1]
 refine Evr.seq (Evr.regionN rfl (Opl.box (cs := [v0_0, v0_1]) rfl rfl rfl rfl ?_))
 rintro i1 S h1 u1 w1
 refine Opl.one rfl rfl (by simp only [go_sem]; rfl) (Opl.nil (Evr.seq (Evr.regionN rfl (Opl.one rfl rfl (by simp only [go_sem]; rfl) (Opl.nil (Evr.seq (Evr.seq (Evr.regionN rfl (Opl.one (v := .ptr i1 0) rfl rfl (by simp only [go_sem]; rfl) (Opl.ldb (v := v0_0) h1 rfl T29 rfl rfl rfl rfl (Opl.len (by exact hv0_0) K29 rfl rfl rfl rfl (Opl.one rfl rfl (by simp only [go_sem]; rfl) (Opl.nil (Evr.block ?_))))))))))))))
 refine Evr.loop (Evr.rounds (n := k) (Inv := fun n tm S => n ≤ k ∧ ∃ (x3_1 : List Int) (x9_1 : Int) (pv1 : PV), impl_bitsOf.l0 n x3_1 l0_0 (l0_0.length : Int) x9_1 = some r ∧ Has tm [(3, pv1), (7, v0_0), (8, .lit (.int .i64 (l0_0.length : Int))), (9, .lit (.int .i64 x9_1))] ∧ Vec (cInt .i64) x3_1 pv1 S) ?_ ?_ ?_)
 · exact ⟨Nat.le_refl _, _, _, _, H, ⟨rfl, rfl, rfl, rfl, trivial⟩, .nil⟩
 ·
  rintro tm S ⟨_, _, _, _, H, -⟩
  simp [impl_bitsOf.l0] at H
 ·
  rintro n1 ih1 tm S ⟨hle, x3_1, x9_1, pv1, H, hh, h2⟩
  simp only [impl_bitsOf.l0] at H
  rw [hh.eq]
  refine Evr.seq (Evr.regionN rfl (Opl.one rfl rfl (by simp only [go_sem]; rfl) (Opl.nil (Evr.seq ?_))))
  by_cases c1 : x9_1 < (l0_0.length : Int)
  case neg =>
   rw [if_neg c1] at H
   have e2 : (decide (x9_1 < (l0_0.length : Int))) = false := by simpa using c1
   try rw [e2]
   refine Evr.condF rfl (Evr.exit rfl (Evr.seq (Evr.frz 3 h2 rfl ?_)))
   rintro pv4 S h14 u6
   refine Evr.regionN rfl (Opl.one rfl rfl (by simp only [go_sem]; rfl) ?_)
   obtain ⟨t760, h_t760, H⟩ := Option.bind_eq_some_iff.1 H
   refine Opl.calla (impl_clone_int.ev h14 h_t760) rfl rfl rfl rfl ⟨h14.plain, trivial⟩ rfl ?_
   rintro pv5 S h15 u7 w6
   refine Opl.one rfl rfl (by simp only [go_sem]; rfl) (Opl.nil ?_)
   obtain rfl := Option.some.inj H
   refine Evr.ret1 Try.func147 rfl ?_
   show Vec _ _ pv5 _
   exact h15
  rw [if_pos c1] at H
  have e1 : (decide (x9_1 < (l0_0.length : Int))) = true := by simpa using c1
  try rw [e1]
  refine Evr.condT rfl (Evr.skip (Evr.seq (Evr.block (Evr.seq (Evr.regionN rfl ?_)))))
  obtain ⟨c2, H⟩ := peel H
  obtain ⟨c3, H⟩ := peel H
  refine Opl.idx (M := cIVar) (j := x9_1) zIVar (by exact hv0_0) rfl (by omega) (by omega) K29 Z97 rfl rfl ?_
  rintro p1 q1 h3
  obtain rfl := cIVar_R (x := (rd_IVar l0_0 x9_1)) h3
  refine Opl.lda (.agg [.lit (.int .i64 ((rd_IVar l0_0 x9_1).f0)), .lit (.int .i64 ((rd_IVar l0_0 x9_1).f1)), .lit (.int .i64 ((rd_IVar l0_0 x9_1).f2))]) rfl T97 rfl rfl rfl rfl (Opl.alloc T97 rfl rfl rfl ?_)
  rintro i2 S h4 u2 w2
  have ap1 := w2.vec h2
  have h5 := u2.vec h2 ap1
  refine Opl.stb (vs := [.lit (.int .i64 ((rd_IVar l0_0 x9_1).f0)), .lit (.int .i64 ((rd_IVar l0_0 x9_1).f1)), .lit (.int .i64 ((rd_IVar l0_0 x9_1).f2))]) h4 rfl rfl Z97 rfl (Nat.le_of_ble_eq_true rfl) rfl rfl rfl rfl ?_
  rintro S (h6 : Box (.ptr i2 0) [.lit (.int .i64 ((rd_IVar l0_0 x9_1).f0)), .lit (.int .i64 ((rd_IVar l0_0 x9_1).f1)), .lit (.int .i64 ((rd_IVar l0_0 x9_1).f2))] _) u3
  have h7 := u3.vec h5 ap1
  refine Opl.nil (Evr.regionN rfl (Opl.one rfl rfl (by simp only [go_sem]; rfl) (Opl.one (v := .ptr i2 1) rfl rfl (by simp only [go_sem]; rfl) (Opl.ldb (v := .lit (.int .i64 ((rd_IVar l0_0 x9_1).f1))) h6 rfl T3 rfl rfl rfl rfl (Opl.one (v := .ptr i2 0) rfl rfl (by simp only [go_sem]; rfl) (Opl.ldb (v := .lit (.int .i64 ((rd_IVar l0_0 x9_1).f0))) h6 rfl T3 rfl rfl rfl rfl (Opl.one rfl rfl (by simp only [go_sem]; rfl) (Opl.one rfl rfl (by simp only [go_sem]; rfl) ?_))))))))
  obtain ⟨t756, h_t756, H⟩ := Option.bind_eq_some_iff.1 H
  refine Opl.callc (impl_bitsFor.ev h_t756) rfl rfl rfl rfl ⟨(.lit _), trivial⟩ (by decide) (Opl.lits (M := (cInt .i64)) (ys := [t756]) [.tmp 20] K26 T3 rfl rfl rfl (by exact ⟨rfl, trivial⟩) rfl (by decide) rfl rfl rfl ?_)
  rintro pv2 S h8 u4 w4
  have ap2 := w4.vec h7
  have h9 := u4.vec h7 ap2
  have ap3 := w4.box h6
  have h10 := u4.box h6 ap3
  obtain ⟨c4, H⟩ := peel H
  refine Opl.app (M := (cInt .i64)) (xs := x3_1) (ys := [t756]) (v := pv1) h9 (.vec h8) (oInt .i64) rfl rfl K26 T3 rfl rfl (by (try simp only [List.length_cons, List.length_nil]); omega) (by show (_ + _) * 8 ≤ 140737488355328; (try simp only [List.length_cons, List.length_nil]); omega) rfl rfl rfl rfl rfl ?_
  rintro pv3 S h11 u5 w5
  have ap4 := w5.box h10
  have h12 := u5.box h10 ap1.symm
  have ap5 := w5.vec h8
  have h13 := u5.vec h8 ap2.symm
  refine Opl.one rfl rfl (by simp only [go_sem]; rfl) (Opl.nil (Evr.inBlock (Evr.regionN rfl (Opl.one rfl rfl (by simp only [go_sem]; rfl) (Opl.one rfl rfl (by simp only [go_sem]; rfl) (Opl.nil ?_))))))
  exact ih1 _ (by omega) _ _ ⟨by omega, _, _, _, H, ⟨rfl, rfl, rfl, rfl, trivial⟩, h11⟩
theorem impl_bitCount.ev {k : Nat} {l0_0 : List IVar} {v0_0 : PV} (hv0_0 : Sl cIVar l0_0 v0_0) {l0_1 : List IRule} {v0_1 : PV} (hv0_1 : Sl cIRule l0_1 v0_1) {r : Int} (H : impl_bitCount.f k l0_0 l0_1 = some r) : Ret Try.prog 111 [.agg [v0_0, v0_1]] fun v S => v = .lit (.int .i64 r) := by
 unfold impl_bitCount.f at H
 refine Ret.intro Try.func111 rfl (Nat.le_of_ble_eq_true rfl) rfl ?_
 rw [tm1]
 refine Evr.seq (Evr.regionN rfl (Opl.box (cs := [v0_0, v0_1]) rfl rfl rfl rfl ?_))
 rintro i1 S h1 u1 w1
 refine Opl.one rfl rfl (by simp only [go_sem]; rfl) (Opl.nil (Evr.seq (Evr.regionN rfl (Opl.one rfl rfl (by simp only [go_sem]; rfl) (Opl.nil (Evr.seq (Evr.seq (Evr.regionN rfl (Opl.ldb (v := .agg [v0_0, v0_1]) h1 rfl T32 rfl rfl rfl rfl ?_)))))))))
 obtain ⟨t764, h_t764, H⟩ := Option.bind_eq_some_iff.1 H
 refine Opl.call ((impl_bitsOf.ev hv0_0 hv0_1 h_t764).mono fun _ _ h => Out.vec h) rfl rfl rfl rfl ⟨(.aggL ⟨hv0_0.plain, hv0_1.plain, trivial⟩), trivial⟩ (by decide) ?_
 rintro pv1 h2
 refine Opl.len (by exact h2) K26 rfl rfl rfl rfl (Opl.one rfl rfl (by simp only [go_sem]; rfl) (Opl.nil (Evr.block ?_)))
 refine Evr.loop (Evr.rounds (n := k) (Inv := fun n tm S => n ≤ k ∧ ∃ (x3_1 : Int) (x9_1 : Int), impl_bitCount.l0 n x3_1 t764 (t764.length : Int) x9_1 = some r ∧ Has tm [(3, .lit (.int .i64 x3_1)), (7, pv1), (8, .lit (.int .i64 (t764.length : Int))), (9, .lit (.int .i64 x9_1))]) ?_ ?_ ?_)
 · exact ⟨Nat.le_refl _, _, _, H, ⟨rfl, rfl, rfl, rfl, trivial⟩⟩
 ·
  rintro tm S ⟨_, _, _, H, -⟩
  simp [impl_bitCount.l0] at H
 ·
  rintro n1 ih1 tm S ⟨hle, x3_1, x9_1, H, hh⟩
  simp only [impl_bitCount.l0] at H
  rw [hh.eq]
  refine Evr.seq (Evr.regionN rfl (Opl.one rfl rfl (by simp only [go_sem]; rfl) (Opl.nil (Evr.seq ?_))))
  by_cases c1 : x9_1 < (t764.length : Int)
  case neg =>
   rw [if_neg c1] at H
   have e2 : (decide (x9_1 < (t764.length : Int))) = false := by simpa using c1
   try rw [e2]
   refine Evr.condF rfl (Evr.exit rfl (Evr.seq (Evr.regionN rfl (Opl.one rfl rfl (by simp only [go_sem]; rfl) (Opl.one rfl rfl (by simp only [go_sem]; rfl) (Opl.nil ?_))))))
   obtain rfl := Option.some.inj H
   refine Evr.ret1 Try.func111 rfl ?_
   show (.lit (.int .i64 x3_1) : PV) = _
   first | rfl | (simp only [go_sem]; rfl)
  rw [if_pos c1] at H
  have e1 : (decide (x9_1 < (t764.length : Int))) = true := by simpa using c1
  try rw [e1]
  refine Evr.condT rfl (Evr.skip (Evr.seq (Evr.block (Evr.seq (Evr.regionN rfl ?_)))))
  obtain ⟨c2, H⟩ := peel H
  obtain ⟨c3, H⟩ := peel H
  refine Opl.idx (M := (cInt .i64)) (j := x9_1) (0 : Int) (by exact h2) rfl (by omega) (by omega) K26 Z3 rfl rfl ?_
  rintro p1 q1 h3
  obtain rfl : p1 = [.lit (.int .i64 (rd t764 x9_1))] := h3
  refine Opl.lda (.lit (.int .i64 (rd t764 x9_1))) rfl T3 rfl rfl rfl rfl (Opl.one rfl rfl (by simp only [go_sem]; rfl) (Opl.nil (Evr.regionN rfl (Opl.one rfl rfl (by simp only [go_sem]; rfl) (Opl.one rfl rfl (by simp only [go_sem]; rfl) (Opl.one rfl rfl (by simp only [go_sem]; rfl) (Opl.one rfl rfl (by simp only [go_sem]; rfl) (Opl.nil (Evr.inBlock (Evr.regionN rfl (Opl.one rfl rfl (by simp only [go_sem]; rfl) (Opl.one rfl rfl (by simp only [go_sem]; rfl) (Opl.nil ?_)))))))))))))
  exact ih1 _ (by omega) _ _ ⟨by omega, _, _, H, ⟨rfl, rfl, rfl, rfl, trivial⟩⟩
theorem impl_in.ev {a0 : Int} {a1 : Int} {a2 : Int} {r : Bool} (H : impl_in.f a0 a1 a2 = some r) : Ret Try.prog 81 [.lit (.int .i64 a0), .lit (.int .i64 a1), .lit (.int .i64 a2)] fun v S => v = .lit (.bool r) := by
 unfold impl_in.f at H
 refine Ret.intro Try.func81 rfl (Nat.le_of_ble_eq_true rfl) rfl ?_
 rw [tm3]
 refine Evr.seq (Evr.regionN rfl (Opl.one rfl rfl (by simp only [go_sem]; rfl) (Opl.nil (Evr.seq (Evr.regionN rfl (Opl.one rfl rfl (by simp only [go_sem]; rfl) (Opl.one rfl rfl (by simp only [go_sem]; rfl) (Opl.one rfl rfl (by simp only [go_sem]; rfl) (Opl.one rfl rfl (by simp only [go_sem]; rfl) ?_)))))))))
 by_cases c1 : a0 ≥ a1
 case neg =>
  rw [if_neg c1] at H
  have e2 : (decide (a0 ≥ a1)) = false := by simpa using c1
  try rw [e2]
  refine Opl.skp rfl (Opl.skp rfl (Opl.skp rfl (Opl.one rfl rfl (by simp only [go_sem]; rfl) (Opl.one rfl rfl (by simp only [go_sem]; rfl) (Opl.nil ?_)))))
  obtain rfl := Option.some.inj H
  refine Evr.ret1 Try.func81 rfl ?_
  show (.lit (.bool false) : PV) = _
  first | rfl | (simp only [go_sem]; rfl)
 rw [if_pos c1] at H
 have e1 : (decide (a0 ≥ a1)) = true := by simpa using c1
 try rw [e1]
 refine Opl.one rfl rfl (by simp only [go_sem]; rfl) (Opl.one rfl rfl (by simp only [go_sem]; rfl) (Opl.one rfl rfl (by simp only [go_sem]; rfl) (Opl.one rfl rfl (by simp only [go_sem]; rfl) (Opl.one rfl rfl (by simp only [go_sem]; rfl) (Opl.nil ?_)))))
 obtain rfl := Option.some.inj H
 refine Evr.ret1 Try.func81 rfl ?_
 show (.lit (.bool (decide (a0 ≤ a2))) : PV) = _
 first | rfl | (simp only [go_sem]; rfl)
theorem impl_bitsValid_1.ev {a0 : Int} {r : Bool} (H : impl_bitsValid_1.f a0 = some r) : Ret Try.prog 162 [.lit (.int .i64 a0)] fun v S => v = .lit (.bool r) := by
 unfold impl_bitsValid_1.f at H
 refine Ret.intro Try.func162 rfl (Nat.le_of_ble_eq_true rfl) rfl ?_
 rw [tm1]
 refine Evr.seq (Evr.regionN rfl (Opl.one rfl rfl (by simp only [go_sem]; rfl) (Opl.nil (Evr.seq (Evr.regionN rfl (Opl.one rfl rfl (by simp only [go_sem]; rfl) ?_))))))
 obtain ⟨t768, h_t768, H⟩ := Option.bind_eq_some_iff.1 H
 refine Opl.callc (impl_in.ev h_t768) rfl rfl rfl rfl ⟨(.lit _), (.lit _), (.lit _), trivial⟩ (by decide) (Opl.one rfl rfl (by simp only [go_sem]; rfl) (Opl.one rfl rfl (by simp only [go_sem]; rfl) (Opl.nil ?_)))
 obtain rfl := Option.some.inj H
 refine Evr.ret1 Try.func162 rfl ?_
 show (.lit (.bool (!t768)) : PV) = _
 first | rfl | (simp only [go_sem]; rfl)
theorem slices_IndexFunc_at_impl_bitsValid_1.ev {k : Nat} {l0 : List Int} {v0 : PV} (hv0 : Sl (cInt .i64) l0 v0) {r : Int} (H : slices_IndexFunc_at_impl_bitsValid_1.f k l0 = some r) : Ret Try.prog 178 [v0, .lit (.func (.func 162) #[] #[])] fun v S => v = .lit (.int .i64 r) := by
 unfold slices_IndexFunc_at_impl_bitsValid_1.f at H
 refine Ret.intro Try.func178 rfl (Nat.le_of_ble_eq_true rfl) rfl ?_
 rw [tm2]
 refine Evr.seq (Evr.regionN rfl (Opl.one rfl rfl (by simp only [go_sem]; rfl) (Opl.nil (Evr.seq (Evr.seq (Evr.regionN rfl (Opl.one rfl rfl (by simp only [go_sem]; rfl) (Opl.len (by exact hv0) K26 rfl rfl rfl rfl (Opl.one rfl rfl (by simp only [go_sem]; rfl) (Opl.nil (Evr.block ?_)))))))))))
 refine Evr.loop (Evr.rounds (n := k) (Inv := fun n tm S => n ≤ k ∧ ∃ (x8_1 : Int), slices_IndexFunc_at_impl_bitsValid_1.l0 n l0 (l0.length : Int) x8_1 = some r ∧ Has tm [(0, v0), (1, .lit (.func (.func 162) #[] #[])), (7, .lit (.int .i64 (l0.length : Int))), (8, .lit (.int .i64 x8_1))]) ?_ ?_ ?_)
 · exact ⟨Nat.le_refl _, _, H, ⟨rfl, rfl, rfl, rfl, trivial⟩⟩
 ·
  rintro tm S ⟨_, _, H, -⟩
  simp [slices_IndexFunc_at_impl_bitsValid_1.l0] at H
 ·
  rintro n1 ih1 tm S ⟨hle, x8_1, H, hh⟩
  simp only [slices_IndexFunc_at_impl_bitsValid_1.l0] at H
  rw [hh.eq]
  refine Evr.seq (Evr.regionN rfl (Opl.one rfl rfl (by simp only [go_sem]; rfl) (Opl.nil (Evr.seq ?_))))
  by_cases c1 : x8_1 < (l0.length : Int)
  case neg =>
   rw [if_neg c1] at H
   have e2 : (decide (x8_1 < (l0.length : Int))) = false := by simpa using c1
   try rw [e2]
   refine Evr.condF rfl (Evr.exit rfl (Evr.seq (Evr.regionN rfl (Opl.one rfl rfl (by simp only [go_sem]; rfl) (Opl.nil ?_)))))
   obtain rfl := Option.some.inj H
   refine Evr.ret1 Try.func178 rfl ?_
   show (.lit (.int .i64 (-1)) : PV) = _
   first | rfl | (simp only [go_sem]; rfl)
  rw [if_pos c1] at H
  have e1 : (decide (x8_1 < (l0.length : Int))) = true := by simpa using c1
  try rw [e1]
  refine Evr.condT rfl (Evr.skip (Evr.seq (Evr.block (Evr.seq (Evr.regionN rfl (Opl.one rfl rfl (by simp only [go_sem]; rfl) (Opl.one rfl rfl (by simp only [go_sem]; rfl) (Opl.nil (Evr.seq (Evr.regionN rfl (Opl.one rfl rfl (by simp only [go_sem]; rfl) (Opl.one rfl rfl (by simp only [go_sem]; rfl) (Opl.one rfl rfl (by simp only [go_sem]; rfl) ?_)))))))))))))
  obtain ⟨c2, H⟩ := peel H
  obtain ⟨c3, H⟩ := peel H
  refine Opl.idx (M := (cInt .i64)) (j := x8_1) (0 : Int) (by exact hv0) rfl (by omega) (by omega) K26 Z3 rfl rfl ?_
  rintro p1 q1 h1
  obtain rfl : p1 = [.lit (.int .i64 (rd l0 x8_1))] := h1
  refine Opl.lda (.lit (.int .i64 (rd l0 x8_1))) rfl T3 rfl rfl rfl rfl ?_
  obtain ⟨t770, h_t770, H⟩ := Option.bind_eq_some_iff.1 H
  refine Opl.callc (impl_bitsValid_1.ev h_t770) rfl rfl rfl rfl ⟨(.lit _), trivial⟩ (by decide) (Opl.nil ?_)
  by_cases c4 : t770 = true
  case neg =>
   rw [if_neg c4] at H
   obtain rfl : t770 = false := by simpa using c4
   refine Evr.condF rfl (Evr.skip (Evr.inBlock (Evr.regionN rfl (Opl.one rfl rfl (by simp only [go_sem]; rfl) (Opl.one rfl rfl (by simp only [go_sem]; rfl) (Opl.nil ?_))))))
   exact ih1 _ (by omega) _ _ ⟨by omega, _, H, ⟨rfl, rfl, rfl, rfl, trivial⟩⟩
  rw [if_pos c4] at H
  obtain rfl : t770 = true := by simpa using c4
  refine Evr.condT rfl (Evr.seq (Evr.regionN rfl (Opl.one rfl rfl (by simp only [go_sem]; rfl) (Opl.one rfl rfl (by simp only [go_sem]; rfl) (Opl.nil ?_)))))
  obtain rfl := Option.some.inj H
  refine Evr.ret1 Try.func178 rfl ?_
  show (.lit (.int .i64 x8_1) : PV) = _
  first | rfl | (simp only [go_sem]; rfl)
theorem slices_ContainsFunc_at_impl_bitsValid_1.ev {k : Nat} {l0 : List Int} {v0 : PV} (hv0 : Sl (cInt .i64) l0 v0) {r : Bool} (H : slices_ContainsFunc_at_impl_bitsValid_1.f k l0 = some r) : Ret Try.prog 159 [v0, .lit (.func (.func 162) #[] #[])] fun v S => v = .lit (.bool r) := by
 unfold slices_ContainsFunc_at_impl_bitsValid_1.f at H
 refine Ret.intro Try.func159 rfl (Nat.le_of_ble_eq_true rfl) rfl ?_
 rw [tm2]
 refine Evr.seq (Evr.regionN rfl (Opl.one rfl rfl (by simp only [go_sem]; rfl) (Opl.nil (Evr.seq (Evr.regionN rfl (Opl.one rfl rfl (by simp only [go_sem]; rfl) (Opl.one rfl rfl (by simp only [go_sem]; rfl) ?_)))))))
 obtain ⟨t771, h_t771, H⟩ := Option.bind_eq_some_iff.1 H
 refine Opl.callc (slices_IndexFunc_at_impl_bitsValid_1.ev hv0 h_t771) rfl rfl rfl rfl ⟨hv0.plain, (.lit _), trivial⟩ (by decide) (Opl.one rfl rfl (by simp only [go_sem]; rfl) (Opl.one rfl rfl (by simp only [go_sem]; rfl) (Opl.nil ?_)))
 obtain rfl := Option.some.inj H
 refine Evr.ret1 Try.func159 rfl ?_
 show (.lit (.bool (decide (t771 ≥ 0))) : PV) = _
 first | rfl | (simp only [go_sem]; rfl)
theorem impl_bitsValid.ev {k : Nat} {l0 : List Int} {v0 : PV} (hv0 : Sl (cInt .i64) l0 v0) {r : Bool} (H : impl_bitsValid.f k l0 = some r) : Ret Try.prog 116 [v0] fun v S => v = .lit (.bool r) := by
 unfold impl_bitsValid.f at H
 refine Ret.intro Try.func116 rfl (Nat.le_of_ble_eq_true rfl) rfl ?_
 rw [tm1]
 refine Evr.seq (Evr.regionN rfl (Opl.one rfl rfl (by simp only [go_sem]; rfl) (Opl.nil (Evr.seq (Evr.regionN rfl (Opl.one rfl rfl (by simp only [go_sem]; rfl) ?_))))))
 obtain ⟨t772, h_t772, H⟩ := Option.bind_eq_some_iff.1 H
 refine Opl.callc (slices_ContainsFunc_at_impl_bitsValid_1.ev hv0 h_t772) rfl rfl rfl rfl ⟨hv0.plain, (.lit _), trivial⟩ (by decide) (Opl.one rfl rfl (by simp only [go_sem]; rfl) (Opl.one rfl rfl (by simp only [go_sem]; rfl) (Opl.nil ?_)))
 obtain rfl := Option.some.inj H
 refine Evr.ret1 Try.func116 rfl ?_
 show (.lit (.bool (!t772)) : PV) = _
 first | rfl | (simp only [go_sem]; rfl)
theorem impl_size.ev {k : Nat} {l0 : List IVar} {v0 : PV} (hv0 : Sl cIVar l0 v0) {r : Int} (H : impl_size.f k l0 = some r) : Ret Try.prog 140 [v0] fun v S => v = .lit (.int .i64 r) := by
 unfold impl_size.f at H
 refine Ret.intro Try.func140 rfl (Nat.le_of_ble_eq_true rfl) rfl ?_
 rw [tm1]
 refine Evr.seq (Evr.regionN rfl (Opl.one rfl rfl (by simp only [go_sem]; rfl) (Opl.nil (Evr.seq (Evr.regionN rfl (Opl.one rfl rfl (by simp only [go_sem]; rfl) (Opl.nil (Evr.seq (Evr.seq (Evr.regionN rfl (Opl.one rfl rfl (by simp only [go_sem]; rfl) (Opl.len (by exact hv0) K29 rfl rfl rfl rfl (Opl.one rfl rfl (by simp only [go_sem]; rfl) (Opl.nil (Evr.block ?_)))))))))))))))
 refine Evr.loop (Evr.rounds (n := k) (Inv := fun n tm S => n ≤ k ∧ ∃ (x3_1 : Int) (x8_1 : Int), impl_size.l0 n x3_1 l0 (l0.length : Int) x8_1 = some r ∧ Has tm [(3, .lit (.int .i64 x3_1)), (6, v0), (7, .lit (.int .i64 (l0.length : Int))), (8, .lit (.int .i64 x8_1))]) ?_ ?_ ?_)
 · exact ⟨Nat.le_refl _, _, _, H, ⟨rfl, rfl, rfl, rfl, trivial⟩⟩
 ·
  rintro tm S ⟨_, _, _, H, -⟩
  simp [impl_size.l0] at H
 ·
  rintro n1 ih1 tm S ⟨hle, x3_1, x8_1, H, hh⟩
  simp only [impl_size.l0] at H
  rw [hh.eq]
  refine Evr.seq (Evr.regionN rfl (Opl.one rfl rfl (by simp only [go_sem]; rfl) (Opl.nil (Evr.seq ?_))))
  by_cases c1 : x8_1 < (l0.length : Int)
  case neg =>
   rw [if_neg c1] at H
   have e2 : (decide (x8_1 < (l0.length : Int))) = false := by simpa using c1
   try rw [e2]
   refine Evr.condF rfl (Evr.exit rfl (Evr.seq (Evr.regionN rfl (Opl.one rfl rfl (by simp only [go_sem]; rfl) (Opl.one rfl rfl (by simp only [go_sem]; rfl) (Opl.nil ?_))))))
   obtain rfl := Option.some.inj H
   refine Evr.ret1 Try.func140 rfl ?_
   show (.lit (.int .i64 x3_1) : PV) = _
   first | rfl | (simp only [go_sem]; rfl)
  rw [if_pos c1] at H
  have e1 : (decide (x8_1 < (l0.length : Int))) = true := by simpa using c1
  try rw [e1]
  refine Evr.condT rfl (Evr.skip (Evr.seq (Evr.block (Evr.seq (Evr.regionN rfl ?_)))))
  obtain ⟨c2, H⟩ := peel H
  obtain ⟨c3, H⟩ := peel H
  refine Opl.idx (M := cIVar) (j := x8_1) zIVar (by exact hv0) rfl (by omega) (by omega) K29 Z97 rfl rfl ?_
  rintro p1 q1 h1
  obtain rfl := cIVar_R (x := (rd_IVar l0 x8_1)) h1
  refine Opl.lda (.agg [.lit (.int .i64 ((rd_IVar l0 x8_1).f0)), .lit (.int .i64 ((rd_IVar l0 x8_1).f1)), .lit (.int .i64 ((rd_IVar l0 x8_1).f2))]) rfl T97 rfl rfl rfl rfl (Opl.alloc T97 rfl rfl rfl ?_)
  rintro i1 S h2 u1 w1
  refine Opl.stb (vs := [.lit (.int .i64 ((rd_IVar l0 x8_1).f0)), .lit (.int .i64 ((rd_IVar l0 x8_1).f1)), .lit (.int .i64 ((rd_IVar l0 x8_1).f2))]) h2 rfl rfl Z97 rfl (Nat.le_of_ble_eq_true rfl) rfl rfl rfl rfl ?_
  rintro S (h3 : Box (.ptr i1 0) [.lit (.int .i64 ((rd_IVar l0 x8_1).f0)), .lit (.int .i64 ((rd_IVar l0 x8_1).f1)), .lit (.int .i64 ((rd_IVar l0 x8_1).f2))] _) u2
  refine Opl.nil (Evr.regionN rfl (Opl.one rfl rfl (by simp only [go_sem]; rfl) (Opl.one (v := .ptr i1 1) rfl rfl (by simp only [go_sem]; rfl) (Opl.ldb (v := .lit (.int .i64 ((rd_IVar l0 x8_1).f1))) h3 rfl T3 rfl rfl rfl rfl (Opl.one (v := .ptr i1 0) rfl rfl (by simp only [go_sem]; rfl) (Opl.ldb (v := .lit (.int .i64 ((rd_IVar l0 x8_1).f0))) h3 rfl T3 rfl rfl rfl rfl (Opl.one rfl rfl (by simp only [go_sem]; rfl) (Opl.one rfl rfl (by simp only [go_sem]; rfl) (Opl.one rfl rfl (by simp only [go_sem]; rfl) (Opl.one rfl rfl (by simp only [go_sem]; rfl) (Opl.nil (Evr.inBlock (Evr.regionN rfl (Opl.one rfl rfl (by simp only [go_sem]; rfl) (Opl.one rfl rfl (by simp only [go_sem]; rfl) (Opl.nil ?_))))))))))))))))
  exact ih1 _ (by omega) _ _ ⟨by omega, _, _, H, ⟨rfl, rfl, rfl, rfl, trivial⟩⟩
theorem impl_varOk.ev {a0_0 : Int} {a0_1 : Int} {a0_2 : Int} {r : Bool} (H : impl_varOk.f a0_0 a0_1 a0_2 = some r) : Ret Try.prog 139 [.agg [.lit (.int .i64 a0_0), .lit (.int .i64 a0_1), .lit (.int .i64 a0_2)]] fun v S => v = .lit (.bool r) := by
 unfold impl_varOk.f at H
 refine Ret.intro Try.func139 rfl (Nat.le_of_ble_eq_true rfl) rfl ?_
 rw [tm1]
 refine Evr.seq (Evr.regionN rfl (Opl.box (cs := [.lit (.int .i64 a0_0), .lit (.int .i64 a0_1), .lit (.int .i64 a0_2)]) rfl rfl rfl rfl ?_))
 rintro i1 S h1 u1 w1
 refine Opl.one rfl rfl (by simp only [go_sem]; rfl) (Opl.nil (Evr.seq (Evr.regionN rfl (Opl.one (v := .ptr i1 0) rfl rfl (by simp only [go_sem]; rfl) (Opl.ldb (v := .lit (.int .i64 a0_0)) h1 rfl T3 rfl rfl rfl rfl ?_)))))
 obtain ⟨t338, h_t338, H⟩ := Option.bind_eq_some_iff.1 H
 refine Opl.callc (impl_in.ev h_t338) rfl rfl rfl rfl ⟨(.lit _), (.lit _), (.lit _), trivial⟩ (by decide) (Opl.one rfl rfl (by simp only [go_sem]; rfl) ?_)
 by_cases c1 : t338 = true
 case neg =>
  rw [if_neg c1] at H
  obtain rfl : t338 = false := by simpa using c1
  refine Opl.skp rfl (Opl.skp rfl (Opl.skp rfl (Opl.skp rfl (Opl.skp rfl (Opl.one rfl rfl (by simp only [go_sem]; rfl) (Opl.one rfl rfl (by simp only [go_sem]; rfl) (Opl.skp rfl (Opl.skp rfl (Opl.skp rfl (Opl.skp rfl (Opl.skp rfl (Opl.skp rfl (Opl.one rfl rfl (by simp only [go_sem]; rfl) (Opl.one rfl rfl (by simp only [go_sem]; rfl) (Opl.skp rfl (Opl.skp rfl (Opl.skp rfl (Opl.skp rfl (Opl.skp rfl (Opl.skp rfl (Opl.skp rfl (Opl.one rfl rfl (by simp only [go_sem]; rfl) (Opl.one rfl rfl (by simp only [go_sem]; rfl) (Opl.nil ?_))))))))))))))))))))))))
  obtain rfl := Option.some.inj H
  refine Evr.ret1 Try.func139 rfl ?_
  show (.lit (.bool false) : PV) = _
  first | rfl | (simp only [go_sem]; rfl)
 rw [if_pos c1] at H
 obtain rfl : t338 = true := by simpa using c1
 refine Opl.one (v := .ptr i1 1) rfl rfl (by simp only [go_sem]; rfl) (Opl.ldb (v := .lit (.int .i64 a0_1)) h1 rfl T3 rfl rfl rfl rfl (Opl.one (v := .ptr i1 0) rfl rfl (by simp only [go_sem]; rfl) (Opl.ldb (v := .lit (.int .i64 a0_0)) h1 rfl T3 rfl rfl rfl rfl ?_)))
 obtain ⟨t339, h_t339, H⟩ := Option.bind_eq_some_iff.1 H
 refine Opl.callc (impl_in.ev h_t339) rfl rfl rfl rfl ⟨(.lit _), (.lit _), (.lit _), trivial⟩ (by decide) (Opl.one rfl rfl (by simp only [go_sem]; rfl) (Opl.one rfl rfl (by simp only [go_sem]; rfl) ?_))
 by_cases c2 : t339 = true
 case neg =>
  rw [if_neg c2] at H
  obtain rfl : t339 = false := by simpa using c2
  refine Opl.skp rfl (Opl.skp rfl (Opl.skp rfl (Opl.skp rfl (Opl.skp rfl (Opl.skp rfl (Opl.one rfl rfl (by simp only [go_sem]; rfl) (Opl.one rfl rfl (by simp only [go_sem]; rfl) (Opl.skp rfl (Opl.skp rfl (Opl.skp rfl (Opl.skp rfl (Opl.skp rfl (Opl.skp rfl (Opl.skp rfl (Opl.one rfl rfl (by simp only [go_sem]; rfl) (Opl.one rfl rfl (by simp only [go_sem]; rfl) (Opl.nil ?_)))))))))))))))))
  obtain rfl := Option.some.inj H
  refine Evr.ret1 Try.func139 rfl ?_
  show (.lit (.bool false) : PV) = _
  first | rfl | (simp only [go_sem]; rfl)
 rw [if_pos c2] at H
 obtain rfl : t339 = true := by simpa using c2
 refine Opl.one (v := .ptr i1 1) rfl rfl (by simp only [go_sem]; rfl) (Opl.ldb (v := .lit (.int .i64 a0_1)) h1 rfl T3 rfl rfl rfl rfl (Opl.one (v := .ptr i1 0) rfl rfl (by simp only [go_sem]; rfl) (Opl.ldb (v := .lit (.int .i64 a0_0)) h1 rfl T3 rfl rfl rfl rfl (Opl.one rfl rfl (by simp only [go_sem]; rfl) (Opl.one rfl rfl (by simp only [go_sem]; rfl) (Opl.one rfl rfl (by simp only [go_sem]; rfl) (Opl.one rfl rfl (by simp only [go_sem]; rfl) ?_)))))))
 by_cases c3 : (wrap64 (a0_1 - a0_0)) < 20
 case neg =>
  rw [if_neg c3] at H
  have e2 : (decide ((wrap64 (a0_1 - a0_0)) < 20)) = false := by simpa using c3
  try rw [e2]
  refine Opl.skp rfl (Opl.skp rfl (Opl.skp rfl (Opl.skp rfl (Opl.skp rfl (Opl.skp rfl (Opl.skp rfl (Opl.one rfl rfl (by simp only [go_sem]; rfl) (Opl.one rfl rfl (by simp only [go_sem]; rfl) (Opl.nil ?_)))))))))
  obtain rfl := Option.some.inj H
  refine Evr.ret1 Try.func139 rfl ?_
  show (.lit (.bool false) : PV) = _
  first | rfl | (simp only [go_sem]; rfl)
 rw [if_pos c3] at H
 have e1 : (decide ((wrap64 (a0_1 - a0_0)) < 20)) = true := by simpa using c3
 try rw [e1]
 refine Opl.one (v := .ptr i1 2) rfl rfl (by simp only [go_sem]; rfl) (Opl.ldb (v := .lit (.int .i64 a0_2)) h1 rfl T3 rfl rfl rfl rfl (Opl.one (v := .ptr i1 0) rfl rfl (by simp only [go_sem]; rfl) (Opl.ldb (v := .lit (.int .i64 a0_0)) h1 rfl T3 rfl rfl rfl rfl (Opl.one (v := .ptr i1 1) rfl rfl (by simp only [go_sem]; rfl) (Opl.ldb (v := .lit (.int .i64 a0_1)) h1 rfl T3 rfl rfl rfl rfl ?_)))))
 obtain ⟨t340, h_t340, H⟩ := Option.bind_eq_some_iff.1 H
 refine Opl.callc (impl_in.ev h_t340) rfl rfl rfl rfl ⟨(.lit _), (.lit _), (.lit _), trivial⟩ (by decide) (Opl.one rfl rfl (by simp only [go_sem]; rfl) (Opl.one rfl rfl (by simp only [go_sem]; rfl) (Opl.nil ?_)))
 obtain rfl := Option.some.inj H
 refine Evr.ret1 Try.func139 rfl ?_
 show (.lit (.bool t340) : PV) = _
 first | rfl | (simp only [go_sem]; rfl)
theorem impl_SystemValid_1.ev {a0_0 : Int} {a0_1 : Int} {a0_2 : Int} {r : Bool} (H : impl_SystemValid_1.f a0_0 a0_1 a0_2 = some r) : Ret Try.prog 138 [.agg [.lit (.int .i64 a0_0), .lit (.int .i64 a0_1), .lit (.int .i64 a0_2)]] fun v S => v = .lit (.bool r) := by
 unfold impl_SystemValid_1.f at H
 refine Ret.intro Try.func138 rfl (Nat.le_of_ble_eq_true rfl) rfl ?_
 rw [tm1]
 refine Evr.seq (Evr.regionN rfl (Opl.box (cs := [.lit (.int .i64 a0_0), .lit (.int .i64 a0_1), .lit (.int .i64 a0_2)]) rfl rfl rfl rfl ?_))
 rintro i1 S h1 u1 w1
 refine Opl.one rfl rfl (by simp only [go_sem]; rfl) (Opl.nil (Evr.seq (Evr.regionN rfl (Opl.ldb (v := .agg [.lit (.int .i64 a0_0), .lit (.int .i64 a0_1), .lit (.int .i64 a0_2)]) h1 rfl T97 rfl rfl rfl rfl ?_))))
 obtain ⟨t373, h_t373, H⟩ := Option.bind_eq_some_iff.1 H
 refine Opl.callc (impl_varOk.ev h_t373) rfl rfl rfl rfl ⟨(.aggL ⟨(.lit _), (.lit _), (.lit _), trivial⟩), trivial⟩ (by decide) (Opl.one rfl rfl (by simp only [go_sem]; rfl) (Opl.one rfl rfl (by simp only [go_sem]; rfl) (Opl.nil ?_)))
 obtain rfl := Option.some.inj H
 refine Evr.ret1 Try.func138 rfl ?_
 show (.lit (.bool (!t373)) : PV) = _
 first | rfl | (simp only [go_sem]; rfl)
theorem slices_IndexFunc_at_impl_SystemValid_1.ev {k : Nat} {l0 : List IVar} {v0 : PV} (hv0 : Sl cIVar l0 v0) {r : Int} (H : slices_IndexFunc_at_impl_SystemValid_1.f k l0 = some r) : Ret Try.prog 170 [v0, .lit (.func (.func 138) #[] #[])] fun v S => v = .lit (.int .i64 r) := by
 unfold slices_IndexFunc_at_impl_SystemValid_1.f at H
 refine Ret.intro Try.func170 rfl (Nat.le_of_ble_eq_true rfl) rfl ?_
 rw [tm2]
 refine Evr.seq (Evr.regionN rfl (Opl.one rfl rfl (by simp only [go_sem]; rfl) (Opl.nil (Evr.seq (Evr.seq (Evr.regionN rfl (Opl.one rfl rfl (by simp only [go_sem]; rfl) (Opl.len (by exact hv0) K29 rfl rfl rfl rfl (Opl.one rfl rfl (by simp only [go_sem]; rfl) (Opl.nil (Evr.block ?_)))))))))))
 refine Evr.loop (Evr.rounds (n := k) (Inv := fun n tm S => n ≤ k ∧ ∃ (x8_1 : Int), slices_IndexFunc_at_impl_SystemValid_1.l0 n l0 (l0.length : Int) x8_1 = some r ∧ Has tm [(0, v0), (1, .lit (.func (.func 138) #[] #[])), (7, .lit (.int .i64 (l0.length : Int))), (8, .lit (.int .i64 x8_1))]) ?_ ?_ ?_)
 · exact ⟨Nat.le_refl _, _, H, ⟨rfl, rfl, rfl, rfl, trivial⟩⟩
 ·
  rintro tm S ⟨_, _, H, -⟩
  simp [slices_IndexFunc_at_impl_SystemValid_1.l0] at H
 ·
  rintro n1 ih1 tm S ⟨hle, x8_1, H, hh⟩
  simp only [slices_IndexFunc_at_impl_SystemValid_1.l0] at H
  rw [hh.eq]
  refine Evr.seq (Evr.regionN rfl (Opl.one rfl rfl (by simp only [go_sem]; rfl) (Opl.nil (Evr.seq ?_))))
  by_cases c1 : x8_1 < (l0.length : Int)
  case neg =>
   rw [if_neg c1] at H
   have e2 : (decide (x8_1 < (l0.length : Int))) = false := by simpa using c1
   try rw [e2]
   refine Evr.condF rfl (Evr.exit rfl (Evr.seq (Evr.regionN rfl (Opl.one rfl rfl (by simp only [go_sem]; rfl) (Opl.nil ?_)))))
   obtain rfl := Option.some.inj H
   refine Evr.ret1 Try.func170 rfl ?_
   show (.lit (.int .i64 (-1)) : PV) = _
   first | rfl | (simp only [go_sem]; rfl)
  rw [if_pos c1] at H
  have e1 : (decide (x8_1 < (l0.length : Int))) = true := by simpa using c1
  try rw [e1]
  refine Evr.condT rfl (Evr.skip (Evr.seq (Evr.block (Evr.seq (Evr.regionN rfl (Opl.one rfl rfl (by simp only [go_sem]; rfl) (Opl.one rfl rfl (by simp only [go_sem]; rfl) (Opl.nil (Evr.seq (Evr.regionN rfl (Opl.one rfl rfl (by simp only [go_sem]; rfl) (Opl.one rfl rfl (by simp only [go_sem]; rfl) (Opl.one rfl rfl (by simp only [go_sem]; rfl) ?_)))))))))))))
  obtain ⟨c2, H⟩ := peel H
  obtain ⟨c3, H⟩ := peel H
  refine Opl.idx (M := cIVar) (j := x8_1) zIVar (by exact hv0) rfl (by omega) (by omega) K29 Z97 rfl rfl ?_
  rintro p1 q1 h1
  obtain rfl := cIVar_R (x := (rd_IVar l0 x8_1)) h1
  refine Opl.lda (.agg [.lit (.int .i64 ((rd_IVar l0 x8_1).f0)), .lit (.int .i64 ((rd_IVar l0 x8_1).f1)), .lit (.int .i64 ((rd_IVar l0 x8_1).f2))]) rfl T97 rfl rfl rfl rfl ?_
  obtain ⟨t375, h_t375, H⟩ := Option.bind_eq_some_iff.1 H
  refine Opl.callc (impl_SystemValid_1.ev h_t375) rfl rfl rfl rfl ⟨(.aggL ⟨(.lit _), (.lit _), (.lit _), trivial⟩), trivial⟩ (by decide) (Opl.nil ?_)
  by_cases c4 : t375 = true
  case neg =>
   rw [if_neg c4] at H
   obtain rfl : t375 = false := by simpa using c4
   refine Evr.condF rfl (Evr.skip (Evr.inBlock (Evr.regionN rfl (Opl.one rfl rfl (by simp only [go_sem]; rfl) (Opl.one rfl rfl (by simp only [go_sem]; rfl) (Opl.nil ?_))))))
   exact ih1 _ (by omega) _ _ ⟨by omega, _, H, ⟨rfl, rfl, rfl, rfl, trivial⟩⟩
  rw [if_pos c4] at H
  obtain rfl : t375 = true := by simpa using c4
  refine Evr.condT rfl (Evr.seq (Evr.regionN rfl (Opl.one rfl rfl (by simp only [go_sem]; rfl) (Opl.one rfl rfl (by simp only [go_sem]; rfl) (Opl.nil ?_)))))
  obtain rfl := Option.some.inj H
  refine Evr.ret1 Try.func170 rfl ?_
  show (.lit (.int .i64 x8_1) : PV) = _
  first | rfl | (simp only [go_sem]; rfl)
theorem slices_ContainsFunc_at_impl_SystemValid_1.ev {k : Nat} {l0 : List IVar} {v0 : PV} (hv0 : Sl cIVar l0 v0) {r : Bool} (H : slices_ContainsFunc_at_impl_SystemValid_1.f k l0 = some r) : Ret Try.prog 137 [v0, .lit (.func (.func 138) #[] #[])] fun v S => v = .lit (.bool r) := by
 unfold slices_ContainsFunc_at_impl_SystemValid_1.f at H
 refine Ret.intro Try.func137 rfl (Nat.le_of_ble_eq_true rfl) rfl ?_
 rw [tm2]
 refine Evr.seq (Evr.regionN rfl (Opl.one rfl rfl (by simp only [go_sem]; rfl) (Opl.nil (Evr.seq (Evr.regionN rfl (Opl.one rfl rfl (by simp only [go_sem]; rfl) (Opl.one rfl rfl (by simp only [go_sem]; rfl) ?_)))))))
 obtain ⟨t376, h_t376, H⟩ := Option.bind_eq_some_iff.1 H
 refine Opl.callc (slices_IndexFunc_at_impl_SystemValid_1.ev hv0 h_t376) rfl rfl rfl rfl ⟨hv0.plain, (.lit _), trivial⟩ (by decide) (Opl.one rfl rfl (by simp only [go_sem]; rfl) (Opl.one rfl rfl (by simp only [go_sem]; rfl) (Opl.nil ?_)))
 obtain rfl := Option.some.inj H
 refine Evr.ret1 Try.func137 rfl ?_
 show (.lit (.bool (decide (t376 ≥ 0))) : PV) = _
 first | rfl | (simp only [go_sem]; rfl)
theorem impl_parts.ev {k : Nat} {a0 : Int} {r : Int × Int × Int} (H : impl_parts.f k a0 = some r) : Ret Try.prog 188 [.lit (.int .i64 a0)] fun v S => Out (fun q => ∃ q1 q2 q3, q = .tup [q1, q2, q3] ∧ q1 = .lit (.int .i64 r.1) ∧ q2 = .lit (.int .i64 r.2.1) ∧ q3 = .lit (.int .i64 r.2.2)) v S := by
 unfold impl_parts.f at H
 refine Ret.intro Try.func188 rfl (Nat.le_of_ble_eq_true rfl) rfl ?_
 rw [tm1]
 refine Evr.seq (Evr.regionN rfl (Opl.one rfl rfl (by simp only [go_sem]; rfl) (Opl.one rfl rfl (by simp only [go_sem]; rfl) (Opl.one rfl rfl (by simp only [go_sem]; rfl) (Opl.nil (Evr.seq (Evr.seq (Evr.regionN rfl (Opl.one rfl rfl (by simp only [go_sem]; rfl) (Opl.nil (Evr.block (Evr.seq (Evr.seq (Evr.regionN rfl (Opl.one rfl rfl (by simp only [go_sem]; rfl) (Opl.one rfl rfl (by simp only [go_sem]; rfl) (Opl.nil ?_)))))))))))))))))
 refine Evr.join (fun tm S => ∃ (kq1 : Nat) (x6_1 : Bool), impl_parts.j0 kq1 a0 x6_1 = some r ∧ Has tm [(5, .lit (.int .i64 a0)), (6, .lit (.bool x6_1))]) ?_ fun hk1 => ?_
 ·
  rintro tm S ⟨kq1, x6_1, H, hh⟩
  rw [hh.eq]
  obtain _ | k1 := kq1
  · simp [impl_parts.j0] at H
  simp only [impl_parts.j0] at H
  by_cases c1 : x6_1 = true
  case pos =>
   rw [if_pos c1] at H
   obtain rfl : x6_1 = true := by simpa using c1
   refine Evr.condT rfl (Evr.seq (Evr.regionN rfl (Opl.one rfl rfl (by simp only [go_sem]; rfl) (Opl.one rfl rfl (by simp only [go_sem]; rfl) (Opl.one rfl rfl (by simp only [go_sem]; rfl) (Opl.nil ?_))))))
   obtain rfl := Option.some.inj H
   refine Evr.ret3 Try.func188 rfl ?_
   show Out _ (.tup [.lit (.int .i64 2), .lit (.int .i64 1), .lit (.int .i64 1)]) _
   exact .tup3 .lit .lit .lit
  rw [if_neg c1] at H
  obtain rfl : x6_1 = false := by simpa using c1
  refine Evr.condF rfl (Evr.seq (Evr.seq (Evr.regionN rfl (Opl.one rfl rfl (by simp only [go_sem]; rfl) (Opl.one rfl rfl (by simp only [go_sem]; rfl) (Opl.nil ?_))))))
  refine Evr.join (fun tm S => ∃ (kq2 : Nat) (x10_1 : Bool), impl_parts.j1 kq2 a0 x10_1 = some r ∧ Has tm [(5, .lit (.int .i64 a0)), (10, .lit (.bool x10_1))]) ?_ fun hk2 => ?_
  ·
   rintro tm S ⟨kq2, x10_1, H, hh⟩
   rw [hh.eq]
   obtain _ | k2 := kq2
   · simp [impl_parts.j1] at H
   simp only [impl_parts.j1] at H
   by_cases c2 : x10_1 = true
   case pos =>
    rw [if_pos c2] at H
    obtain rfl : x10_1 = true := by simpa using c2
    refine Evr.condT rfl (Evr.seq (Evr.regionN rfl (Opl.one rfl rfl (by simp only [go_sem]; rfl) (Opl.one rfl rfl (by simp only [go_sem]; rfl) (Opl.one rfl rfl (by simp only [go_sem]; rfl) (Opl.nil ?_))))))
    obtain rfl := Option.some.inj H
    refine Evr.ret3 Try.func188 rfl ?_
    show Out _ (.tup [.lit (.int .i64 2), .lit (.int .i64 1), .lit (.int .i64 2)]) _
    exact .tup3 .lit .lit .lit
   rw [if_neg c2] at H
   obtain rfl : x10_1 = false := by simpa using c2
   refine Evr.condF rfl (Evr.seq (Evr.regionN rfl (Opl.one rfl rfl (by simp only [go_sem]; rfl) (Opl.one rfl rfl (by simp only [go_sem]; rfl) (Opl.nil ?_)))))
   by_cases c3 : a0 = 7
   case pos =>
    rw [if_pos c3] at H
    have e1 : (a0 == 7) = true := by simpa using c3
    try rw [e1]
    refine Evr.condT rfl (Evr.seq (Evr.regionN rfl (Opl.one rfl rfl (by simp only [go_sem]; rfl) (Opl.one rfl rfl (by simp only [go_sem]; rfl) (Opl.one rfl rfl (by simp only [go_sem]; rfl) (Opl.nil ?_))))))
    obtain rfl := Option.some.inj H
    refine Evr.ret3 Try.func188 rfl ?_
    show Out _ (.tup [.lit (.int .i64 1), .lit (.int .i64 2), .lit (.int .i64 2)]) _
    exact .tup3 .lit .lit .lit
   rw [if_neg c3] at H
   have e2 : (a0 == 7) = false := by simpa using c3
   try rw [e2]
   refine Evr.condF rfl (Evr.seq (Evr.seq (Evr.regionN rfl (Opl.one rfl rfl (by simp only [go_sem]; rfl) (Opl.one rfl rfl (by simp only [go_sem]; rfl) (Opl.nil ?_))))))
   refine Evr.join (fun tm S => ∃ (kq3 : Nat) (x15_1 : Bool), impl_parts.j2 kq3 x15_1 = some r ∧ Has tm [(15, .lit (.bool x15_1))]) ?_ fun hk3 => ?_
   ·
    rintro tm S ⟨kq3, x15_1, H, hh⟩
    rw [hh.eq]
    obtain _ | k3 := kq3
    · simp [impl_parts.j2] at H
    simp only [impl_parts.j2] at H
    by_cases c4 : x15_1 = true
    case pos =>
     rw [if_pos c4] at H
     obtain rfl : x15_1 = true := by simpa using c4
     refine Evr.condT rfl (Evr.seq (Evr.regionN rfl (Opl.one rfl rfl (by simp only [go_sem]; rfl) (Opl.one rfl rfl (by simp only [go_sem]; rfl) (Opl.one rfl rfl (by simp only [go_sem]; rfl) (Opl.nil ?_))))))
     obtain rfl := Option.some.inj H
     refine Evr.ret3 Try.func188 rfl ?_
     show Out _ (.tup [.lit (.int .i64 2), .lit (.int .i64 2), .lit (.int .i64 2)]) _
     exact .tup3 .lit .lit .lit
    rw [if_neg c4] at H
    obtain rfl : x15_1 = false := by simpa using c4
    refine Evr.condF rfl (Evr.skip (Evr.inBlock (Evr.seq (Evr.regionN rfl (Opl.one rfl rfl (by simp only [go_sem]; rfl) (Opl.one rfl rfl (by simp only [go_sem]; rfl) (Opl.one rfl rfl (by simp only [go_sem]; rfl) (Opl.nil ?_))))))))
    obtain rfl := Option.some.inj H
    refine Evr.ret3 Try.func188 rfl ?_
    show Out _ (.tup [.lit (.int .i64 0), .lit (.int .i64 0), .lit (.int .i64 1)]) _
    exact .tup3 .lit .lit .lit
   ·
    by_cases c5 : a0 = 8
    case pos =>
     rw [if_pos c5] at H
     have e3 : (a0 == 8) = true := by simpa using c5
     try rw [e3]
     refine Evr.condT rfl (Evr.skip ?_)
     exact hk3 _ _ ⟨_, _, H, ⟨(by first | rfl | (show PV.lit (.bool _) = _; congr 2; simp_all)), trivial⟩⟩
    rw [if_neg c5] at H
    have e4 : (a0 == 8) = false := by simpa using c5
    try rw [e4]
    refine Evr.condF rfl (Evr.regionN rfl (Opl.one rfl rfl (by simp only [go_sem]; rfl) (Opl.one rfl rfl (by simp only [go_sem]; rfl) (Opl.nil ?_))))
    exact hk3 _ _ ⟨_, _, H, ⟨(by first | rfl | (show PV.lit (.bool _) = _; congr 2; simp_all)), trivial⟩⟩
  ·
   by_cases c6 : a0 = 5
   case pos =>
    rw [if_pos c6] at H
    have e5 : (a0 == 5) = true := by simpa using c6
    try rw [e5]
    refine Evr.condT rfl (Evr.skip ?_)
    exact hk2 _ _ ⟨_, _, H, ⟨rfl, (by first | rfl | (show PV.lit (.bool _) = _; congr 2; simp_all)), trivial⟩⟩
   rw [if_neg c6] at H
   have e6 : (a0 == 5) = false := by simpa using c6
   try rw [e6]
   refine Evr.condF rfl (Evr.regionN rfl (Opl.one rfl rfl (by simp only [go_sem]; rfl) (Opl.one rfl rfl (by simp only [go_sem]; rfl) (Opl.nil ?_))))
   exact hk2 _ _ ⟨_, _, H, ⟨rfl, (by first | rfl | (show PV.lit (.bool _) = _; congr 2; simp_all)), trivial⟩⟩
 ·
  by_cases c7 : a0 = 2
  case pos =>
   rw [if_pos c7] at H
   have e7 : (a0 == 2) = true := by simpa using c7
   try rw [e7]
   refine Evr.condT rfl (Evr.skip ?_)
   exact hk1 _ _ ⟨_, _, H, ⟨rfl, (by first | rfl | (show PV.lit (.bool _) = _; congr 2; simp_all)), trivial⟩⟩
  rw [if_neg c7] at H
  have e8 : (a0 == 2) = false := by simpa using c7
  try rw [e8]
  refine Evr.condF rfl (Evr.seq (Evr.regionN rfl (Opl.one rfl rfl (by simp only [go_sem]; rfl) (Opl.one rfl rfl (by simp only [go_sem]; rfl) (Opl.nil ?_)))))
  refine Evr.join (fun tm S => ∃ (kq4 : Nat) (x6_2 : Bool), impl_parts.j0 kq4 a0 x6_2 = some r ∧ Has tm [(5, .lit (.int .i64 a0)), (6, .lit (.bool x6_2))]) ?_ fun hk4 => ?_
  ·
   rintro tm S ⟨kq4, x6_2, H, hh⟩
   rw [hh.eq]
   exact hk1 _ _ ⟨_, _, H, ⟨rfl, (by first | rfl | (show PV.lit (.bool _) = _; congr 2; simp_all)), trivial⟩⟩
  ·
   by_cases c8 : a0 = 3
   case pos =>
    rw [if_pos c8] at H
    have e9 : (a0 == 3) = true := by simpa using c8
    try rw [e9]
    refine Evr.condT rfl (Evr.skip ?_)
    exact hk4 _ _ ⟨_, _, H, ⟨rfl, (by first | rfl | (show PV.lit (.bool _) = _; congr 2; simp_all)), trivial⟩⟩
   rw [if_neg c8] at H
   have e10 : (a0 == 3) = false := by simpa using c8
   try rw [e10]
   refine Evr.condF rfl (Evr.regionN rfl (Opl.one rfl rfl (by simp only [go_sem]; rfl) (Opl.one rfl rfl (by simp only [go_sem]; rfl) (Opl.nil ?_))))
   exact hk4 _ _ ⟨_, _, H, ⟨rfl, (by first | rfl | (show PV.lit (.bool _) = _; congr 2; simp_all)), trivial⟩⟩
theorem impl_kindsOf.ev {k : Nat} {l0 : List ITerm} {v0 : PV} (hv0 : Sl cITerm l0 v0) {a1 : Int} {r : (List Int)} (H : impl_kindsOf.f k l0 a1 = some r) : Ret Try.prog 177 [v0, .lit (.int .i64 a1)] fun v S => Vec (cInt .i64) r v S ∧ (r = [] → v = .lit (.slice none 0 0)) := by
 unfold impl_kindsOf.f at H
 refine Ret.intro Try.func177 rfl (Nat.le_of_ble_eq_true rfl) rfl ?_
 rw [tm2]
 refine Evr.seq (Evr.regionN rfl (Opl.one rfl rfl (by simp only [go_sem]; rfl) (Opl.nil (Evr.seq (Evr.seq ?_)))))
 refine Evr.join (fun tm S => ∃ (kq1 : Nat) (x20_1 : Bool), impl_kindsOf.j0 kq1 l0 a1 x20_1 = some r ∧ Has tm [(0, v0), (1, .lit (.int .i64 a1)), (20, .lit (.bool x20_1))]) ?_ fun hk1 => ?_
 ·
  rintro tm S ⟨kq1, x20_1, H, hh⟩
  rw [hh.eq]
  obtain _ | k1 := kq1
  · simp [impl_kindsOf.j0] at H
  simp only [impl_kindsOf.j0] at H
  by_cases c1 : x20_1 = true
  case pos =>
   rw [if_pos c1] at H
   obtain rfl : x20_1 = true := by simpa using c1
   refine Evr.condT rfl (Evr.seq (Evr.regionN rfl (Opl.one rfl rfl (by simp only [go_sem]; rfl) (Opl.nil ?_))))
   obtain rfl := Option.some.inj H
   refine Evr.ret1 Try.func177 rfl ?_
   show Vec _ _ (.lit (.slice none 0 0)) _ ∧ _
   exact ⟨.nil, by intro e; first | rfl | (have := congrArg List.length e; simp only [List.length_nil] at this; omega)⟩
  rw [if_neg c1] at H
  obtain rfl : x20_1 = false := by simpa using c1
  refine Evr.condF rfl (Evr.skip (Evr.seq (Evr.regionN rfl (Opl.one rfl rfl (by simp only [go_sem]; rfl) (Opl.len (by exact hv0) K60 rfl rfl rfl rfl ?_)))))
  obtain ⟨c2, H⟩ := peel H
  obtain ⟨c3, H⟩ := peel H
  refine Opl.make0 (M := (cInt .i64)) (m := (l0.length : Int)) rfl rfl K26 T3 rfl rfl (by omega) (by show ((l0.length : Int)).toNat * 8 ≤ 281474976710656; omega) (by omega) rfl rfl rfl ?_
  rintro pv2 S h1 u1 w1
  refine Opl.one rfl rfl (by simp only [go_sem]; rfl) (Opl.nil (Evr.seq (Evr.seq (Evr.regionN rfl (Opl.one rfl rfl (by simp only [go_sem]; rfl) (Opl.len (by exact hv0) K60 rfl rfl rfl rfl (Opl.one rfl rfl (by simp only [go_sem]; rfl) (Opl.nil (Evr.block ?_)))))))))
  refine Evr.loop (Evr.rounds (n := k1) (Inv := fun n tm S => n ≤ k1 ∧ ∃ (x5_1 : List Int) (x26_1 : Int) (pv3 : PV), impl_kindsOf.l0 n a1 x5_1 l0 (l0.length : Int) x26_1 = some r ∧ Has tm [(1, .lit (.int .i64 a1)), (5, pv3), (24, v0), (25, .lit (.int .i64 (l0.length : Int))), (26, .lit (.int .i64 x26_1))] ∧ Vec (cInt .i64) x5_1 pv3 S) ?_ ?_ ?_)
  · exact ⟨Nat.le_refl _, _, _, _, H, ⟨rfl, rfl, rfl, rfl, rfl, trivial⟩, h1⟩
  ·
   rintro tm S ⟨_, _, _, _, H, -⟩
   simp [impl_kindsOf.l0] at H
  ·
   rintro n1 ih1 tm S ⟨hle, x5_1, x26_1, pv3, H, hh, h2⟩
   simp only [impl_kindsOf.l0] at H
   rw [hh.eq]
   refine Evr.seq (Evr.regionN rfl (Opl.one rfl rfl (by simp only [go_sem]; rfl) (Opl.nil (Evr.seq ?_))))
   by_cases c4 : x26_1 < (l0.length : Int)
   case neg =>
    rw [if_neg c4] at H
    have e20 : (decide (x26_1 < (l0.length : Int))) = false := by simpa using c4
    try rw [e20]
    refine Evr.condF rfl (Evr.exit rfl (Evr.seq (Evr.regionN rfl (Opl.one rfl rfl (by simp only [go_sem]; rfl) (Opl.one rfl rfl (by simp only [go_sem]; rfl) (Opl.nil ?_))))))
    obtain ⟨c26, H⟩ := peel H
    obtain rfl := Option.some.inj H
    refine Evr.ret1 Try.func177 rfl ?_
    show Vec _ _ pv3 _ ∧ _
    exact ⟨h2, by intro e; first | rfl | (have := congrArg List.length e; simp only [List.length_nil] at this; omega)⟩
   rw [if_pos c4] at H
   have e1 : (decide (x26_1 < (l0.length : Int))) = true := by simpa using c4
   try rw [e1]
   refine Evr.condT rfl (Evr.skip (Evr.seq (Evr.block (Evr.seq (Evr.regionN rfl (Opl.one rfl rfl (by simp only [go_sem]; rfl) ?_))))))
   obtain ⟨c5, H⟩ := peel H
   obtain ⟨c6, H⟩ := peel H
   refine Opl.idx (M := cITerm) (j := x26_1) zITerm (by exact hv0) rfl (by omega) (by omega) K60 Z106 rfl rfl ?_
   rintro p1 q1 h3
   obtain rfl := cITerm_R (x := (rd_ITerm l0 x26_1)) h3
   refine Opl.lda (.agg [.lit (.int .i64 ((rd_ITerm l0 x26_1).f0)), .lit (.int .i64 ((rd_ITerm l0 x26_1).f1)), .lit (.int .i64 ((rd_ITerm l0 x26_1).f2)), .lit (.int .i64 ((rd_ITerm l0 x26_1).f3))]) rfl T106 rfl rfl rfl rfl (Opl.alloc T106 rfl rfl rfl ?_)
   rintro i1 S h4 u2 w2
   have ap1 := w2.vec h2
   have h5 := u2.vec h2 ap1
   refine Opl.one rfl rfl (by simp only [go_sem]; rfl) (Opl.stb (vs := [.lit (.int .i64 ((rd_ITerm l0 x26_1).f0)), .lit (.int .i64 ((rd_ITerm l0 x26_1).f1)), .lit (.int .i64 ((rd_ITerm l0 x26_1).f2)), .lit (.int .i64 ((rd_ITerm l0 x26_1).f3))]) h4 rfl rfl Z106 rfl (Nat.le_of_ble_eq_true rfl) rfl rfl rfl rfl ?_)
   rintro S (h6 : Box (.ptr i1 0) [.lit (.int .i64 ((rd_ITerm l0 x26_1).f0)), .lit (.int .i64 ((rd_ITerm l0 x26_1).f1)), .lit (.int .i64 ((rd_ITerm l0 x26_1).f2)), .lit (.int .i64 ((rd_ITerm l0 x26_1).f3))] _) u3
   have h7 := u3.vec h5 ap1
   refine Opl.nil (Evr.seq (Evr.regionN rfl (Opl.one (v := .ptr i1 0) rfl rfl (by simp only [go_sem]; rfl) (Opl.ldb (v := .lit (.int .i64 ((rd_ITerm l0 x26_1).f0))) h6 rfl T3 rfl rfl rfl rfl ?_))))
   obtain ⟨bt350, h_bt350, H⟩ := Option.bind_eq_some_iff.1 H
   refine Opl.call (impl_parts.ev h_bt350) rfl rfl rfl rfl ⟨(.lit _), trivial⟩ (by decide) ?_
   rintro _ ⟨_, _, _, rfl, rfl, rfl, rfl⟩
   refine Opl.one rfl rfl (by simp only [go_sem]; rfl) (Opl.one (v := .lit (.int .i64 bt350.1)) rfl rfl (by simp only [go_sem]; rfl) (Opl.one (v := .lit (.int .i64 bt350.2.1)) rfl rfl (by simp only [go_sem]; rfl) (Opl.one (v := .lit (.int .i64 bt350.2.2)) rfl rfl (by simp only [go_sem]; rfl) (Opl.one rfl rfl (by simp only [go_sem]; rfl) (Opl.one rfl rfl (by simp only [go_sem]; rfl) (Opl.one rfl rfl (by simp only [go_sem]; rfl) (Opl.nil (Evr.seq (Evr.regionN rfl (Opl.one (v := .ptr i1 0) rfl rfl (by simp only [go_sem]; rfl) (Opl.ldb (v := .lit (.int .i64 ((rd_ITerm l0 x26_1).f0))) h6 rfl T3 rfl rfl rfl rfl ?_)))))))))))
   obtain ⟨t353, h_t353, H⟩ := Option.bind_eq_some_iff.1 H
   refine Opl.callc (impl_in.ev h_t353) rfl rfl rfl rfl ⟨(.lit _), (.lit _), (.lit _), trivial⟩ (by decide) (Opl.one rfl rfl (by simp only [go_sem]; rfl) (Opl.nil (Evr.seq (Evr.block (Evr.seq (Evr.regionN rfl (Opl.one (v := .ptr i1 0) rfl rfl (by simp only [go_sem]; rfl) (Opl.ldb (v := .lit (.int .i64 ((rd_ITerm l0 x26_1).f0))) h6 rfl T3 rfl rfl rfl rfl (Opl.one rfl rfl (by simp only [go_sem]; rfl) (Opl.one rfl rfl (by simp only [go_sem]; rfl) (Opl.nil ?_)))))))))))
   refine Evr.join (fun tm S => ∃ (kq2 : Nat) (x11_1 : Bool) (pv5 : PV), impl_kindsOf.j2 kq2 a1 x5_1 bt350.2.2 x11_1 l0 (l0.length : Int) x26_1 = some r ∧ kq2 ≤ n1 ∧ Has tm [(1, .lit (.int .i64 a1)), (5, pv5), (10, .lit (.int .i64 bt350.2.2)), (11, .lit (.bool x11_1)), (24, v0), (25, .lit (.int .i64 (l0.length : Int))), (26, .lit (.int .i64 x26_1))] ∧ Vec (cInt .i64) x5_1 pv5 S) ?_ fun hk2 => ?_
   ·
    rintro tm S ⟨kq2, x11_1, pv5, H, hle, hh, h9⟩
    rw [hh.eq]
    refine Evr.inBlock (Evr.seq (Evr.seq (Evr.regionN rfl (Opl.one rfl rfl (by simp only [go_sem]; rfl) (Opl.one rfl rfl (by simp only [go_sem]; rfl) (Opl.nil ?_))))))
    obtain _ | k2 := kq2
    · simp [impl_kindsOf.j2] at H
    simp only [impl_kindsOf.j2] at H
    by_cases c7 : x11_1 = true
    case neg =>
     rw [if_neg c7] at H
     have e3 : (!x11_1) = true := by simpa using c7
     try rw [e3]
     refine Evr.condT rfl (Evr.seq (Evr.regionN rfl (Opl.one rfl rfl (by simp only [go_sem]; rfl) (Opl.nil ?_))))
     obtain rfl := Option.some.inj H
     refine Evr.ret1 Try.func177 rfl ?_
     show Vec _ _ (.lit (.slice none 0 0)) _ ∧ _
     exact ⟨.nil, by intro e; first | rfl | (have := congrArg List.length e; simp only [List.length_nil] at this; omega)⟩
    rw [if_pos c7] at H
    have e2 : (!x11_1) = false := by simpa using c7
    try rw [e2]
    refine Evr.condF rfl (Evr.skip (Evr.regionN rfl (Opl.one rfl rfl (by simp only [go_sem]; rfl) (Opl.one rfl rfl (by simp only [go_sem]; rfl) (Opl.lits (M := (cInt .i64)) (ys := [bt350.2.2]) [.tmp 128] K26 T3 rfl rfl rfl (by exact ⟨rfl, trivial⟩) rfl (by decide) rfl rfl rfl ?_)))))
    rintro pv6 S h10 u4 w4
    have ap2 := w4.vec h9
    have h11 := u4.vec h9 ap2
    obtain ⟨c8, H⟩ := peel H
    refine Opl.app (M := (cInt .i64)) (xs := x5_1) (ys := [bt350.2.2]) (v := pv5) h11 (.vec h10) (oInt .i64) rfl rfl K26 T3 rfl rfl (by (try simp only [List.length_cons, List.length_nil]); omega) (by show (_ + _) * 8 ≤ 140737488355328; (try simp only [List.length_cons, List.length_nil]); omega) rfl rfl rfl rfl rfl ?_
    rintro pv7 S h12 u5 w5
    have ap3 := w5.vec h10
    have h13 := u5.vec h10 ap2.symm
    refine Opl.one rfl rfl (by simp only [go_sem]; rfl) (Opl.nil (Evr.inBlock (Evr.regionN rfl (Opl.one rfl rfl (by simp only [go_sem]; rfl) (Opl.one rfl rfl (by simp only [go_sem]; rfl) (Opl.nil ?_))))))
    exact ih1 _ (by omega) _ _ ⟨by omega, _, _, _, H, ⟨rfl, rfl, rfl, rfl, rfl, trivial⟩, h12⟩
   ·
    by_cases c9 : ((rd_ITerm l0 x26_1).f0) = 0
    case pos =>
     rw [if_pos c9] at H
     have e4 : (((rd_ITerm l0 x26_1).f0) == 0) = true := by simpa using c9
     try rw [e4]
     refine Evr.condT rfl ?_
     refine Evr.join (fun tm S => ∃ (kq3 : Nat) (x11_2 : Bool) (pv8 : PV), impl_kindsOf.j2 kq3 a1 x5_1 bt350.2.2 x11_2 l0 (l0.length : Int) x26_1 = some r ∧ kq3 ≤ n1 ∧ Has tm [(1, .lit (.int .i64 a1)), (5, pv8), (10, .lit (.int .i64 bt350.2.2)), (11, .lit (.bool x11_2)), (24, v0), (25, .lit (.int .i64 (l0.length : Int))), (26, .lit (.int .i64 x26_1))] ∧ Vec (cInt .i64) x5_1 pv8 S) ?_ fun hk3 => ?_
     ·
      rintro tm S ⟨kq3, x11_2, pv8, H, hle, hh, h14⟩
      rw [hh.eq]
      exact hk2 _ _ ⟨_, _, _, H, by omega, ⟨rfl, rfl, rfl, (by first | rfl | (show PV.lit (.bool _) = _; congr 2; simp_all)), rfl, rfl, rfl, trivial⟩, h14⟩
     ·
      refine Evr.regionN rfl (Opl.one (v := .ptr i1 1) rfl rfl (by simp only [go_sem]; rfl) (Opl.ldb (v := .lit (.int .i64 ((rd_ITerm l0 x26_1).f1))) h6 rfl T3 rfl rfl rfl rfl ?_))
      obtain ⟨t354, h_t354, H⟩ := Option.bind_eq_some_iff.1 H
      refine Opl.callc (impl_in.ev h_t354) rfl rfl rfl rfl ⟨(.lit _), (.lit _), (.lit _), trivial⟩ (by decide) (Opl.one rfl rfl (by simp only [go_sem]; rfl) ?_)
      by_cases c10 : t354 = true
      case neg =>
       rw [if_neg c10] at H
       obtain rfl : t354 = false := by simpa using c10
       refine Opl.skp rfl (Opl.skp rfl (Opl.skp rfl (Opl.one rfl rfl (by simp only [go_sem]; rfl) (Opl.one rfl rfl (by simp only [go_sem]; rfl) (Opl.skp rfl (Opl.skp rfl (Opl.skp rfl (Opl.one rfl rfl (by simp only [go_sem]; rfl) (Opl.one rfl rfl (by simp only [go_sem]; rfl) (Opl.nil ?_))))))))))
       exact hk3 _ _ ⟨_, _, _, H, by omega, ⟨rfl, rfl, rfl, (by first | rfl | (show PV.lit (.bool _) = _; congr 2; simp_all)), rfl, rfl, rfl, trivial⟩, h7⟩
      rw [if_pos c10] at H
      obtain rfl : t354 = true := by simpa using c10
      refine Opl.one (v := .ptr i1 2) rfl rfl (by simp only [go_sem]; rfl) (Opl.ldb (v := .lit (.int .i64 ((rd_ITerm l0 x26_1).f2))) h6 rfl T3 rfl rfl rfl rfl (Opl.one rfl rfl (by simp only [go_sem]; rfl) (Opl.one rfl rfl (by simp only [go_sem]; rfl) (Opl.one rfl rfl (by simp only [go_sem]; rfl) ?_))))
      by_cases c11 : ((rd_ITerm l0 x26_1).f2) = 0
      case neg =>
       rw [if_neg c11] at H
       have e6 : (((rd_ITerm l0 x26_1).f2) == 0) = false := by simpa using c11
       try rw [e6]
       refine Opl.skp rfl (Opl.skp rfl (Opl.skp rfl (Opl.one rfl rfl (by simp only [go_sem]; rfl) (Opl.one rfl rfl (by simp only [go_sem]; rfl) (Opl.nil ?_)))))
       exact hk3 _ _ ⟨_, _, _, H, by omega, ⟨rfl, rfl, rfl, (by first | rfl | (show PV.lit (.bool _) = _; congr 2; simp_all)), rfl, rfl, rfl, trivial⟩, h7⟩
      rw [if_pos c11] at H
      have e5 : (((rd_ITerm l0 x26_1).f2) == 0) = true := by simpa using c11
      try rw [e5]
      refine Opl.one (v := .ptr i1 3) rfl rfl (by simp only [go_sem]; rfl) (Opl.ldb (v := .lit (.int .i64 ((rd_ITerm l0 x26_1).f3))) h6 rfl T3 rfl rfl rfl rfl (Opl.one rfl rfl (by simp only [go_sem]; rfl) (Opl.one rfl rfl (by simp only [go_sem]; rfl) (Opl.one rfl rfl (by simp only [go_sem]; rfl) (Opl.nil ?_)))))
      exact hk3 _ _ ⟨_, _, _, H, by omega, ⟨rfl, rfl, rfl, (by first | rfl | (show PV.lit (.bool _) = _; congr 2; simp_all)), rfl, rfl, rfl, trivial⟩, h7⟩
    rw [if_neg c9] at H
    have e7 : (((rd_ITerm l0 x26_1).f0) == 0) = false := by simpa using c9
    try rw [e7]
    refine Evr.condF rfl (Evr.seq (Evr.regionN rfl (Opl.one (v := .ptr i1 0) rfl rfl (by simp only [go_sem]; rfl) (Opl.ldb (v := .lit (.int .i64 ((rd_ITerm l0 x26_1).f0))) h6 rfl T3 rfl rfl rfl rfl (Opl.one rfl rfl (by simp only [go_sem]; rfl) (Opl.one rfl rfl (by simp only [go_sem]; rfl) (Opl.nil ?_)))))))
    refine Evr.join (fun tm S => ∃ (kq4 : Nat) (x11_3 : Bool) (pv9 : PV), impl_kindsOf.j2 kq4 a1 x5_1 bt350.2.2 x11_3 l0 (l0.length : Int) x26_1 = some r ∧ kq4 ≤ n1 ∧ Has tm [(1, .lit (.int .i64 a1)), (5, pv9), (10, .lit (.int .i64 bt350.2.2)), (11, .lit (.bool x11_3)), (24, v0), (25, .lit (.int .i64 (l0.length : Int))), (26, .lit (.int .i64 x26_1))] ∧ Vec (cInt .i64) x5_1 pv9 S) ?_ fun hk4 => ?_
    ·
     rintro tm S ⟨kq4, x11_3, pv9, H, hle, hh, h15⟩
     rw [hh.eq]
     exact hk2 _ _ ⟨_, _, _, H, by omega, ⟨rfl, rfl, rfl, (by first | rfl | (show PV.lit (.bool _) = _; congr 2; simp_all)), rfl, rfl, rfl, trivial⟩, h15⟩
    ·
     by_cases c12 : ((rd_ITerm l0 x26_1).f0) = 1
     case pos =>
      rw [if_pos c12] at H
      have e8 : (((rd_ITerm l0 x26_1).f0) == 1) = true := by simpa using c12
      try rw [e8]
      refine Evr.condT rfl ?_
      refine Evr.join (fun tm S => ∃ (kq5 : Nat) (x11_4 : Bool) (pv10 : PV), impl_kindsOf.j2 kq5 a1 x5_1 bt350.2.2 x11_4 l0 (l0.length : Int) x26_1 = some r ∧ kq5 ≤ n1 ∧ Has tm [(1, .lit (.int .i64 a1)), (5, pv10), (10, .lit (.int .i64 bt350.2.2)), (11, .lit (.bool x11_4)), (24, v0), (25, .lit (.int .i64 (l0.length : Int))), (26, .lit (.int .i64 x26_1))] ∧ Vec (cInt .i64) x5_1 pv10 S) ?_ fun hk5 => ?_
      ·
       rintro tm S ⟨kq5, x11_4, pv10, H, hle, hh, h16⟩
       rw [hh.eq]
       exact hk4 _ _ ⟨_, _, _, H, by omega, ⟨rfl, rfl, rfl, (by first | rfl | (show PV.lit (.bool _) = _; congr 2; simp_all)), rfl, rfl, rfl, trivial⟩, h16⟩
      ·
       refine Evr.regionN rfl (Opl.one (v := .ptr i1 1) rfl rfl (by simp only [go_sem]; rfl) (Opl.ldb (v := .lit (.int .i64 ((rd_ITerm l0 x26_1).f1))) h6 rfl T3 rfl rfl rfl rfl (Opl.one rfl rfl (by simp only [go_sem]; rfl) (Opl.one rfl rfl (by simp only [go_sem]; rfl) ?_))))
       obtain ⟨t355, h_t355, H⟩ := Option.bind_eq_some_iff.1 H
       refine Opl.callc (impl_in.ev h_t355) rfl rfl rfl rfl ⟨(.lit _), (.lit _), (.lit _), trivial⟩ (by decide) (Opl.one rfl rfl (by simp only [go_sem]; rfl) ?_)
       by_cases c13 : t355 = true
       case neg =>
        rw [if_neg c13] at H
        obtain rfl : t355 = false := by simpa using c13
        refine Opl.skp rfl (Opl.skp rfl (Opl.skp rfl (Opl.one rfl rfl (by simp only [go_sem]; rfl) (Opl.one rfl rfl (by simp only [go_sem]; rfl) (Opl.skp rfl (Opl.skp rfl (Opl.skp rfl (Opl.one rfl rfl (by simp only [go_sem]; rfl) (Opl.one rfl rfl (by simp only [go_sem]; rfl) (Opl.nil ?_))))))))))
        exact hk5 _ _ ⟨_, _, _, H, by omega, ⟨rfl, rfl, rfl, (by first | rfl | (show PV.lit (.bool _) = _; congr 2; simp_all)), rfl, rfl, rfl, trivial⟩, h7⟩
       rw [if_pos c13] at H
       obtain rfl : t355 = true := by simpa using c13
       refine Opl.one (v := .ptr i1 2) rfl rfl (by simp only [go_sem]; rfl) (Opl.ldb (v := .lit (.int .i64 ((rd_ITerm l0 x26_1).f2))) h6 rfl T3 rfl rfl rfl rfl (Opl.one rfl rfl (by simp only [go_sem]; rfl) (Opl.one rfl rfl (by simp only [go_sem]; rfl) (Opl.one rfl rfl (by simp only [go_sem]; rfl) ?_))))
       by_cases c14 : ((rd_ITerm l0 x26_1).f2) = 0
       case neg =>
        rw [if_neg c14] at H
        have e10 : (((rd_ITerm l0 x26_1).f2) == 0) = false := by simpa using c14
        try rw [e10]
        refine Opl.skp rfl (Opl.skp rfl (Opl.skp rfl (Opl.one rfl rfl (by simp only [go_sem]; rfl) (Opl.one rfl rfl (by simp only [go_sem]; rfl) (Opl.nil ?_)))))
        exact hk5 _ _ ⟨_, _, _, H, by omega, ⟨rfl, rfl, rfl, (by first | rfl | (show PV.lit (.bool _) = _; congr 2; simp_all)), rfl, rfl, rfl, trivial⟩, h7⟩
       rw [if_pos c14] at H
       have e9 : (((rd_ITerm l0 x26_1).f2) == 0) = true := by simpa using c14
       try rw [e9]
       refine Opl.one (v := .ptr i1 3) rfl rfl (by simp only [go_sem]; rfl) (Opl.ldb (v := .lit (.int .i64 ((rd_ITerm l0 x26_1).f3))) h6 rfl T3 rfl rfl rfl rfl (Opl.one rfl rfl (by simp only [go_sem]; rfl) (Opl.one rfl rfl (by simp only [go_sem]; rfl) (Opl.one rfl rfl (by simp only [go_sem]; rfl) (Opl.nil ?_)))))
       exact hk5 _ _ ⟨_, _, _, H, by omega, ⟨rfl, rfl, rfl, (by first | rfl | (show PV.lit (.bool _) = _; congr 2; simp_all)), rfl, rfl, rfl, trivial⟩, h7⟩
     rw [if_neg c12] at H
     have e11 : (((rd_ITerm l0 x26_1).f0) == 1) = false := by simpa using c12
     try rw [e11]
     refine Evr.condF rfl (Evr.seq (Evr.regionN rfl (Opl.one rfl rfl (by simp only [go_sem]; rfl) (Opl.one rfl rfl (by simp only [go_sem]; rfl) (Opl.nil ?_)))))
     refine Evr.join (fun tm S => ∃ (kq6 : Nat) (x11_5 : Bool) (pv11 : PV), impl_kindsOf.j2 kq6 a1 x5_1 bt350.2.2 x11_5 l0 (l0.length : Int) x26_1 = some r ∧ kq6 ≤ n1 ∧ Has tm [(1, .lit (.int .i64 a1)), (5, pv11), (10, .lit (.int .i64 bt350.2.2)), (11, .lit (.bool x11_5)), (24, v0), (25, .lit (.int .i64 (l0.length : Int))), (26, .lit (.int .i64 x26_1))] ∧ Vec (cInt .i64) x5_1 pv11 S) ?_ fun hk6 => ?_
     ·
      rintro tm S ⟨kq6, x11_5, pv11, H, hle, hh, h17⟩
      rw [hh.eq]
      exact hk4 _ _ ⟨_, _, _, H, by omega, ⟨rfl, rfl, rfl, (by first | rfl | (show PV.lit (.bool _) = _; congr 2; simp_all)), rfl, rfl, rfl, trivial⟩, h17⟩
     ·
      by_cases c15 : t353 = true
      case neg =>
       rw [if_neg c15] at H
       obtain rfl : t353 = false := by simpa using c15
       refine Evr.condF rfl (Evr.skip ?_)
       exact hk6 _ _ ⟨_, _, _, H, by omega, ⟨rfl, rfl, rfl, (by first | rfl | (show PV.lit (.bool _) = _; congr 2; simp_all)), rfl, rfl, rfl, trivial⟩, h7⟩
      rw [if_pos c15] at H
      obtain rfl : t353 = true := by simpa using c15
      refine Evr.condT rfl ?_
      refine Evr.join (fun tm S => ∃ (kq7 : Nat) (x11_6 : Bool) (pv12 : PV), impl_kindsOf.j2 kq7 a1 x5_1 bt350.2.2 x11_6 l0 (l0.length : Int) x26_1 = some r ∧ kq7 ≤ n1 ∧ Has tm [(1, .lit (.int .i64 a1)), (5, pv12), (10, .lit (.int .i64 bt350.2.2)), (11, .lit (.bool x11_6)), (24, v0), (25, .lit (.int .i64 (l0.length : Int))), (26, .lit (.int .i64 x26_1))] ∧ Vec (cInt .i64) x5_1 pv12 S) ?_ fun hk7 => ?_
      ·
       rintro tm S ⟨kq7, x11_6, pv12, H, hle, hh, h18⟩
       rw [hh.eq]
       exact hk6 _ _ ⟨_, _, _, H, by omega, ⟨rfl, rfl, rfl, (by first | rfl | (show PV.lit (.bool _) = _; congr 2; simp_all)), rfl, rfl, rfl, trivial⟩, h18⟩
      ·
       refine Evr.regionN rfl (Opl.one (v := .ptr i1 1) rfl rfl (by simp only [go_sem]; rfl) (Opl.ldb (v := .lit (.int .i64 ((rd_ITerm l0 x26_1).f1))) h6 rfl T3 rfl rfl rfl rfl (Opl.one rfl rfl (by simp only [go_sem]; rfl) (Opl.one rfl rfl (by simp only [go_sem]; rfl) ?_))))
       by_cases c16 : ((rd_ITerm l0 x26_1).f1) = 0
       case neg =>
        rw [if_neg c16] at H
        have e19 : (((rd_ITerm l0 x26_1).f1) == 0) = false := by simpa using c16
        try rw [e19]
        refine Opl.skp rfl (Opl.skp rfl (Opl.skp rfl (Opl.skp rfl (Opl.skp rfl (Opl.one rfl rfl (by simp only [go_sem]; rfl) (Opl.one rfl rfl (by simp only [go_sem]; rfl) (Opl.skp rfl (Opl.skp rfl (Opl.skp rfl (Opl.skp rfl (Opl.skp rfl (Opl.one rfl rfl (by simp only [go_sem]; rfl) (Opl.one rfl rfl (by simp only [go_sem]; rfl) (Opl.skp rfl (Opl.skp rfl (Opl.skp rfl (Opl.skp rfl (Opl.skp rfl (Opl.skp rfl (Opl.skp rfl (Opl.one rfl rfl (by simp only [go_sem]; rfl) (Opl.one rfl rfl (by simp only [go_sem]; rfl) (Opl.skp rfl (Opl.skp rfl (Opl.skp rfl (Opl.skp rfl (Opl.skp rfl (Opl.skp rfl (Opl.skp rfl (Opl.one rfl rfl (by simp only [go_sem]; rfl) (Opl.one rfl rfl (by simp only [go_sem]; rfl) (Opl.skp rfl (Opl.skp rfl (Opl.skp rfl (Opl.skp rfl (Opl.skp rfl (Opl.skp rfl (Opl.skp rfl (Opl.skp rfl (Opl.skp rfl (Opl.one rfl rfl (by simp only [go_sem]; rfl) (Opl.one rfl rfl (by simp only [go_sem]; rfl) (Opl.nil ?_)))))))))))))))))))))))))))))))))))))))))))
        exact hk7 _ _ ⟨_, _, _, H, by omega, ⟨rfl, rfl, rfl, (by first | rfl | (show PV.lit (.bool _) = _; congr 2; simp_all)), rfl, rfl, rfl, trivial⟩, h7⟩
       rw [if_pos c16] at H
       have e12 : (((rd_ITerm l0 x26_1).f1) == 0) = true := by simpa using c16
       try rw [e12]
       refine Opl.one (v := .ptr i1 2) rfl rfl (by simp only [go_sem]; rfl) (Opl.ldb (v := .lit (.int .i64 ((rd_ITerm l0 x26_1).f2))) h6 rfl T3 rfl rfl rfl rfl (Opl.one rfl rfl (by simp only [go_sem]; rfl) (Opl.one rfl rfl (by simp only [go_sem]; rfl) ?_)))
       obtain ⟨t356, h_t356, H⟩ := Option.bind_eq_some_iff.1 H
       refine Opl.callc (impl_in.ev h_t356) rfl rfl rfl rfl ⟨(.lit _), (.lit _), (.lit _), trivial⟩ (by decide) (Opl.one rfl rfl (by simp only [go_sem]; rfl) (Opl.one rfl rfl (by simp only [go_sem]; rfl) ?_))
       by_cases c17 : t356 = true
       case neg =>
        rw [if_neg c17] at H
        obtain rfl : t356 = false := by simpa using c17
        refine Opl.skp rfl (Opl.skp rfl (Opl.skp rfl (Opl.skp rfl (Opl.skp rfl (Opl.one rfl rfl (by simp only [go_sem]; rfl) (Opl.one rfl rfl (by simp only [go_sem]; rfl) (Opl.skp rfl (Opl.skp rfl (Opl.skp rfl (Opl.skp rfl (Opl.skp rfl (Opl.skp rfl (Opl.skp rfl (Opl.one rfl rfl (by simp only [go_sem]; rfl) (Opl.one rfl rfl (by simp only [go_sem]; rfl) (Opl.skp rfl (Opl.skp rfl (Opl.skp rfl (Opl.skp rfl (Opl.skp rfl (Opl.skp rfl (Opl.skp rfl (Opl.one rfl rfl (by simp only [go_sem]; rfl) (Opl.one rfl rfl (by simp only [go_sem]; rfl) (Opl.skp rfl (Opl.skp rfl (Opl.skp rfl (Opl.skp rfl (Opl.skp rfl (Opl.skp rfl (Opl.skp rfl (Opl.skp rfl (Opl.skp rfl (Opl.one rfl rfl (by simp only [go_sem]; rfl) (Opl.one rfl rfl (by simp only [go_sem]; rfl) (Opl.nil ?_))))))))))))))))))))))))))))))))))))
        exact hk7 _ _ ⟨_, _, _, H, by omega, ⟨rfl, rfl, rfl, (by first | rfl | (show PV.lit (.bool _) = _; congr 2; simp_all)), rfl, rfl, rfl, trivial⟩, h7⟩
       rw [if_pos c17] at H
       obtain rfl : t356 = true := by simpa using c17
       refine Opl.one (v := .ptr i1 3) rfl rfl (by simp only [go_sem]; rfl) (Opl.ldb (v := .lit (.int .i64 ((rd_ITerm l0 x26_1).f3))) h6 rfl T3 rfl rfl rfl rfl (Opl.one rfl rfl (by simp only [go_sem]; rfl) (Opl.one rfl rfl (by simp only [go_sem]; rfl) ?_)))
       obtain ⟨t357, h_t357, H⟩ := Option.bind_eq_some_iff.1 H
       refine Opl.callc (impl_in.ev h_t357) rfl rfl rfl rfl ⟨(.lit _), (.lit _), (.lit _), trivial⟩ (by decide) (Opl.one rfl rfl (by simp only [go_sem]; rfl) (Opl.one rfl rfl (by simp only [go_sem]; rfl) ?_))
       by_cases c18 : t357 = true
       case neg =>
        rw [if_neg c18] at H
        obtain rfl : t357 = false := by simpa using c18
        refine Opl.skp rfl (Opl.skp rfl (Opl.skp rfl (Opl.skp rfl (Opl.skp rfl (Opl.skp rfl (Opl.skp rfl (Opl.one rfl rfl (by simp only [go_sem]; rfl) (Opl.one rfl rfl (by simp only [go_sem]; rfl) (Opl.skp rfl (Opl.skp rfl (Opl.skp rfl (Opl.skp rfl (Opl.skp rfl (Opl.skp rfl (Opl.skp rfl (Opl.one rfl rfl (by simp only [go_sem]; rfl) (Opl.one rfl rfl (by simp only [go_sem]; rfl) (Opl.skp rfl (Opl.skp rfl (Opl.skp rfl (Opl.skp rfl (Opl.skp rfl (Opl.skp rfl (Opl.skp rfl (Opl.skp rfl (Opl.skp rfl (Opl.one rfl rfl (by simp only [go_sem]; rfl) (Opl.one rfl rfl (by simp only [go_sem]; rfl) (Opl.nil ?_)))))))))))))))))))))))))))))
        exact hk7 _ _ ⟨_, _, _, H, by omega, ⟨rfl, rfl, rfl, (by first | rfl | (show PV.lit (.bool _) = _; congr 2; simp_all)), rfl, rfl, rfl, trivial⟩, h7⟩
       rw [if_pos c18] at H
       obtain rfl : t357 = true := by simpa using c18
       refine Opl.one rfl rfl (by simp only [go_sem]; rfl) (Opl.one (v := .ptr i1 2) rfl rfl (by simp only [go_sem]; rfl) (Opl.ldb (v := .lit (.int .i64 ((rd_ITerm l0 x26_1).f2))) h6 rfl T3 rfl rfl rfl rfl ?_))
       obtain ⟨c19, H⟩ := peel H
       obtain ⟨c20, H⟩ := peel H
       refine Opl.idv (M := (cInt .i64)) (xs := x5_1) (j := ((rd_ITerm l0 x26_1).f2)) (v := pv3) h7 rfl rfl (by omega) (by omega) K26 Z3 rfl rfl ?_
       rintro d1 z1 q2 h19 h20
       refine Opl.ldv (M := (cInt .i64)) (xs := x5_1) (j := ((rd_ITerm l0 x26_1).f2)) (0 : Int) h19 h20 (by omega) (by omega) rfl T3 rfl rfl rfl ?_
       rintro p2 q3 h21
       obtain rfl : p2 = [.lit (.int .i64 (rd x5_1 ((rd_ITerm l0 x26_1).f2)))] := h21
       refine ⟨.lit (.int .i64 (rd x5_1 ((rd_ITerm l0 x26_1).f2))), rfl, ?_⟩
       refine Opl.one rfl rfl (by simp only [go_sem]; rfl) (Opl.one rfl rfl (by simp only [go_sem]; rfl) (Opl.one rfl rfl (by simp only [go_sem]; rfl) (Opl.one rfl rfl (by simp only [go_sem]; rfl) ?_)))
       by_cases c21 : (rd x5_1 ((rd_ITerm l0 x26_1).f2)) = bt350.2.1
       case neg =>
        rw [if_neg c21] at H
        have e18 : ((rd x5_1 ((rd_ITerm l0 x26_1).f2)) == bt350.2.1) = false := by simpa using c21
        try rw [e18]
        refine Opl.skp rfl (Opl.skp rfl (Opl.skp rfl (Opl.skp rfl (Opl.skp rfl (Opl.skp rfl (Opl.skp rfl (Opl.one rfl rfl (by simp only [go_sem]; rfl) (Opl.one rfl rfl (by simp only [go_sem]; rfl) (Opl.skp rfl (Opl.skp rfl (Opl.skp rfl (Opl.skp rfl (Opl.skp rfl (Opl.skp rfl (Opl.skp rfl (Opl.skp rfl (Opl.skp rfl (Opl.one rfl rfl (by simp only [go_sem]; rfl) (Opl.one rfl rfl (by simp only [go_sem]; rfl) (Opl.nil ?_))))))))))))))))))))
        exact hk7 _ _ ⟨_, _, _, H, by omega, ⟨rfl, rfl, rfl, (by first | rfl | (show PV.lit (.bool _) = _; congr 2; simp_all)), rfl, rfl, rfl, trivial⟩, h7⟩
       rw [if_pos c21] at H
       have e13 : ((rd x5_1 ((rd_ITerm l0 x26_1).f2)) == bt350.2.1) = true := by simpa using c21
       try rw [e13]
       refine Opl.one rfl rfl (by simp only [go_sem]; rfl) (Opl.one (v := .ptr i1 3) rfl rfl (by simp only [go_sem]; rfl) (Opl.ldb (v := .lit (.int .i64 ((rd_ITerm l0 x26_1).f3))) h6 rfl T3 rfl rfl rfl rfl ?_))
       obtain ⟨c22, H⟩ := peel H
       obtain ⟨c23, H⟩ := peel H
       refine Opl.idv (M := (cInt .i64)) (xs := x5_1) (j := ((rd_ITerm l0 x26_1).f3)) (v := pv3) h7 rfl rfl (by omega) (by omega) K26 Z3 rfl rfl ?_
       rintro d2 z2 q4 h22 h23
       refine Opl.ldv (M := (cInt .i64)) (xs := x5_1) (j := ((rd_ITerm l0 x26_1).f3)) (0 : Int) h22 h23 (by omega) (by omega) rfl T3 rfl rfl rfl ?_
       rintro p3 q5 h24
       obtain rfl : p3 = [.lit (.int .i64 (rd x5_1 ((rd_ITerm l0 x26_1).f3)))] := h24
       refine ⟨.lit (.int .i64 (rd x5_1 ((rd_ITerm l0 x26_1).f3))), rfl, ?_⟩
       refine Opl.one rfl rfl (by simp only [go_sem]; rfl) (Opl.one rfl rfl (by simp only [go_sem]; rfl) (Opl.one rfl rfl (by simp only [go_sem]; rfl) (Opl.one rfl rfl (by simp only [go_sem]; rfl) ?_)))
       by_cases c24 : (rd x5_1 ((rd_ITerm l0 x26_1).f3)) = bt350.2.1
       case neg =>
        rw [if_neg c24] at H
        have e17 : ((rd x5_1 ((rd_ITerm l0 x26_1).f3)) == bt350.2.1) = false := by simpa using c24
        try rw [e17]
        refine Opl.skp rfl (Opl.skp rfl (Opl.skp rfl (Opl.skp rfl (Opl.skp rfl (Opl.skp rfl (Opl.skp rfl (Opl.skp rfl (Opl.skp rfl (Opl.one rfl rfl (by simp only [go_sem]; rfl) (Opl.one rfl rfl (by simp only [go_sem]; rfl) (Opl.nil ?_)))))))))))
        exact hk7 _ _ ⟨_, _, _, H, by omega, ⟨rfl, rfl, rfl, (by first | rfl | (show PV.lit (.bool _) = _; congr 2; simp_all)), rfl, rfl, rfl, trivial⟩, h7⟩
       rw [if_pos c24] at H
       have e14 : ((rd x5_1 ((rd_ITerm l0 x26_1).f3)) == bt350.2.1) = true := by simpa using c24
       try rw [e14]
       refine Opl.one rfl rfl (by simp only [go_sem]; rfl) (Opl.one rfl rfl (by simp only [go_sem]; rfl) (Opl.one rfl rfl (by simp only [go_sem]; rfl) ?_))
       by_cases c25 : bt350.1 = 2
       case pos =>
        rw [if_pos c25] at H
        have e15 : (bt350.1 == 2) = true := by simpa using c25
        try rw [e15]
        refine Opl.skp rfl (Opl.skp rfl (Opl.skp rfl (Opl.skp rfl (Opl.skp rfl (Opl.one rfl rfl (by simp only [go_sem]; rfl) (Opl.one rfl rfl (by simp only [go_sem]; rfl) (Opl.one rfl rfl (by simp only [go_sem]; rfl) (Opl.nil ?_))))))))
        exact hk7 _ _ ⟨_, _, _, H, by omega, ⟨rfl, rfl, rfl, (by first | rfl | (show PV.lit (.bool _) = _; congr 2; simp_all)), rfl, rfl, rfl, trivial⟩, h7⟩
       rw [if_neg c25] at H
       have e16 : (bt350.1 == 2) = false := by simpa using c25
       try rw [e16]
       refine Opl.one (v := .ptr i1 2) rfl rfl (by simp only [go_sem]; rfl) (Opl.ldb (v := .lit (.int .i64 ((rd_ITerm l0 x26_1).f2))) h6 rfl T3 rfl rfl rfl rfl (Opl.one (v := .ptr i1 3) rfl rfl (by simp only [go_sem]; rfl) (Opl.ldb (v := .lit (.int .i64 ((rd_ITerm l0 x26_1).f3))) h6 rfl T3 rfl rfl rfl rfl (Opl.one rfl rfl (by simp only [go_sem]; rfl) (Opl.one rfl rfl (by simp only [go_sem]; rfl) (Opl.one rfl rfl (by simp only [go_sem]; rfl) (Opl.one rfl rfl (by simp only [go_sem]; rfl) (Opl.nil ?_))))))))
       exact hk7 _ _ ⟨_, _, _, H, by omega, ⟨rfl, rfl, rfl, (by first | rfl | (show PV.lit (.bool _) = _; congr 2; simp_all)), rfl, rfl, rfl, trivial⟩, h7⟩
 ·
  refine Evr.regionN rfl (Opl.one rfl rfl (by simp only [go_sem]; rfl) ?_)
  obtain ⟨t343, h_t343, H⟩ := Option.bind_eq_some_iff.1 H
  refine Opl.callc (impl_in.ev h_t343) rfl rfl rfl rfl ⟨(.lit _), (.lit _), (.lit _), trivial⟩ (by decide) (Opl.one rfl rfl (by simp only [go_sem]; rfl) (Opl.one rfl rfl (by simp only [go_sem]; rfl) ?_))
  by_cases c27 : t343 = true
  case neg =>
   rw [if_neg c27] at H
   have e22 : (!t343) = true := by simpa using c27
   try rw [e22]
   refine Opl.skp rfl (Opl.skp rfl (Opl.skp rfl (Opl.skp rfl (Opl.one rfl rfl (by simp only [go_sem]; rfl) (Opl.nil ?_)))))
   exact hk1 _ _ ⟨_, _, H, ⟨rfl, rfl, (by first | rfl | (show PV.lit (.bool _) = _; congr 2; simp_all)), trivial⟩⟩
  rw [if_pos c27] at H
  have e21 : (!t343) = false := by simpa using c27
  try rw [e21]
  refine Opl.one rfl rfl (by simp only [go_sem]; rfl) (Opl.len (by exact hv0) K60 rfl rfl rfl rfl ?_)
  obtain ⟨t344, h_t344, H⟩ := Option.bind_eq_some_iff.1 H
  refine Opl.callc (impl_in.ev h_t344) rfl rfl rfl rfl ⟨(.lit _), (.lit _), (.lit _), trivial⟩ (by decide) (Opl.one rfl rfl (by simp only [go_sem]; rfl) (Opl.one rfl rfl (by simp only [go_sem]; rfl) (Opl.nil ?_)))
  exact hk1 _ _ ⟨_, _, H, ⟨rfl, rfl, (by first | rfl | (show PV.lit (.bool _) = _; congr 2; simp_all)), trivial⟩⟩
theorem impl_kindOf.ev {k : Nat} {l0 : List ITerm} {v0 : PV} (hv0 : Sl cITerm l0 v0) {a1 : Int} {r : Int} (H : impl_kindOf.f k l0 a1 = some r) : Ret Try.prog 156 [v0, .lit (.int .i64 a1)] fun v S => v = .lit (.int .i64 r) := by
 unfold impl_kindOf.f at H
 refine Ret.intro Try.func156 rfl (Nat.le_of_ble_eq_true rfl) rfl ?_
 rw [tm2]
 refine Evr.seq (Evr.regionN rfl (Opl.one rfl rfl (by simp only [go_sem]; rfl) (Opl.nil (Evr.seq (Evr.regionN rfl (Opl.one rfl rfl (by simp only [go_sem]; rfl) (Opl.one rfl rfl (by simp only [go_sem]; rfl) ?_)))))))
 obtain ⟨t, h_t, H⟩ := Option.bind_eq_some_iff.1 H
 refine Opl.call ((impl_kindsOf.ev hv0 h_t).mono fun _ _ h => Out.vecn h) rfl rfl rfl rfl ⟨hv0.plain, (.lit _), trivial⟩ (by decide) ?_
 rintro pv1 ⟨h1, h2⟩
 refine Opl.one rfl rfl (by simp only [go_sem]; rfl) (Opl.nil (Evr.seq (Evr.seq (Evr.regionN rfl (Opl.one rfl rfl (by simp only [go_sem]; rfl) ?_)))))
 by_cases c1 : t = []
 case pos =>
  rw [if_pos c1] at H
  refine Opl.eqnil (by exact h2 c1) K26 rfl rfl (Opl.nil (Evr.condT rfl (Evr.seq (Evr.regionN rfl (Opl.one rfl rfl (by simp only [go_sem]; rfl) (Opl.nil ?_))))))
  obtain rfl := Option.some.inj H
  refine Evr.ret1 Try.func156 rfl ?_
  show (.lit (.int .i64 0) : PV) = _
  first | rfl | (simp only [go_sem]; rfl)
 rw [if_neg c1] at H
 refine Opl.eqsome (by exact h1) c1 K26 rfl rfl (Opl.nil (Evr.condF rfl (Evr.skip (Evr.seq (Evr.regionN rfl (Opl.one rfl rfl (by simp only [go_sem]; rfl) (Opl.one rfl rfl (by simp only [go_sem]; rfl) (Opl.len (by exact h1) K26 rfl rfl rfl rfl (Opl.one rfl rfl (by simp only [go_sem]; rfl) ?_)))))))))
 obtain ⟨c2, H⟩ := peel H
 obtain ⟨c3, H⟩ := peel H
 refine Opl.idx (M := (cInt .i64)) (j := (wrap64 ((t.length : Int) - 1))) (0 : Int) (by exact h1) rfl (by omega) (by omega) K26 Z3 rfl rfl ?_
 rintro p1 q1 h3
 obtain rfl : p1 = [.lit (.int .i64 (rd t (wrap64 ((t.length : Int) - 1))))] := h3
 refine Opl.lda (.lit (.int .i64 (rd t (wrap64 ((t.length : Int) - 1))))) rfl T3 rfl rfl rfl rfl (Opl.one rfl rfl (by simp only [go_sem]; rfl) (Opl.nil ?_))
 obtain rfl := Option.some.inj H
 refine Evr.ret1 Try.func156 rfl ?_
 show (.lit (.int .i64 (rd t (wrap64 ((t.length : Int) - 1)))) : PV) = _
 first | rfl | (simp only [go_sem]; rfl)
theorem impl_ruleOk.ev {k : Nat} {l0_0 : List ITerm} {v0_0 : PV} (hv0_0 : Sl cITerm l0_0 v0_0) {l0_1 : List Int} {v0_1 : PV} (hv0_1 : Sl (cInt .i64) l0_1 v0_1) {l0_2 : List (List ITerm)} {v0_2 : PV} (hv0_2 : Sl (cSl cITerm) l0_2 v0_2) {a1 : Int} {r : Bool} (H : impl_ruleOk.f k l0_0 l0_1 l0_2 a1 = some r) : Ret Try.prog 143 [.agg [v0_0, v0_1, v0_2], .lit (.int .i64 a1)] fun v S => v = .lit (.bool r) := by
 unfold impl_ruleOk.f at H
 refine Ret.intro Try.func143 rfl (Nat.le_of_ble_eq_true rfl) rfl ?_
 rw [tm2]
 refine Evr.seq (Evr.regionN rfl (Opl.box (cs := [v0_0, v0_1, v0_2]) rfl rfl rfl rfl ?_))
 rintro i1 S h1 u1 w1
 refine Opl.one rfl rfl (by simp only [go_sem]; rfl) (Opl.nil (Evr.seq (Evr.seq ?_)))
 refine Evr.join (fun tm S => ∃ (kq1 : Nat) (x20_1 : Bool) (i2 : Abs.Id), impl_ruleOk.j0 kq1 a1 x20_1 l0_0 l0_1 l0_2 = some r ∧ Has tm [(1, .lit (.int .i64 a1)), (2, .ptr i2 0), (20, .lit (.bool x20_1))] ∧ Box (.ptr i2 0) [v0_0, v0_1, v0_2] S) ?_ fun hk1 => ?_
 ·
  rintro tm S ⟨kq1, x20_1, i2, H, hh, h2⟩
  rw [hh.eq]
  obtain _ | k1 := kq1
  · simp [impl_ruleOk.j0] at H
  simp only [impl_ruleOk.j0] at H
  by_cases c1 : x20_1 = true
  case pos =>
   rw [if_pos c1] at H
   obtain rfl : x20_1 = true := by simpa using c1
   refine Evr.condT rfl (Evr.seq (Evr.regionN rfl (Opl.one rfl rfl (by simp only [go_sem]; rfl) (Opl.nil ?_))))
   obtain rfl := Option.some.inj H
   refine Evr.ret1 Try.func143 rfl ?_
   show (.lit (.bool false) : PV) = _
   first | rfl | (simp only [go_sem]; rfl)
  rw [if_neg c1] at H
  obtain rfl : x20_1 = false := by simpa using c1
  refine Evr.condF rfl (Evr.skip (Evr.seq (Evr.seq (Evr.regionN rfl (Opl.one (v := .ptr i2 1) rfl rfl (by simp only [go_sem]; rfl) (Opl.ldb (v := v0_1) h2 rfl T26 rfl rfl rfl rfl (Opl.len (by exact hv0_1) K26 rfl rfl rfl rfl (Opl.one rfl rfl (by simp only [go_sem]; rfl) (Opl.nil (Evr.block ?_))))))))))
  refine Evr.loop (Evr.rounds (n := k1) (Inv := fun n tm S => n ≤ k1 ∧ ∃ (x24_1 : Int) (i3 : Abs.Id), impl_ruleOk.l0 n a1 l0_1 (l0_1.length : Int) x24_1 l0_0 l0_1 l0_2 = some r ∧ Has tm [(1, .lit (.int .i64 a1)), (2, .ptr i3 0), (22, v0_1), (23, .lit (.int .i64 (l0_1.length : Int))), (24, .lit (.int .i64 x24_1))] ∧ Box (.ptr i3 0) [v0_0, v0_1, v0_2] S) ?_ ?_ ?_)
  · exact ⟨Nat.le_refl _, _, _, H, ⟨rfl, rfl, rfl, rfl, rfl, trivial⟩, h2⟩
  ·
   rintro tm S ⟨_, _, _, H, -⟩
   simp [impl_ruleOk.l0] at H
  ·
   rintro n1 ih1 tm S ⟨hle, x24_1, i3, H, hh, h3⟩
   simp only [impl_ruleOk.l0] at H
   rw [hh.eq]
   refine Evr.seq (Evr.regionN rfl (Opl.one rfl rfl (by simp only [go_sem]; rfl) (Opl.nil (Evr.seq ?_))))
   by_cases c2 : x24_1 < (l0_1.length : Int)
   case neg =>
    rw [if_neg c2] at H
    have e8 : (decide (x24_1 < (l0_1.length : Int))) = false := by simpa using c2
    try rw [e8]
    refine Evr.condF rfl (Evr.exit rfl (Evr.seq (Evr.regionN rfl (Opl.one rfl rfl (by simp only [go_sem]; rfl) (Opl.nil ?_)))))
    obtain rfl := Option.some.inj H
    refine Evr.ret1 Try.func143 rfl ?_
    show (.lit (.bool true) : PV) = _
    first | rfl | (simp only [go_sem]; rfl)
   rw [if_pos c2] at H
   have e1 : (decide (x24_1 < (l0_1.length : Int))) = true := by simpa using c2
   try rw [e1]
   refine Evr.condT rfl (Evr.skip (Evr.seq (Evr.block (Evr.seq (Evr.regionN rfl (Opl.one rfl rfl (by simp only [go_sem]; rfl) ?_))))))
   obtain ⟨c3, H⟩ := peel H
   obtain ⟨c4, H⟩ := peel H
   refine Opl.idx (M := (cInt .i64)) (j := x24_1) (0 : Int) (by exact hv0_1) rfl (by omega) (by omega) K26 Z3 rfl rfl ?_
   rintro p1 q1 h4
   obtain rfl : p1 = [.lit (.int .i64 (rd l0_1 x24_1))] := h4
   refine Opl.lda (.lit (.int .i64 (rd l0_1 x24_1))) rfl T3 rfl rfl rfl rfl (Opl.one rfl rfl (by simp only [go_sem]; rfl) (Opl.one rfl rfl (by simp only [go_sem]; rfl) (Opl.nil (Evr.seq ?_))))
   refine Evr.join (fun tm S => ∃ (kq2 : Nat) (x57_1 : Bool) (i4 : Abs.Id), impl_ruleOk.j2 kq2 a1 l0_1 (l0_1.length : Int) x24_1 x57_1 l0_0 l0_1 l0_2 = some r ∧ kq2 ≤ n1 ∧ Has tm [(1, .lit (.int .i64 a1)), (2, .ptr i4 0), (22, v0_1), (23, .lit (.int .i64 (l0_1.length : Int))), (24, .lit (.int .i64 x24_1)), (57, .lit (.bool x57_1))] ∧ Box (.ptr i4 0) [v0_0, v0_1, v0_2] S) ?_ fun hk2 => ?_
   ·
    rintro tm S ⟨kq2, x57_1, i4, H, hle, hh, h5⟩
    rw [hh.eq]
    obtain _ | k2 := kq2
    · simp [impl_ruleOk.j2] at H
    simp only [impl_ruleOk.j2] at H
    by_cases c5 : x57_1 = true
    case pos =>
     rw [if_pos c5] at H
     obtain rfl : x57_1 = true := by simpa using c5
     refine Evr.condT rfl (Evr.seq (Evr.regionN rfl (Opl.one rfl rfl (by simp only [go_sem]; rfl) (Opl.nil ?_))))
     obtain rfl := Option.some.inj H
     refine Evr.ret1 Try.func143 rfl ?_
     show (.lit (.bool false) : PV) = _
     first | rfl | (simp only [go_sem]; rfl)
    rw [if_neg c5] at H
    obtain rfl : x57_1 = false := by simpa using c5
    refine Evr.condF rfl (Evr.skip (Evr.inBlock (Evr.regionN rfl (Opl.one rfl rfl (by simp only [go_sem]; rfl) (Opl.one rfl rfl (by simp only [go_sem]; rfl) (Opl.nil ?_))))))
    exact ih1 _ (by omega) _ _ ⟨by omega, _, _, H, ⟨rfl, rfl, rfl, rfl, rfl, trivial⟩, h5⟩
   ·
    refine Evr.regionN rfl (Opl.one rfl rfl (by simp only [go_sem]; rfl) (Opl.one rfl rfl (by simp only [go_sem]; rfl) (Opl.one rfl rfl (by simp only [go_sem]; rfl) ?_)))
    obtain ⟨t366, h_t366, H⟩ := Option.bind_eq_some_iff.1 H
    refine Opl.callc (impl_in.ev h_t366) rfl rfl rfl rfl ⟨(.lit _), (.lit _), (.lit _), trivial⟩ (by decide) (Opl.one rfl rfl (by simp only [go_sem]; rfl) (Opl.one rfl rfl (by simp only [go_sem]; rfl) ?_))
    by_cases c6 : t366 = true
    case neg =>
     rw [if_neg c6] at H
     have e7 : (!t366) = true := by simpa using c6
     try rw [e7]
     refine Opl.skp rfl (Opl.skp rfl (Opl.skp rfl (Opl.skp rfl (Opl.skp rfl (Opl.skp rfl (Opl.skp rfl (Opl.skp rfl (Opl.skp rfl (Opl.skp rfl (Opl.skp rfl (Opl.skp rfl (Opl.one rfl rfl (by simp only [go_sem]; rfl) (Opl.one rfl rfl (by simp only [go_sem]; rfl) (Opl.skp rfl (Opl.skp rfl (Opl.skp rfl (Opl.skp rfl (Opl.skp rfl (Opl.skp rfl (Opl.skp rfl (Opl.skp rfl (Opl.one rfl rfl (by simp only [go_sem]; rfl) (Opl.nil ?_)))))))))))))))))))))))
     exact hk2 _ _ ⟨_, _, _, H, by omega, ⟨rfl, rfl, rfl, rfl, rfl, (by first | rfl | (show PV.lit (.bool _) = _; congr 2; simp_all)), trivial⟩, h3⟩
    rw [if_pos c6] at H
    have e2 : (!t366) = false := by simpa using c6
    try rw [e2]
    refine Opl.one rfl rfl (by simp only [go_sem]; rfl) (Opl.one rfl rfl (by simp only [go_sem]; rfl) (Opl.one rfl rfl (by simp only [go_sem]; rfl) ?_))
    by_cases c7 : x24_1 > 0
    case neg =>
     rw [if_neg c7] at H
     have e6 : (decide (x24_1 > 0)) = false := by simpa using c7
     try rw [e6]
     refine Opl.skp rfl (Opl.skp rfl (Opl.skp rfl (Opl.skp rfl (Opl.skp rfl (Opl.skp rfl (Opl.skp rfl (Opl.skp rfl (Opl.one rfl rfl (by simp only [go_sem]; rfl) (Opl.one rfl rfl (by simp only [go_sem]; rfl) (Opl.one rfl rfl (by simp only [go_sem]; rfl) (Opl.one (v := .ptr i3 2) rfl rfl (by simp only [go_sem]; rfl) (Opl.ldb (v := v0_2) h3 rfl T74 rfl rfl rfl rfl (Opl.one rfl rfl (by simp only [go_sem]; rfl) ?_)))))))))))))
     obtain ⟨c12, H⟩ := peel H
     refine Opl.idx (M := (cSl cITerm)) (j := x24_1) ([] : List ITerm) (by exact hv0_2) rfl (by omega) (by omega) K74 Z60 rfl rfl ?_
     rintro p4 q4 h9
     obtain ⟨pv2, rfl, h10⟩ := h9
     refine Opl.lda (pv2) rfl T60 rfl rfl rfl rfl (Opl.one rfl rfl (by simp only [go_sem]; rfl) ?_)
     obtain ⟨t371, h_t371, H⟩ := Option.bind_eq_some_iff.1 H
     refine Opl.callc (impl_kindOf.ev h10 h_t371) rfl rfl rfl rfl ⟨h10.plain, (.lit _), trivial⟩ (by decide) (Opl.one rfl rfl (by simp only [go_sem]; rfl) (Opl.one rfl rfl (by simp only [go_sem]; rfl) (Opl.nil ?_)))
     exact hk2 _ _ ⟨_, _, _, H, by omega, ⟨rfl, rfl, rfl, rfl, rfl, (by first | rfl | (show PV.lit (.bool _) = _; congr 2; simp_all)), trivial⟩, h3⟩
    rw [if_pos c7] at H
    have e3 : (decide (x24_1 > 0)) = true := by simpa using c7
    try rw [e3]
    refine Opl.one (v := .ptr i3 1) rfl rfl (by simp only [go_sem]; rfl) (Opl.ldb (v := v0_1) h3 rfl T26 rfl rfl rfl rfl (Opl.one rfl rfl (by simp only [go_sem]; rfl) (Opl.one rfl rfl (by simp only [go_sem]; rfl) ?_)))
    obtain ⟨c8, H⟩ := peel H
    obtain ⟨c9, H⟩ := peel H
    refine Opl.idx (M := (cInt .i64)) (j := (wrap64 (x24_1 - 1))) (0 : Int) (by exact hv0_1) rfl (by omega) (by omega) K26 Z3 rfl rfl ?_
    rintro p2 q2 h6
    obtain rfl : p2 = [.lit (.int .i64 (rd l0_1 (wrap64 (x24_1 - 1))))] := h6
    refine Opl.lda (.lit (.int .i64 (rd l0_1 (wrap64 (x24_1 - 1))))) rfl T3 rfl rfl rfl rfl (Opl.one rfl rfl (by simp only [go_sem]; rfl) (Opl.one rfl rfl (by simp only [go_sem]; rfl) (Opl.one rfl rfl (by simp only [go_sem]; rfl) (Opl.one rfl rfl (by simp only [go_sem]; rfl) (Opl.one rfl rfl (by simp only [go_sem]; rfl) ?_)))))
    by_cases c10 : (rd l0_1 (wrap64 (x24_1 - 1))) ≥ (rd l0_1 x24_1)
    case pos =>
     rw [if_pos c10] at H
     have e4 : (decide ((rd l0_1 (wrap64 (x24_1 - 1))) ≥ (rd l0_1 x24_1))) = true := by simpa using c10
     try rw [e4]
     refine Opl.skp rfl (Opl.skp rfl (Opl.skp rfl (Opl.skp rfl (Opl.skp rfl (Opl.skp rfl (Opl.skp rfl (Opl.skp rfl (Opl.one rfl rfl (by simp only [go_sem]; rfl) (Opl.nil ?_)))))))))
     exact hk2 _ _ ⟨_, _, _, H, by omega, ⟨rfl, rfl, rfl, rfl, rfl, (by first | rfl | (show PV.lit (.bool _) = _; congr 2; simp_all)), trivial⟩, h3⟩
    rw [if_neg c10] at H
    have e5 : (decide ((rd l0_1 (wrap64 (x24_1 - 1))) ≥ (rd l0_1 x24_1))) = false := by simpa using c10
    try rw [e5]
    refine Opl.one (v := .ptr i3 2) rfl rfl (by simp only [go_sem]; rfl) (Opl.ldb (v := v0_2) h3 rfl T74 rfl rfl rfl rfl (Opl.one rfl rfl (by simp only [go_sem]; rfl) ?_))
    obtain ⟨c11, H⟩ := peel H
    refine Opl.idx (M := (cSl cITerm)) (j := x24_1) ([] : List ITerm) (by exact hv0_2) rfl (by omega) (by omega) K74 Z60 rfl rfl ?_
    rintro p3 q3 h7
    obtain ⟨pv1, rfl, h8⟩ := h7
    refine Opl.lda (pv1) rfl T60 rfl rfl rfl rfl (Opl.one rfl rfl (by simp only [go_sem]; rfl) ?_)
    obtain ⟨t369, h_t369, H⟩ := Option.bind_eq_some_iff.1 H
    refine Opl.callc (impl_kindOf.ev h8 h_t369) rfl rfl rfl rfl ⟨h8.plain, (.lit _), trivial⟩ (by decide) (Opl.one rfl rfl (by simp only [go_sem]; rfl) (Opl.one rfl rfl (by simp only [go_sem]; rfl) (Opl.nil ?_)))
    exact hk2 _ _ ⟨_, _, _, H, by omega, ⟨rfl, rfl, rfl, rfl, rfl, (by first | rfl | (show PV.lit (.bool _) = _; congr 2; simp_all)), trivial⟩, h3⟩
 ·
  refine Evr.regionN rfl (Opl.one (v := .ptr i1 0) rfl rfl (by simp only [go_sem]; rfl) (Opl.ldb (v := v0_0) h1 rfl T60 rfl rfl rfl rfl (Opl.one rfl rfl (by simp only [go_sem]; rfl) ?_)))
  obtain ⟨t364, h_t364, H⟩ := Option.bind_eq_some_iff.1 H
  refine Opl.callc (impl_kindOf.ev hv0_0 h_t364) rfl rfl rfl rfl ⟨hv0_0.plain, (.lit _), trivial⟩ (by decide) (Opl.one rfl rfl (by simp only [go_sem]; rfl) (Opl.one rfl rfl (by simp only [go_sem]; rfl) ?_))
  by_cases c13 : t364 = 2
  case neg =>
   rw [if_neg c13] at H
   have e10 : (t364 != 2) = true := by simpa using c13
   try rw [e10]
   refine Opl.skp rfl (Opl.skp rfl (Opl.skp rfl (Opl.skp rfl (Opl.skp rfl (Opl.skp rfl (Opl.skp rfl (Opl.one rfl rfl (by simp only [go_sem]; rfl) (Opl.nil ?_))))))))
   exact hk1 _ _ ⟨_, _, _, H, ⟨rfl, rfl, (by first | rfl | (show PV.lit (.bool _) = _; congr 2; simp_all)), trivial⟩, h1⟩
  rw [if_pos c13] at H
  have e9 : (t364 != 2) = false := by simpa using c13
  try rw [e9]
  refine Opl.one (v := .ptr i1 1) rfl rfl (by simp only [go_sem]; rfl) (Opl.ldb (v := v0_1) h1 rfl T26 rfl rfl rfl rfl (Opl.len (by exact hv0_1) K26 rfl rfl rfl rfl (Opl.one (v := .ptr i1 2) rfl rfl (by simp only [go_sem]; rfl) (Opl.ldb (v := v0_2) h1 rfl T74 rfl rfl rfl rfl (Opl.len (by exact hv0_2) K74 rfl rfl rfl rfl (Opl.one rfl rfl (by simp only [go_sem]; rfl) (Opl.one rfl rfl (by simp only [go_sem]; rfl) (Opl.nil ?_))))))))
  exact hk1 _ _ ⟨_, _, _, H, ⟨rfl, rfl, (by first | rfl | (show PV.lit (.bool _) = _; congr 2; simp_all)), trivial⟩, h1⟩
theorem impl_SystemValid_2.ev {k : Nat} {l0_0 : List ITerm} {v0_0 : PV} (hv0_0 : Sl cITerm l0_0 v0_0) {l0_1 : List Int} {v0_1 : PV} (hv0_1 : Sl (cInt .i64) l0_1 v0_1) {l0_2 : List (List ITerm)} {v0_2 : PV} (hv0_2 : Sl (cSl cITerm) l0_2 v0_2) {l1_0 : List IVar} {v1_0 : PV} (hv1_0 : Sl cIVar l1_0 v1_0) {l1_1 : List IRule} {v1_1 : PV} (hv1_1 : Sl cIRule l1_1 v1_1) {r : Bool} (H : impl_SystemValid_2.f k l0_0 l0_1 l0_2 l1_0 l1_1 = some r) : Ret Try.prog 142 [.agg [v0_0, v0_1, v0_2], .fel (v1_0 :: v1_1 :: [])] fun v S => v = .lit (.bool r) := by
 unfold impl_SystemValid_2.f at H
 refine Ret.intro Try.func142 rfl (Nat.le_of_ble_eq_true rfl) rfl ?_
 rw [tm2]
 refine Evr.seq (Evr.regionN rfl (Opl.box (cs := [v0_0, v0_1, v0_2]) rfl rfl rfl rfl ?_))
 rintro i1 S h1 u1 w1
 refine Opl.one rfl rfl (by simp only [go_sem]; rfl) (Opl.nil (Evr.seq (Evr.regionN rfl (Opl.ldb (v := .agg [v0_0, v0_1, v0_2]) h1 rfl T125 rfl rfl rfl rfl (Opl.one (v := .fel (v1_0 :: v1_1 :: [])) rfl rfl (by simp only [go_sem]; rfl) (Opl.lda (v1_0) rfl T29 rfl rfl rfl rfl (Opl.len (by exact hv1_0) K29 rfl rfl rfl rfl ?_)))))))
 obtain ⟨t379, h_t379, H⟩ := Option.bind_eq_some_iff.1 H
 refine Opl.callc (impl_ruleOk.ev hv0_0 hv0_1 hv0_2 h_t379) rfl rfl rfl rfl ⟨(.aggL ⟨hv0_0.plain, hv0_1.plain, hv0_2.plain, trivial⟩), (.lit _), trivial⟩ (by decide) (Opl.one rfl rfl (by simp only [go_sem]; rfl) (Opl.one rfl rfl (by simp only [go_sem]; rfl) (Opl.nil ?_)))
 obtain rfl := Option.some.inj H
 refine Evr.ret1 Try.func142 rfl ?_
 show (.lit (.bool (!t379)) : PV) = _
 first | rfl | (simp only [go_sem]; rfl)
theorem slices_IndexFunc_at_impl_SystemValid_2.ev {k : Nat} {l0 : List IRule} {v0 : PV} (hv0 : Sl cIRule l0 v0) {l2_0 : List IVar} {v2_0 : PV} (hv2_0 : Sl cIVar l2_0 v2_0) {l2_1 : List IRule} {v2_1 : PV} (hv2_1 : Sl cIRule l2_1 v2_1) {r : Int} (H : slices_IndexFunc_at_impl_SystemValid_2.f k l0 l2_0 l2_1 = some r) : Ret Try.prog 171 [v0, .fn 142 [.fel (v2_0 :: v2_1 :: [])]] fun v S => v = .lit (.int .i64 r) := by
 unfold slices_IndexFunc_at_impl_SystemValid_2.f at H
 refine Ret.intro Try.func171 rfl (Nat.le_of_ble_eq_true rfl) rfl ?_
 rw [tm2]
 refine Evr.seq (Evr.regionN rfl (Opl.one rfl rfl (by simp only [go_sem]; rfl) (Opl.nil (Evr.seq (Evr.seq (Evr.regionN rfl (Opl.one rfl rfl (by simp only [go_sem]; rfl) (Opl.len (by exact hv0) K30 rfl rfl rfl rfl (Opl.one rfl rfl (by simp only [go_sem]; rfl) (Opl.nil (Evr.block ?_)))))))))))
 refine Evr.loop (Evr.rounds (n := k) (Inv := fun n tm S => n ≤ k ∧ ∃ (x8_1 : Int), slices_IndexFunc_at_impl_SystemValid_2.l0 n l0 (l0.length : Int) x8_1 l2_0 l2_1 = some r ∧ Has tm [(0, v0), (1, .fn 142 [.fel (v2_0 :: v2_1 :: [])]), (7, .lit (.int .i64 (l0.length : Int))), (8, .lit (.int .i64 x8_1))]) ?_ ?_ ?_)
 · exact ⟨Nat.le_refl _, _, H, ⟨rfl, rfl, rfl, rfl, trivial⟩⟩
 ·
  rintro tm S ⟨_, _, H, -⟩
  simp [slices_IndexFunc_at_impl_SystemValid_2.l0] at H
 ·
  rintro n1 ih1 tm S ⟨hle, x8_1, H, hh⟩
  simp only [slices_IndexFunc_at_impl_SystemValid_2.l0] at H
  rw [hh.eq]
  refine Evr.seq (Evr.regionN rfl (Opl.one rfl rfl (by simp only [go_sem]; rfl) (Opl.nil (Evr.seq ?_))))
  by_cases c1 : x8_1 < (l0.length : Int)
  case neg =>
   rw [if_neg c1] at H
   have e2 : (decide (x8_1 < (l0.length : Int))) = false := by simpa using c1
   try rw [e2]
   refine Evr.condF rfl (Evr.exit rfl (Evr.seq (Evr.regionN rfl (Opl.one rfl rfl (by simp only [go_sem]; rfl) (Opl.nil ?_)))))
   obtain rfl := Option.some.inj H
   refine Evr.ret1 Try.func171 rfl ?_
   show (.lit (.int .i64 (-1)) : PV) = _
   first | rfl | (simp only [go_sem]; rfl)
  rw [if_pos c1] at H
  have e1 : (decide (x8_1 < (l0.length : Int))) = true := by simpa using c1
  try rw [e1]
  refine Evr.condT rfl (Evr.skip (Evr.seq (Evr.block (Evr.seq (Evr.regionN rfl (Opl.one rfl rfl (by simp only [go_sem]; rfl) (Opl.one rfl rfl (by simp only [go_sem]; rfl) (Opl.nil (Evr.seq (Evr.regionN rfl (Opl.one rfl rfl (by simp only [go_sem]; rfl) (Opl.one rfl rfl (by simp only [go_sem]; rfl) (Opl.one rfl rfl (by simp only [go_sem]; rfl) ?_)))))))))))))
  obtain ⟨c2, H⟩ := peel H
  obtain ⟨c3, H⟩ := peel H
  refine Opl.idx (M := cIRule) (j := x8_1) zIRule (by exact hv0) rfl (by omega) (by omega) K30 Z125 rfl rfl ?_
  rintro p1 q1 h1
  obtain ⟨pv1, pv2, pv3, rfl, h2, h3, h4⟩ := cIRule_R (x := (rd_IRule l0 x8_1)) h1
  refine Opl.lda (.agg [pv1, pv2, pv3]) rfl T125 rfl rfl rfl rfl ?_
  obtain ⟨t382, h_t382, H⟩ := Option.bind_eq_some_iff.1 H
  refine Opl.callc (impl_SystemValid_2.ev h2 h3 h4 hv2_0 hv2_1 h_t382) rfl rfl rfl rfl ⟨(.aggL ⟨h2.plain, h3.plain, h4.plain, trivial⟩), (.felL ⟨hv2_0.plain, hv2_1.plain, trivial⟩), trivial⟩ (by decide) (Opl.nil ?_)
  by_cases c4 : t382 = true
  case neg =>
   rw [if_neg c4] at H
   obtain rfl : t382 = false := by simpa using c4
   refine Evr.condF rfl (Evr.skip (Evr.inBlock (Evr.regionN rfl (Opl.one rfl rfl (by simp only [go_sem]; rfl) (Opl.one rfl rfl (by simp only [go_sem]; rfl) (Opl.nil ?_))))))
   exact ih1 _ (by omega) _ _ ⟨by omega, _, H, ⟨rfl, rfl, rfl, rfl, trivial⟩⟩
  rw [if_pos c4] at H
  obtain rfl : t382 = true := by simpa using c4
  refine Evr.condT rfl (Evr.seq (Evr.regionN rfl (Opl.one rfl rfl (by simp only [go_sem]; rfl) (Opl.one rfl rfl (by simp only [go_sem]; rfl) (Opl.nil ?_)))))
  obtain rfl := Option.some.inj H
  refine Evr.ret1 Try.func171 rfl ?_
  show (.lit (.int .i64 x8_1) : PV) = _
  first | rfl | (simp only [go_sem]; rfl)
theorem slices_ContainsFunc_at_impl_SystemValid_2.ev {k : Nat} {l0 : List IRule} {v0 : PV} (hv0 : Sl cIRule l0 v0) {l2_0 : List IVar} {v2_0 : PV} (hv2_0 : Sl cIVar l2_0 v2_0) {l2_1 : List IRule} {v2_1 : PV} (hv2_1 : Sl cIRule l2_1 v2_1) {r : Bool} (H : slices_ContainsFunc_at_impl_SystemValid_2.f k l0 l2_0 l2_1 = some r) : Ret Try.prog 141 [v0, .fn 142 [.fel (v2_0 :: v2_1 :: [])]] fun v S => v = .lit (.bool r) := by
 unfold slices_ContainsFunc_at_impl_SystemValid_2.f at H
 refine Ret.intro Try.func141 rfl (Nat.le_of_ble_eq_true rfl) rfl ?_
 rw [tm2]
 refine Evr.seq (Evr.regionN rfl (Opl.one rfl rfl (by simp only [go_sem]; rfl) (Opl.nil (Evr.seq (Evr.regionN rfl (Opl.one rfl rfl (by simp only [go_sem]; rfl) (Opl.one rfl rfl (by simp only [go_sem]; rfl) ?_)))))))
 obtain ⟨t384, h_t384, H⟩ := Option.bind_eq_some_iff.1 H
 refine Opl.callc (slices_IndexFunc_at_impl_SystemValid_2.ev hv0 hv2_0 hv2_1 h_t384) rfl rfl rfl rfl ⟨hv0.plain, (.fnL ⟨(.felL ⟨hv2_0.plain, hv2_1.plain, trivial⟩), trivial⟩), trivial⟩ (by decide) (Opl.one rfl rfl (by simp only [go_sem]; rfl) (Opl.one rfl rfl (by simp only [go_sem]; rfl) (Opl.nil ?_)))
 obtain rfl := Option.some.inj H
 refine Evr.ret1 Try.func141 rfl ?_
 show (.lit (.bool (decide (t384 ≥ 0))) : PV) = _
 first | rfl | (simp only [go_sem]; rfl)
theorem impl_SystemValid.ev {k : Nat} {l0_0 : List IVar} {v0_0 : PV} (hv0_0 : Sl cIVar l0_0 v0_0) {l0_1 : List IRule} {v0_1 : PV} (hv0_1 : Sl cIRule l0_1 v0_1) {r : Bool} (H : impl_SystemValid.f k l0_0 l0_1 = some r) : Ret Try.prog 80 [.agg [v0_0, v0_1]] fun v S => v = .lit (.bool r) := by
 unfold impl_SystemValid.f at H
 refine Ret.intro Try.func80 rfl (Nat.le_of_ble_eq_true rfl) rfl ?_
 rw [tm1]
 refine Evr.seq (Evr.regionN rfl (Opl.box (cs := [v0_0, v0_1]) rfl rfl rfl rfl ?_))
 rintro i1 S h1 u1 w1
 refine Opl.one rfl rfl (by simp only [go_sem]; rfl) (Opl.nil (Evr.seq (Evr.seq ?_)))
 refine Evr.join (fun tm S => ∃ (kq1 : Nat) (x24_1 : Bool) (i2 : Abs.Id), impl_SystemValid.j0 kq1 x24_1 l0_0 l0_1 = some r ∧ Has tm [(1, .ptr i2 0), (24, .lit (.bool x24_1))] ∧ Box (.ptr i2 0) [v0_0, v0_1] S) ?_ fun hk1 => ?_
 ·
  rintro tm S ⟨kq1, x24_1, i2, H, hh, h2⟩
  rw [hh.eq]
  obtain _ | k1 := kq1
  · simp [impl_SystemValid.j0] at H
  simp only [impl_SystemValid.j0] at H
  by_cases c1 : x24_1 = true
  case pos =>
   rw [if_pos c1] at H
   obtain rfl : x24_1 = true := by simpa using c1
   refine Evr.condT rfl (Evr.seq (Evr.regionN rfl (Opl.one rfl rfl (by simp only [go_sem]; rfl) (Opl.nil ?_))))
   obtain rfl := Option.some.inj H
   refine Evr.ret1 Try.func80 rfl ?_
   show (.lit (.bool false) : PV) = _
   first | rfl | (simp only [go_sem]; rfl)
  rw [if_neg c1] at H
  obtain rfl : x24_1 = false := by simpa using c1
  refine Evr.condF rfl (Evr.skip (Evr.seq (Evr.regionN rfl (Opl.one (v := .ptr i2 1) rfl rfl (by simp only [go_sem]; rfl) (Opl.ldb (v := v0_1) h2 rfl T30 rfl rfl rfl rfl (Opl.one rfl rfl (by simp only [go_sem]; rfl) ?_))))))
  obtain ⟨t389, h_t389, H⟩ := Option.bind_eq_some_iff.1 H
  refine Opl.callw (slices_ContainsFunc_at_impl_SystemValid_2.ev hv0_1 hv0_0 hv0_1 h_t389) rfl rfl rfl (.cons (.refl _) (.cons (.fnBox h2) .nil)) ⟨hv0_1.plain, (.fnL ⟨(.felL ⟨hv0_0.plain, hv0_1.plain, trivial⟩), trivial⟩), trivial⟩ (by decide) (Opl.one rfl rfl (by simp only [go_sem]; rfl) (Opl.one rfl rfl (by simp only [go_sem]; rfl) (Opl.nil ?_)))
  obtain rfl := Option.some.inj H
  refine Evr.ret1 Try.func80 rfl ?_
  show (.lit (.bool (!t389)) : PV) = _
  first | rfl | (simp only [go_sem]; rfl)
 ·
  refine Evr.regionN rfl (Opl.one (v := .ptr i1 0) rfl rfl (by simp only [go_sem]; rfl) (Opl.ldb (v := v0_0) h1 rfl T29 rfl rfl rfl rfl (Opl.len (by exact hv0_0) K29 rfl rfl rfl rfl ?_)))
  obtain ⟨t386, h_t386, H⟩ := Option.bind_eq_some_iff.1 H
  refine Opl.callc (impl_in.ev h_t386) rfl rfl rfl rfl ⟨(.lit _), (.lit _), (.lit _), trivial⟩ (by decide) (Opl.one rfl rfl (by simp only [go_sem]; rfl) (Opl.one rfl rfl (by simp only [go_sem]; rfl) ?_))
  by_cases c2 : t386 = true
  case neg =>
   rw [if_neg c2] at H
   have e4 : (!t386) = true := by simpa using c2
   try rw [e4]
   refine Opl.skp rfl (Opl.skp rfl (Opl.skp rfl (Opl.skp rfl (Opl.one rfl rfl (by simp only [go_sem]; rfl) (Opl.one rfl rfl (by simp only [go_sem]; rfl) (Opl.skp rfl (Opl.skp rfl (Opl.skp rfl (Opl.one rfl rfl (by simp only [go_sem]; rfl) (Opl.one rfl rfl (by simp only [go_sem]; rfl) (Opl.skp rfl (Opl.skp rfl (Opl.skp rfl (Opl.skp rfl (Opl.one rfl rfl (by simp only [go_sem]; rfl) (Opl.nil ?_))))))))))))))))
   exact hk1 _ _ ⟨_, _, _, H, ⟨rfl, (by first | rfl | (show PV.lit (.bool _) = _; congr 2; simp_all)), trivial⟩, h1⟩
  rw [if_pos c2] at H
  have e1 : (!t386) = false := by simpa using c2
  try rw [e1]
  refine Opl.one (v := .ptr i1 1) rfl rfl (by simp only [go_sem]; rfl) (Opl.ldb (v := v0_1) h1 rfl T30 rfl rfl rfl rfl (Opl.len (by exact hv0_1) K30 rfl rfl rfl rfl (Opl.one rfl rfl (by simp only [go_sem]; rfl) (Opl.one rfl rfl (by simp only [go_sem]; rfl) (Opl.one rfl rfl (by simp only [go_sem]; rfl) ?_)))))
  by_cases c3 : (l0_1.length : Int) > 8
  case pos =>
   rw [if_pos c3] at H
   have e2 : (decide ((l0_1.length : Int) > 8)) = true := by simpa using c3
   try rw [e2]
   refine Opl.skp rfl (Opl.skp rfl (Opl.skp rfl (Opl.one rfl rfl (by simp only [go_sem]; rfl) (Opl.one rfl rfl (by simp only [go_sem]; rfl) (Opl.skp rfl (Opl.skp rfl (Opl.skp rfl (Opl.skp rfl (Opl.one rfl rfl (by simp only [go_sem]; rfl) (Opl.nil ?_))))))))))
   exact hk1 _ _ ⟨_, _, _, H, ⟨rfl, (by first | rfl | (show PV.lit (.bool _) = _; congr 2; simp_all)), trivial⟩, h1⟩
  rw [if_neg c3] at H
  have e3 : (decide ((l0_1.length : Int) > 8)) = false := by simpa using c3
  try rw [e3]
  refine Opl.one (v := .ptr i1 0) rfl rfl (by simp only [go_sem]; rfl) (Opl.ldb (v := v0_0) h1 rfl T29 rfl rfl rfl rfl ?_)
  obtain ⟨t387, h_t387, H⟩ := Option.bind_eq_some_iff.1 H
  refine Opl.callc (slices_ContainsFunc_at_impl_SystemValid_1.ev hv0_0 h_t387) rfl rfl rfl rfl ⟨hv0_0.plain, (.lit _), trivial⟩ (by decide) (Opl.one rfl rfl (by simp only [go_sem]; rfl) (Opl.one rfl rfl (by simp only [go_sem]; rfl) ?_))
  by_cases c4 : t387 = true
  case pos =>
   rw [if_pos c4] at H
   obtain rfl : t387 = true := by simpa using c4
   refine Opl.skp rfl (Opl.skp rfl (Opl.skp rfl (Opl.skp rfl (Opl.one rfl rfl (by simp only [go_sem]; rfl) (Opl.nil ?_)))))
   exact hk1 _ _ ⟨_, _, _, H, ⟨rfl, (by first | rfl | (show PV.lit (.bool _) = _; congr 2; simp_all)), trivial⟩, h1⟩
  rw [if_neg c4] at H
  obtain rfl : t387 = false := by simpa using c4
  refine Opl.one (v := .ptr i1 0) rfl rfl (by simp only [go_sem]; rfl) (Opl.ldb (v := v0_0) h1 rfl T29 rfl rfl rfl rfl ?_)
  obtain ⟨t388, h_t388, H⟩ := Option.bind_eq_some_iff.1 H
  refine Opl.callc (impl_size.ev hv0_0 h_t388) rfl rfl rfl rfl ⟨hv0_0.plain, trivial⟩ (by decide) (Opl.one rfl rfl (by simp only [go_sem]; rfl) (Opl.one rfl rfl (by simp only [go_sem]; rfl) (Opl.nil ?_)))
  exact hk1 _ _ ⟨_, _, _, H, ⟨rfl, (by first | rfl | (show PV.lit (.bool _) = _; congr 2; simp_all)), trivial⟩, h1⟩
theorem impl_narrow.ev {k : Nat} {l0_0 : List IVar} {v0_0 : PV} (hv0_0 : Sl cIVar l0_0 v0_0) {l0_1 : List IRule} {v0_1 : PV} (hv0_1 : Sl cIRule l0_1 v0_1) {r : Bool} (H : impl_narrow.f k l0_0 l0_1 = some r) : Ret Try.prog 115 [.agg [v0_0, v0_1]] fun v S => v = .lit (.bool r) := by
 unfold impl_narrow.f at H
 refine Ret.intro Try.func115 rfl (Nat.le_of_ble_eq_true rfl) rfl ?_
 rw [tm1]
 refine Evr.seq (Evr.regionN rfl (Opl.box (cs := [v0_0, v0_1]) rfl rfl rfl rfl ?_))
 rintro i1 S h1 u1 w1
 refine Opl.one rfl rfl (by simp only [go_sem]; rfl) (Opl.nil (Evr.seq (Evr.regionN rfl (Opl.ldb (v := .agg [v0_0, v0_1]) h1 rfl T32 rfl rfl rfl rfl ?_))))
 obtain ⟨t1234, h_t1234, H⟩ := Option.bind_eq_some_iff.1 H
 refine Opl.callc (impl_SystemValid.ev hv0_0 hv0_1 h_t1234) rfl rfl rfl rfl ⟨(.aggL ⟨hv0_0.plain, hv0_1.plain, trivial⟩), trivial⟩ (by decide) (Opl.one rfl rfl (by simp only [go_sem]; rfl) ?_)
 by_cases c1 : t1234 = true
 case neg =>
  rw [if_neg c1] at H
  obtain rfl : t1234 = false := by simpa using c1
  refine Opl.skp rfl (Opl.skp rfl (Opl.skp rfl (Opl.one rfl rfl (by simp only [go_sem]; rfl) (Opl.one rfl rfl (by simp only [go_sem]; rfl) (Opl.nil ?_)))))
  obtain rfl := Option.some.inj H
  refine Evr.ret1 Try.func115 rfl ?_
  show (.lit (.bool false) : PV) = _
  first | rfl | (simp only [go_sem]; rfl)
 rw [if_pos c1] at H
 obtain rfl : t1234 = true := by simpa using c1
 refine Opl.ldb (v := .agg [v0_0, v0_1]) h1 rfl T32 rfl rfl rfl rfl ?_
 obtain ⟨t1235, h_t1235, H⟩ := Option.bind_eq_some_iff.1 H
 refine Opl.callc (impl_bitCount.ev hv0_0 hv0_1 h_t1235) rfl rfl rfl rfl ⟨(.aggL ⟨hv0_0.plain, hv0_1.plain, trivial⟩), trivial⟩ (by decide) (Opl.one rfl rfl (by simp only [go_sem]; rfl) (Opl.one rfl rfl (by simp only [go_sem]; rfl) (Opl.one rfl rfl (by simp only [go_sem]; rfl) (Opl.nil ?_))))
 obtain rfl := Option.some.inj H
 refine Evr.ret1 Try.func115 rfl ?_
 show (.lit (.bool (decide (t1235 ≤ 6))) : PV) = _
 first | rfl | (simp only [go_sem]; rfl)
theorem impl_bitsValue.ev {k : Nat} {l0 : List Int} {v0 : PV} (hv0 : Sl (cInt .i64) l0 v0) {r : Int} (H : impl_bitsValue.f k l0 = some r) : Ret Try.prog 148 [v0] fun v S => v = .lit (.int .i64 r) := by
 unfold impl_bitsValue.f at H
 refine Ret.intro Try.func148 rfl (Nat.le_of_ble_eq_true rfl) rfl ?_
 rw [tm1]
 refine Evr.seq (Evr.regionN rfl (Opl.one rfl rfl (by simp only [go_sem]; rfl) (Opl.nil (Evr.seq (Evr.regionN rfl (Opl.one rfl rfl (by simp only [go_sem]; rfl) (Opl.nil (Evr.seq (Evr.seq (Evr.regionN rfl (Opl.one rfl rfl (by simp only [go_sem]; rfl) (Opl.len (by exact hv0) K26 rfl rfl rfl rfl (Opl.one rfl rfl (by simp only [go_sem]; rfl) (Opl.nil (Evr.block ?_)))))))))))))))
 refine Evr.loop (Evr.rounds (n := k) (Inv := fun n tm S => n ≤ k ∧ ∃ (x3_1 : Int) (x8_1 : Int), impl_bitsValue.l0 n x3_1 l0 (l0.length : Int) x8_1 = some r ∧ Has tm [(3, .lit (.int .i64 x3_1)), (6, v0), (7, .lit (.int .i64 (l0.length : Int))), (8, .lit (.int .i64 x8_1))]) ?_ ?_ ?_)
 · exact ⟨Nat.le_refl _, _, _, H, ⟨rfl, rfl, rfl, rfl, trivial⟩⟩
 ·
  rintro tm S ⟨_, _, _, H, -⟩
  simp [impl_bitsValue.l0] at H
 ·
  rintro n1 ih1 tm S ⟨hle, x3_1, x8_1, H, hh⟩
  simp only [impl_bitsValue.l0] at H
  rw [hh.eq]
  refine Evr.seq (Evr.regionN rfl (Opl.one rfl rfl (by simp only [go_sem]; rfl) (Opl.nil (Evr.seq ?_))))
  by_cases c1 : x8_1 < (l0.length : Int)
  case neg =>
   rw [if_neg c1] at H
   have e2 : (decide (x8_1 < (l0.length : Int))) = false := by simpa using c1
   try rw [e2]
   refine Evr.condF rfl (Evr.exit rfl (Evr.seq (Evr.regionN rfl (Opl.one rfl rfl (by simp only [go_sem]; rfl) (Opl.one rfl rfl (by simp only [go_sem]; rfl) (Opl.nil ?_))))))
   obtain rfl := Option.some.inj H
   refine Evr.ret1 Try.func148 rfl ?_
   show (.lit (.int .i64 x3_1) : PV) = _
   first | rfl | (simp only [go_sem]; rfl)
  rw [if_pos c1] at H
  have e1 : (decide (x8_1 < (l0.length : Int))) = true := by simpa using c1
  try rw [e1]
  refine Evr.condT rfl (Evr.skip (Evr.seq (Evr.block (Evr.seq (Evr.regionN rfl ?_)))))
  obtain ⟨c2, H⟩ := peel H
  obtain ⟨c3, H⟩ := peel H
  refine Opl.idx (M := (cInt .i64)) (j := x8_1) (0 : Int) (by exact hv0) rfl (by omega) (by omega) K26 Z3 rfl rfl ?_
  rintro p1 q1 h1
  obtain rfl : p1 = [.lit (.int .i64 (rd l0 x8_1))] := h1
  refine Opl.lda (.lit (.int .i64 (rd l0 x8_1))) rfl T3 rfl rfl rfl rfl (Opl.one rfl rfl (by simp only [go_sem]; rfl) (Opl.nil (Evr.regionN rfl (Opl.one rfl rfl (by simp only [go_sem]; rfl) (Opl.one rfl rfl (by simp only [go_sem]; rfl) (Opl.one rfl rfl (by simp only [go_sem]; rfl) (Opl.one rfl rfl (by simp only [go_sem]; rfl) (Opl.one rfl rfl (by simp only [go_sem]; rfl) (Opl.nil (Evr.inBlock (Evr.regionN rfl (Opl.one rfl rfl (by simp only [go_sem]; rfl) (Opl.one rfl rfl (by simp only [go_sem]; rfl) (Opl.nil ?_))))))))))))))
  exact ih1 _ (by omega) _ _ ⟨by omega, _, _, H, ⟨rfl, rfl, rfl, rfl, trivial⟩⟩
theorem impl_inRange.ev {k : Nat} {l0_0 : List IVar} {v0_0 : PV} (hv0_0 : Sl cIVar l0_0 v0_0) {l0_1 : List IRule} {v0_1 : PV} (hv0_1 : Sl cIRule l0_1 v0_1) {l1 : List Int} {v1 : PV} (hv1 : Sl (cInt .i64) l1 v1) {r : Bool} (H : impl_inRange.f k l0_0 l0_1 l1 = some r) : Ret Try.prog 70 [.agg [v0_0, v0_1], v1] fun v S => v = .lit (.bool r) := by
 unfold impl_inRange.f at H
 refine Ret.intro Try.func70 rfl (Nat.le_of_ble_eq_true rfl) rfl ?_
 rw [tm2]
 refine Evr.seq (Evr.regionN rfl (Opl.box (cs := [v0_0, v0_1]) rfl rfl rfl rfl ?_))
 rintro i1 S h1 u1 w1
 refine Opl.one rfl rfl (by simp only [go_sem]; rfl) (Opl.nil (Evr.seq (Evr.seq (Evr.regionN rfl (Opl.one rfl rfl (by simp only [go_sem]; rfl) (Opl.len (by exact hv1) K26 rfl rfl rfl rfl (Opl.one (v := .ptr i1 0) rfl rfl (by simp only [go_sem]; rfl) (Opl.ldb (v := v0_0) h1 rfl T29 rfl rfl rfl rfl (Opl.len (by exact hv0_0) K29 rfl rfl rfl rfl (Opl.one rfl rfl (by simp only [go_sem]; rfl) (Opl.nil ?_)))))))))))
 by_cases c1 : (l1.length : Int) = (l0_0.length : Int)
 case neg =>
  rw [if_neg c1] at H
  have e6 : ((l1.length : Int) != (l0_0.length : Int)) = true := by simpa using c1
  try rw [e6]
  refine Evr.condT rfl (Evr.seq (Evr.regionN rfl (Opl.one rfl rfl (by simp only [go_sem]; rfl) (Opl.nil ?_))))
  obtain rfl := Option.some.inj H
  refine Evr.ret1 Try.func70 rfl ?_
  show (.lit (.bool false) : PV) = _
  first | rfl | (simp only [go_sem]; rfl)
 rw [if_pos c1] at H
 have e1 : ((l1.length : Int) != (l0_0.length : Int)) = false := by simpa using c1
 try rw [e1]
 refine Evr.condF rfl (Evr.skip (Evr.seq (Evr.seq (Evr.regionN rfl (Opl.one (v := .ptr i1 0) rfl rfl (by simp only [go_sem]; rfl) (Opl.ldb (v := v0_0) h1 rfl T29 rfl rfl rfl rfl (Opl.len (by exact hv0_0) K29 rfl rfl rfl rfl (Opl.one rfl rfl (by simp only [go_sem]; rfl) (Opl.nil (Evr.block ?_))))))))))
 refine Evr.loop (Evr.rounds (n := k) (Inv := fun n tm S => n ≤ k ∧ ∃ (x16_1 : Int), impl_inRange.l0 n l1 l0_0 (l0_0.length : Int) x16_1 = some r ∧ Has tm [(1, v1), (14, v0_0), (15, .lit (.int .i64 (l0_0.length : Int))), (16, .lit (.int .i64 x16_1))]) ?_ ?_ ?_)
 · exact ⟨Nat.le_refl _, _, H, ⟨rfl, rfl, rfl, rfl, trivial⟩⟩
 ·
  rintro tm S ⟨_, _, H, -⟩
  simp [impl_inRange.l0] at H
 ·
  rintro n1 ih1 tm S ⟨hle, x16_1, H, hh⟩
  simp only [impl_inRange.l0] at H
  rw [hh.eq]
  refine Evr.seq (Evr.regionN rfl (Opl.one rfl rfl (by simp only [go_sem]; rfl) (Opl.nil (Evr.seq ?_))))
  by_cases c2 : x16_1 < (l0_0.length : Int)
  case neg =>
   rw [if_neg c2] at H
   have e5 : (decide (x16_1 < (l0_0.length : Int))) = false := by simpa using c2
   try rw [e5]
   refine Evr.condF rfl (Evr.exit rfl (Evr.seq (Evr.regionN rfl (Opl.one rfl rfl (by simp only [go_sem]; rfl) (Opl.nil ?_)))))
   obtain rfl := Option.some.inj H
   refine Evr.ret1 Try.func70 rfl ?_
   show (.lit (.bool true) : PV) = _
   first | rfl | (simp only [go_sem]; rfl)
  rw [if_pos c2] at H
  have e2 : (decide (x16_1 < (l0_0.length : Int))) = true := by simpa using c2
  try rw [e2]
  refine Evr.condT rfl (Evr.skip (Evr.seq (Evr.block (Evr.seq (Evr.regionN rfl (Opl.one rfl rfl (by simp only [go_sem]; rfl) ?_))))))
  obtain ⟨c3, H⟩ := peel H
  obtain ⟨c4, H⟩ := peel H
  obtain ⟨c5, H⟩ := peel H
  refine Opl.idx (M := cIVar) (j := x16_1) zIVar (by exact hv0_0) rfl (by omega) (by omega) K29 Z97 rfl rfl ?_
  rintro p1 q1 h2
  obtain rfl := cIVar_R (x := (rd_IVar l0_0 x16_1)) h2
  refine Opl.lda (.agg [.lit (.int .i64 ((rd_IVar l0_0 x16_1).f0)), .lit (.int .i64 ((rd_IVar l0_0 x16_1).f1)), .lit (.int .i64 ((rd_IVar l0_0 x16_1).f2))]) rfl T97 rfl rfl rfl rfl (Opl.alloc T97 rfl rfl rfl ?_)
  rintro i2 S h3 u2 w2
  refine Opl.one rfl rfl (by simp only [go_sem]; rfl) (Opl.stb (vs := [.lit (.int .i64 ((rd_IVar l0_0 x16_1).f0)), .lit (.int .i64 ((rd_IVar l0_0 x16_1).f1)), .lit (.int .i64 ((rd_IVar l0_0 x16_1).f2))]) h3 rfl rfl Z97 rfl (Nat.le_of_ble_eq_true rfl) rfl rfl rfl rfl ?_)
  rintro S (h4 : Box (.ptr i2 0) [.lit (.int .i64 ((rd_IVar l0_0 x16_1).f0)), .lit (.int .i64 ((rd_IVar l0_0 x16_1).f1)), .lit (.int .i64 ((rd_IVar l0_0 x16_1).f2))] _) u3
  refine Opl.nil (Evr.seq (Evr.regionD rfl (by kernel_rfl) (Opl.one rfl rfl (by simp only [go_sem]; rfl) (Opl.one rfl rfl (by simp only [go_sem]; rfl) (Opl.idx (M := (cInt .i64)) (j := x16_1) (0 : Int) (by exact hv1) rfl (by omega) (by omega) K26 Z3 rfl rfl ?_)))))
  rintro p2 q2 h5
  obtain rfl : p2 = [.lit (.int .i64 (rd l1 x16_1))] := h5
  refine Opl.lda (.lit (.int .i64 (rd l1 x16_1))) rfl T3 rfl rfl rfl rfl (Opl.one (v := .ptr i2 0) rfl rfl (by simp only [go_sem]; rfl) (Opl.ldb (v := .lit (.int .i64 ((rd_IVar l0_0 x16_1).f0))) h4 rfl T3 rfl rfl rfl rfl (Opl.one (v := .ptr i2 1) rfl rfl (by simp only [go_sem]; rfl) (Opl.ldb (v := .lit (.int .i64 ((rd_IVar l0_0 x16_1).f1))) h4 rfl T3 rfl rfl rfl rfl ?_))))
  obtain ⟨t336, h_t336, H⟩ := Option.bind_eq_some_iff.1 H
  refine Opl.callc (impl_in.ev h_t336) rfl rfl rfl rfl ⟨(.lit _), (.lit _), (.lit _), trivial⟩ (by decide) (Opl.one rfl rfl (by simp only [go_sem]; rfl) (Opl.nil ?_))
  by_cases c6 : t336 = true
  case pos =>
   rw [if_pos c6] at H
   have e3 : (!t336) = false := by simpa using c6
   try rw [e3]
   refine Evr.condF rfl (Evr.skip (Evr.inBlock (Evr.regionN rfl (Opl.one rfl rfl (by simp only [go_sem]; rfl) (Opl.one rfl rfl (by simp only [go_sem]; rfl) (Opl.nil ?_))))))
   exact ih1 _ (by omega) _ _ ⟨by omega, _, H, ⟨rfl, rfl, rfl, rfl, trivial⟩⟩
  rw [if_neg c6] at H
  have e4 : (!t336) = true := by simpa using c6
  try rw [e4]
  refine Evr.condT rfl (Evr.seq (Evr.regionN rfl (Opl.one rfl rfl (by simp only [go_sem]; rfl) (Opl.nil ?_))))
  obtain rfl := Option.some.inj H
  refine Evr.ret1 Try.func70 rfl ?_
  show (.lit (.bool false) : PV) = _
  first | rfl | (simp only [go_sem]; rfl)
theorem impl_bitsState.ev {k : Nat} {l0_0 : List IVar} {v0_0 : PV} (hv0_0 : Sl cIVar l0_0 v0_0) {l0_1 : List IRule} {v0_1 : PV} (hv0_1 : Sl cIRule l0_1 v0_1) {l1 : List Int} {v1 : PV} (hv1 : Sl (cInt .i64) l1 v1) {r : (List Int) × Bool} (H : impl_bitsState.f k l0_0 l0_1 l1 = some r) : Ret Try.prog 92 [.agg [v0_0, v0_1], v1] fun v S => Out (fun q => ∃ q1 q2, q = .tup [q1, q2] ∧ Sl (cInt .i64) r.1 q1 ∧ q2 = .lit (.bool r.2)) v S := by
 unfold impl_bitsState.f at H
 refine Ret.intro Try.func92 rfl (Nat.le_of_ble_eq_true rfl) rfl ?_
 rw [tm2]
 refine Evr.seq (Evr.regionN rfl (Opl.box (cs := [v0_0, v0_1]) rfl rfl rfl rfl ?_))
 rintro i1 S h1 u1 w1
 refine Opl.one rfl rfl (by simp only [go_sem]; rfl) (Opl.one rfl rfl (by simp only [go_sem]; rfl) (Opl.nil (Evr.seq (Evr.seq ?_))))
 refine Evr.join (fun tm S => ∃ (kq1 : Nat) (x18_1 : Bool) (i2 : Abs.Id), impl_bitsState.j0 kq1 l1 x18_1 l0_0 l0_1 = some r ∧ Has tm [(1, v1), (2, .ptr i2 0), (18, .lit (.bool x18_1))] ∧ Box (.ptr i2 0) [v0_0, v0_1] S) ?_ fun hk1 => ?_
 ·
  rintro tm S ⟨kq1, x18_1, i2, H, hh, h2⟩
  rw [hh.eq]
  obtain _ | k1 := kq1
  · simp [impl_bitsState.j0] at H
  simp only [impl_bitsState.j0] at H
  by_cases c1 : x18_1 = true
  case pos =>
   rw [if_pos c1] at H
   obtain rfl : x18_1 = true := by simpa using c1
   refine Evr.condT rfl (Evr.seq (Evr.regionN rfl (Opl.one rfl rfl (by simp only [go_sem]; rfl) (Opl.one rfl rfl (by simp only [go_sem]; rfl) (Opl.nil ?_)))))
   obtain rfl := Option.some.inj H
   refine Evr.ret2 Try.func92 rfl ?_
   show Out _ (.tup [.lit (.slice none 0 0), .lit (.bool false)]) _
   exact .tup2 (.sl .nil) .lit
  rw [if_neg c1] at H
  obtain rfl : x18_1 = false := by simpa using c1
  refine Evr.condF rfl (Evr.skip (Evr.seq (Evr.regionN rfl (Opl.one rfl rfl (by simp only [go_sem]; rfl) (Opl.nil (Evr.seq (Evr.seq (Evr.regionN rfl (Opl.ldb (v := .agg [v0_0, v0_1]) h2 rfl T32 rfl rfl rfl rfl ?_)))))))))
  obtain ⟨t777, h_t777, H⟩ := Option.bind_eq_some_iff.1 H
  refine Opl.call ((impl_bitsOf.ev hv0_0 hv0_1 h_t777).mono fun _ _ h => Out.vec h) rfl rfl rfl rfl ⟨(.aggL ⟨hv0_0.plain, hv0_1.plain, trivial⟩), trivial⟩ (by decide) ?_
  rintro pv1 h3
  refine Opl.len (by exact h3) K26 rfl rfl rfl rfl (Opl.one rfl rfl (by simp only [go_sem]; rfl) (Opl.nil (Evr.block ?_)))
  refine Evr.loop (Evr.rounds (n := k1) (Inv := fun n tm S => n ≤ k1 ∧ ∃ (x1_1 : List Int) (x6_1 : List Int) (x22_1 : Int) (pv2 : PV) (i3 : Abs.Id) (pv3 : PV), impl_bitsState.l0 n x1_1 x6_1 t777 (t777.length : Int) x22_1 l0_0 l0_1 = some r ∧ Has tm [(1, pv2), (2, .ptr i3 0), (6, pv3), (20, pv1), (21, .lit (.int .i64 (t777.length : Int))), (22, .lit (.int .i64 x22_1))] ∧ Sl (cInt .i64) x1_1 pv2 ∧ Box (.ptr i3 0) [v0_0, v0_1] S ∧ Vec (cInt .i64) x6_1 pv3 S ∧ Ap (.ptr i3 0) pv3) ?_ ?_ ?_)
  · exact ⟨Nat.le_refl _, _, _, _, _, _, _, H, ⟨rfl, rfl, rfl, rfl, rfl, rfl, trivial⟩, hv1, h2, .nil, Ap.nil.symm⟩
  ·
   rintro tm S ⟨_, _, _, _, _, _, _, H, -⟩
   simp [impl_bitsState.l0] at H
  ·
   rintro n1 ih1 tm S ⟨hle, x1_1, x6_1, x22_1, pv2, i3, pv3, H, hh, h4, h5, h6, ap1⟩
   simp only [impl_bitsState.l0] at H
   rw [hh.eq]
   refine Evr.seq (Evr.regionN rfl (Opl.one rfl rfl (by simp only [go_sem]; rfl) (Opl.nil (Evr.seq ?_))))
   by_cases c2 : x22_1 < (t777.length : Int)
   case neg =>
    rw [if_neg c2] at H
    have e2 : (decide (x22_1 < (t777.length : Int))) = false := by simpa using c2
    try rw [e2]
    refine Evr.condF rfl (Evr.exit rfl (Evr.seq (Evr.frz 6 h6 rfl ?_)))
    rintro pv8 S h17 u4
    have h18 := u4.box h5 ap1
    refine Evr.regionD rfl (by kernel_rfl) (Opl.one rfl rfl (by simp only [go_sem]; rfl) ?_)
    obtain ⟨t796, h_t796, H⟩ := Option.bind_eq_some_iff.1 H
    refine Opl.call ((impl_clone_int.ev h17 h_t796).mono fun _ _ h => Out.vec h) rfl rfl rfl rfl ⟨h17.plain, trivial⟩ (by decide) ?_
    rintro pv9 h19
    refine Opl.ldb (v := .agg [v0_0, v0_1]) h18 rfl T32 rfl rfl rfl rfl (Opl.one rfl rfl (by simp only [go_sem]; rfl) ?_)
    obtain ⟨t799, h_t799, H⟩ := Option.bind_eq_some_iff.1 H
    refine Opl.callc (impl_inRange.ev hv0_0 hv0_1 h17 h_t799) rfl rfl rfl rfl ⟨(.aggL ⟨hv0_0.plain, hv0_1.plain, trivial⟩), h17.plain, trivial⟩ (by decide) (Opl.one rfl rfl (by simp only [go_sem]; rfl) (Opl.one rfl rfl (by simp only [go_sem]; rfl) (Opl.nil ?_)))
    obtain rfl := Option.some.inj H
    refine Evr.ret2 Try.func92 rfl ?_
    show Out _ (.tup [pv9, .lit (.bool t799)]) _
    exact .tup2 (.sl h19) .lit
   rw [if_pos c2] at H
   have e1 : (decide (x22_1 < (t777.length : Int))) = true := by simpa using c2
   try rw [e1]
   refine Evr.condT rfl (Evr.skip (Evr.seq (Evr.block (Evr.seq (Evr.regionN rfl (Opl.one rfl rfl (by simp only [go_sem]; rfl) ?_))))))
   obtain ⟨c3, H⟩ := peel H
   obtain ⟨c4, H⟩ := peel H
   obtain ⟨c5, H⟩ := peel H
   obtain ⟨c6, H⟩ := peel H
   obtain ⟨c7, H⟩ := peel H
   refine Opl.idx (M := (cInt .i64)) (j := x22_1) (0 : Int) (by exact h3) rfl (by omega) (by omega) K26 Z3 rfl rfl ?_
   rintro p1 q1 h7
   obtain rfl : p1 = [.lit (.int .i64 (rd t777 x22_1))] := h7
   refine Opl.lda (.lit (.int .i64 (rd t777 x22_1))) rfl T3 rfl rfl rfl rfl (Opl.one rfl rfl (by simp only [go_sem]; rfl) (Opl.one rfl rfl (by simp only [go_sem]; rfl) (Opl.nil (Evr.seq (Evr.regionD rfl (by kernel_rfl) (Opl.one rfl rfl (by simp only [go_sem]; rfl) (Opl.one (v := .ptr i3 0) rfl rfl (by simp only [go_sem]; rfl) (Opl.ldb (v := v0_0) h5 rfl T29 rfl rfl rfl rfl (Opl.one rfl rfl (by simp only [go_sem]; rfl) (Opl.idx (M := cIVar) (j := x22_1) zIVar (by exact hv0_0) rfl (by omega) (by omega) K29 Z97 rfl rfl ?_))))))))))
   rintro p2 q2 h8
   obtain rfl := cIVar_R (x := (rd_IVar l0_0 x22_1)) h8
   refine Opl.one (v := .fel ((.lit (.int .i64 ((rd_IVar l0_0 x22_1).f0))) :: (.lit (.int .i64 ((rd_IVar l0_0 x22_1).f1))) :: (.lit (.int .i64 ((rd_IVar l0_0 x22_1).f2))) :: q2)) rfl rfl (by simp only [go_sem]; rfl) (Opl.lda (.lit (.int .i64 ((rd_IVar l0_0 x22_1).f0))) rfl T3 rfl rfl rfl rfl (Opl.one rfl rfl (by simp only [go_sem]; rfl) (Opl.one rfl rfl (by simp only [go_sem]; rfl) (Opl.slcT (M := (cInt .i64)) (b := (rd t777 x22_1)) (by exact h4) rfl  (by omega) (by omega) K26 Z3 rfl rfl rfl ?_))))
   rintro pv4 h9
   obtain ⟨t787, h_t787, H⟩ := Option.bind_eq_some_iff.1 H
   refine Opl.callc (impl_bitsValue.ev h9 h_t787) rfl rfl rfl rfl ⟨h9.plain, trivial⟩ (by decide) (Opl.one rfl rfl (by simp only [go_sem]; rfl) (Opl.lits (M := (cInt .i64)) (ys := [(wrap64 (((rd_IVar l0_0 x22_1).f0) + t787))]) [.tmp 38] K26 T3 rfl rfl rfl (by exact ⟨rfl, trivial⟩) rfl (by decide) rfl rfl rfl ?_))
   rintro pv5 S h10 u2 w2
   have ap2 := w2.box h5
   have h11 := u2.box h5 ap2
   have ap3 := w2.vec h6
   have h12 := u2.vec h6 ap3
   obtain ⟨c8, H⟩ := peel H
   refine Opl.app (M := (cInt .i64)) (xs := x6_1) (ys := [(wrap64 (((rd_IVar l0_0 x22_1).f0) + t787))]) (v := pv3) h12 (.vec h10) (oInt .i64) rfl rfl K26 T3 rfl rfl (by (try simp only [List.length_cons, List.length_nil]); omega) (by show (_ + _) * 8 ≤ 140737488355328; (try simp only [List.length_cons, List.length_nil]); omega) rfl rfl rfl rfl rfl ?_
   rintro pv6 S h13 u3 w3
   have ap4 := w3.box h11
   have h14 := u3.box h11 ap1
   have ap5 := w3.vec h10
   have h15 := u3.vec h10 ap3.symm
   refine Opl.one rfl rfl (by simp only [go_sem]; rfl) (Opl.nil (Evr.regionN rfl (Opl.one rfl rfl (by simp only [go_sem]; rfl) (Opl.one rfl rfl (by simp only [go_sem]; rfl) (Opl.slcD (M := (cInt .i64)) (a := (rd t777 x22_1)) (by exact h4) rfl  (by omega) (by omega) K26 Z3 rfl rfl rfl ?_)))))
   rintro pv7 h16
   refine Opl.one rfl rfl (by simp only [go_sem]; rfl) (Opl.nil (Evr.inBlock (Evr.regionN rfl (Opl.one rfl rfl (by simp only [go_sem]; rfl) (Opl.one rfl rfl (by simp only [go_sem]; rfl) (Opl.nil ?_))))))
   exact ih1 _ (by omega) _ _ ⟨by omega, _, _, _, _, _, _, H, ⟨rfl, rfl, rfl, rfl, rfl, rfl, trivial⟩, h16, h14, h13, ap4⟩
 ·
  refine Evr.regionN rfl (Opl.one rfl rfl (by simp only [go_sem]; rfl) (Opl.len (by exact hv1) K26 rfl rfl rfl rfl (Opl.ldb (v := .agg [v0_0, v0_1]) h1 rfl T32 rfl rfl rfl rfl ?_)))
  obtain ⟨t775, h_t775, H⟩ := Option.bind_eq_some_iff.1 H
  refine Opl.callc (impl_bitCount.ev hv0_0 hv0_1 h_t775) rfl rfl rfl rfl ⟨(.aggL ⟨hv0_0.plain, hv0_1.plain, trivial⟩), trivial⟩ (by decide) (Opl.one rfl rfl (by simp only [go_sem]; rfl) (Opl.one rfl rfl (by simp only [go_sem]; rfl) ?_))
  by_cases c9 : (l1.length : Int) = t775
  case neg =>
   rw [if_neg c9] at H
   have e4 : ((l1.length : Int) != t775) = true := by simpa using c9
   try rw [e4]
   refine Opl.skp rfl (Opl.skp rfl (Opl.skp rfl (Opl.one rfl rfl (by simp only [go_sem]; rfl) (Opl.nil ?_))))
   exact hk1 _ _ ⟨_, _, _, H, ⟨rfl, rfl, (by first | rfl | (show PV.lit (.bool _) = _; congr 2; simp_all)), trivial⟩, h1⟩
  rw [if_pos c9] at H
  have e3 : ((l1.length : Int) != t775) = false := by simpa using c9
  try rw [e3]
  refine Opl.one rfl rfl (by simp only [go_sem]; rfl) ?_
  obtain ⟨t776, h_t776, H⟩ := Option.bind_eq_some_iff.1 H
  refine Opl.callc (impl_bitsValid.ev hv1 h_t776) rfl rfl rfl rfl ⟨hv1.plain, trivial⟩ (by decide) (Opl.one rfl rfl (by simp only [go_sem]; rfl) (Opl.one rfl rfl (by simp only [go_sem]; rfl) (Opl.nil ?_)))
  exact hk1 _ _ ⟨_, _, _, H, ⟨rfl, rfl, (by first | rfl | (show PV.lit (.bool _) = _; congr 2; simp_all)), trivial⟩, h1⟩
theorem impl_bitsState.evo {k : Nat} {l0_0 : List IVar} {v0_0 : PV} (hv0_0 : Sl cIVar l0_0 v0_0) {l0_1 : List IRule} {v0_1 : PV} (hv0_1 : Sl cIRule l0_1 v0_1) {l1 : List Int} {v1 : PV} (hv1 : Sl (cInt .i64) l1 v1) {r : (List Int) × Bool} (H : impl_bitsState.f k l0_0 l0_1 l1 = some r) : Ret Try.prog 92 [.agg [v0_0, v0_1], v1] fun v S => Own1 (oPr (oRow (oPl (cInt .i64) (oInt .i64))) (oPl cBool oBool)) r .tup v S := by
 unfold impl_bitsState.f at H
 refine Ret.intro Try.func92 rfl (Nat.le_of_ble_eq_true rfl) rfl ?_
 rw [tm2]
 refine Evr.seq (Evr.regionN rfl (Opl.box (cs := [v0_0, v0_1]) rfl rfl rfl rfl ?_))
 rintro i1 S h1 u1 w1
 refine Opl.one rfl rfl (by simp only [go_sem]; rfl) (Opl.one rfl rfl (by simp only [go_sem]; rfl) (Opl.nil (Evr.seq (Evr.seq ?_))))
 refine Evr.join (fun tm S => ∃ (kq1 : Nat) (x18_1 : Bool) (i2 : Abs.Id), impl_bitsState.j0 kq1 l1 x18_1 l0_0 l0_1 = some r ∧ Has tm [(1, v1), (2, .ptr i2 0), (18, .lit (.bool x18_1))] ∧ Box (.ptr i2 0) [v0_0, v0_1] S) ?_ fun hk1 => ?_
 ·
  rintro tm S ⟨kq1, x18_1, i2, H, hh, h2⟩
  rw [hh.eq]
  obtain _ | k1 := kq1
  · simp [impl_bitsState.j0] at H
  simp only [impl_bitsState.j0] at H
  by_cases c1 : x18_1 = true
  case pos =>
   rw [if_pos c1] at H
   obtain rfl : x18_1 = true := by simpa using c1
   refine Evr.condT rfl (Evr.seq (Evr.regionN rfl (Opl.one rfl rfl (by simp only [go_sem]; rfl) (Opl.one rfl rfl (by simp only [go_sem]; rfl) (Opl.nil ?_)))))
   obtain rfl := Option.some.inj H
   refine Evr.ret2 Try.func92 rfl ?_
   show Own1 _ _ _ (.tup [.lit (.slice none 0 0), .lit (.bool false)]) _
   exact ⟨[.lit (.slice none 0 0), .lit (.bool false)], _, rfl, [.lit (.slice none 0 0)], [.lit (.bool false)], _, [], rfl, rfl, (fun _ _ h => by cases h), .inl ⟨rfl, rfl, rfl⟩, rfl, rfl⟩
  rw [if_neg c1] at H
  obtain rfl : x18_1 = false := by simpa using c1
  refine Evr.condF rfl (Evr.skip (Evr.seq (Evr.regionN rfl (Opl.one rfl rfl (by simp only [go_sem]; rfl) (Opl.nil (Evr.seq (Evr.seq (Evr.regionN rfl (Opl.ldb (v := .agg [v0_0, v0_1]) h2 rfl T32 rfl rfl rfl rfl ?_)))))))))
  obtain ⟨t777, h_t777, H⟩ := Option.bind_eq_some_iff.1 H
  refine Opl.call ((impl_bitsOf.ev hv0_0 hv0_1 h_t777).mono fun _ _ h => Out.vec h) rfl rfl rfl rfl ⟨(.aggL ⟨hv0_0.plain, hv0_1.plain, trivial⟩), trivial⟩ (by decide) ?_
  rintro pv1 h3
  refine Opl.len (by exact h3) K26 rfl rfl rfl rfl (Opl.one rfl rfl (by simp only [go_sem]; rfl) (Opl.nil (Evr.block ?_)))
  refine Evr.loop (Evr.rounds (n := k1) (Inv := fun n tm S => n ≤ k1 ∧ ∃ (x1_1 : List Int) (x6_1 : List Int) (x22_1 : Int) (pv2 : PV) (i3 : Abs.Id) (pv3 : PV), impl_bitsState.l0 n x1_1 x6_1 t777 (t777.length : Int) x22_1 l0_0 l0_1 = some r ∧ Has tm [(1, pv2), (2, .ptr i3 0), (6, pv3), (20, pv1), (21, .lit (.int .i64 (t777.length : Int))), (22, .lit (.int .i64 x22_1))] ∧ Sl (cInt .i64) x1_1 pv2 ∧ Box (.ptr i3 0) [v0_0, v0_1] S ∧ Vec (cInt .i64) x6_1 pv3 S ∧ Ap (.ptr i3 0) pv3) ?_ ?_ ?_)
  · exact ⟨Nat.le_refl _, _, _, _, _, _, _, H, ⟨rfl, rfl, rfl, rfl, rfl, rfl, trivial⟩, hv1, h2, .nil, Ap.nil.symm⟩
  ·
   rintro tm S ⟨_, _, _, _, _, _, _, H, -⟩
   simp [impl_bitsState.l0] at H
  ·
   rintro n1 ih1 tm S ⟨hle, x1_1, x6_1, x22_1, pv2, i3, pv3, H, hh, h4, h5, h6, ap1⟩
   simp only [impl_bitsState.l0] at H
   rw [hh.eq]
   refine Evr.seq (Evr.regionN rfl (Opl.one rfl rfl (by simp only [go_sem]; rfl) (Opl.nil (Evr.seq ?_))))
   by_cases c2 : x22_1 < (t777.length : Int)
   case neg =>
    rw [if_neg c2] at H
    have e2 : (decide (x22_1 < (t777.length : Int))) = false := by simpa using c2
    try rw [e2]
    refine Evr.condF rfl (Evr.exit rfl (Evr.seq (Evr.frz 6 h6 rfl ?_)))
    rintro pv8 S h17 u4
    have h18 := u4.box h5 ap1
    refine Evr.frzb 2 h18 rfl ?_
    rintro S u5
    refine Evr.regionL [(1, .n), (2, .p)] rfl (by kernel_rfl) (Opl.one rfl rfl (by simp only [go_sem]; rfl) ?_)
    obtain ⟨t796, h_t796, H⟩ := Option.bind_eq_some_iff.1 H
    refine Opl.calla (impl_clone_int.ev h17 h_t796) rfl rfl rfl rfl ⟨h17.plain, trivial⟩ rfl ?_
    rintro pv9 S h19 u6 w4
    refine Opl.ldp (.agg [v0_0, v0_1]) rfl T32 rfl rfl rfl (Opl.one rfl rfl (by simp only [go_sem]; rfl) ?_)
    obtain ⟨t799, h_t799, H⟩ := Option.bind_eq_some_iff.1 H
    refine Opl.callc (impl_inRange.ev hv0_0 hv0_1 h17 h_t799) rfl rfl rfl rfl ⟨(.aggL ⟨hv0_0.plain, hv0_1.plain, trivial⟩), h17.plain, trivial⟩ (by decide) (Opl.one rfl rfl (by simp only [go_sem]; rfl) (Opl.one rfl rfl (by simp only [go_sem]; rfl) (Opl.nil ?_)))
    obtain rfl := Option.some.inj H
    refine Evr.ret2 Try.func92 rfl ?_
    show Own1 _ _ _ (.tup [pv9, .lit (.bool t799)]) _
    exact ⟨[pv9, .lit (.bool t799)], _, rfl, [pv9], [.lit (.bool t799)], _, [], rfl, rfl, (fun _ _ h => by cases h), h19.tree (oInt .i64), rfl, rfl⟩
   rw [if_pos c2] at H
   have e1 : (decide (x22_1 < (t777.length : Int))) = true := by simpa using c2
   try rw [e1]
   refine Evr.condT rfl (Evr.skip (Evr.seq (Evr.block (Evr.seq (Evr.regionN rfl (Opl.one rfl rfl (by simp only [go_sem]; rfl) ?_))))))
   obtain ⟨c3, H⟩ := peel H
   obtain ⟨c4, H⟩ := peel H
   obtain ⟨c5, H⟩ := peel H
   obtain ⟨c6, H⟩ := peel H
   obtain ⟨c7, H⟩ := peel H
   refine Opl.idx (M := (cInt .i64)) (j := x22_1) (0 : Int) (by exact h3) rfl (by omega) (by omega) K26 Z3 rfl rfl ?_
   rintro p1 q1 h7
   obtain rfl : p1 = [.lit (.int .i64 (rd t777 x22_1))] := h7
   refine Opl.lda (.lit (.int .i64 (rd t777 x22_1))) rfl T3 rfl rfl rfl rfl (Opl.one rfl rfl (by simp only [go_sem]; rfl) (Opl.one rfl rfl (by simp only [go_sem]; rfl) (Opl.nil (Evr.seq (Evr.regionD rfl (by kernel_rfl) (Opl.one rfl rfl (by simp only [go_sem]; rfl) (Opl.one (v := .ptr i3 0) rfl rfl (by simp only [go_sem]; rfl) (Opl.ldb (v := v0_0) h5 rfl T29 rfl rfl rfl rfl (Opl.one rfl rfl (by simp only [go_sem]; rfl) (Opl.idx (M := cIVar) (j := x22_1) zIVar (by exact hv0_0) rfl (by omega) (by omega) K29 Z97 rfl rfl ?_))))))))))
   rintro p2 q2 h8
   obtain rfl := cIVar_R (x := (rd_IVar l0_0 x22_1)) h8
   refine Opl.one (v := .fel ((.lit (.int .i64 ((rd_IVar l0_0 x22_1).f0))) :: (.lit (.int .i64 ((rd_IVar l0_0 x22_1).f1))) :: (.lit (.int .i64 ((rd_IVar l0_0 x22_1).f2))) :: q2)) rfl rfl (by simp only [go_sem]; rfl) (Opl.lda (.lit (.int .i64 ((rd_IVar l0_0 x22_1).f0))) rfl T3 rfl rfl rfl rfl (Opl.one rfl rfl (by simp only [go_sem]; rfl) (Opl.one rfl rfl (by simp only [go_sem]; rfl) (Opl.slcT (M := (cInt .i64)) (b := (rd t777 x22_1)) (by exact h4) rfl  (by omega) (by omega) K26 Z3 rfl rfl rfl ?_))))
   rintro pv4 h9
   obtain ⟨t787, h_t787, H⟩ := Option.bind_eq_some_iff.1 H
   refine Opl.callc (impl_bitsValue.ev h9 h_t787) rfl rfl rfl rfl ⟨h9.plain, trivial⟩ (by decide) (Opl.one rfl rfl (by simp only [go_sem]; rfl) (Opl.lits (M := (cInt .i64)) (ys := [(wrap64 (((rd_IVar l0_0 x22_1).f0) + t787))]) [.tmp 38] K26 T3 rfl rfl rfl (by exact ⟨rfl, trivial⟩) rfl (by decide) rfl rfl rfl ?_))
   rintro pv5 S h10 u2 w2
   have ap2 := w2.box h5
   have h11 := u2.box h5 ap2
   have ap3 := w2.vec h6
   have h12 := u2.vec h6 ap3
   obtain ⟨c8, H⟩ := peel H
   refine Opl.app (M := (cInt .i64)) (xs := x6_1) (ys := [(wrap64 (((rd_IVar l0_0 x22_1).f0) + t787))]) (v := pv3) h12 (.vec h10) (oInt .i64) rfl rfl K26 T3 rfl rfl (by (try simp only [List.length_cons, List.length_nil]); omega) (by show (_ + _) * 8 ≤ 140737488355328; (try simp only [List.length_cons, List.length_nil]); omega) rfl rfl rfl rfl rfl ?_
   rintro pv6 S h13 u3 w3
   have ap4 := w3.box h11
   have h14 := u3.box h11 ap1
   have ap5 := w3.vec h10
   have h15 := u3.vec h10 ap3.symm
   refine Opl.one rfl rfl (by simp only [go_sem]; rfl) (Opl.nil (Evr.regionN rfl (Opl.one rfl rfl (by simp only [go_sem]; rfl) (Opl.one rfl rfl (by simp only [go_sem]; rfl) (Opl.slcD (M := (cInt .i64)) (a := (rd t777 x22_1)) (by exact h4) rfl  (by omega) (by omega) K26 Z3 rfl rfl rfl ?_)))))
   rintro pv7 h16
   refine Opl.one rfl rfl (by simp only [go_sem]; rfl) (Opl.nil (Evr.inBlock (Evr.regionN rfl (Opl.one rfl rfl (by simp only [go_sem]; rfl) (Opl.one rfl rfl (by simp only [go_sem]; rfl) (Opl.nil ?_))))))
   exact ih1 _ (by omega) _ _ ⟨by omega, _, _, _, _, _, _, H, ⟨rfl, rfl, rfl, rfl, rfl, rfl, trivial⟩, h16, h14, h13, ap4⟩
 ·
  refine Evr.regionN rfl (Opl.one rfl rfl (by simp only [go_sem]; rfl) (Opl.len (by exact hv1) K26 rfl rfl rfl rfl (Opl.ldb (v := .agg [v0_0, v0_1]) h1 rfl T32 rfl rfl rfl rfl ?_)))
  obtain ⟨t775, h_t775, H⟩ := Option.bind_eq_some_iff.1 H
  refine Opl.callc (impl_bitCount.ev hv0_0 hv0_1 h_t775) rfl rfl rfl rfl ⟨(.aggL ⟨hv0_0.plain, hv0_1.plain, trivial⟩), trivial⟩ (by decide) (Opl.one rfl rfl (by simp only [go_sem]; rfl) (Opl.one rfl rfl (by simp only [go_sem]; rfl) ?_))
  by_cases c9 : (l1.length : Int) = t775
  case neg =>
   rw [if_neg c9] at H
   have e4 : ((l1.length : Int) != t775) = true := by simpa using c9
   try rw [e4]
   refine Opl.skp rfl (Opl.skp rfl (Opl.skp rfl (Opl.one rfl rfl (by simp only [go_sem]; rfl) (Opl.nil ?_))))
   exact hk1 _ _ ⟨_, _, _, H, ⟨rfl, rfl, (by first | rfl | (show PV.lit (.bool _) = _; congr 2; simp_all)), trivial⟩, h1⟩
  rw [if_pos c9] at H
  have e3 : ((l1.length : Int) != t775) = false := by simpa using c9
  try rw [e3]
  refine Opl.one rfl rfl (by simp only [go_sem]; rfl) ?_
  obtain ⟨t776, h_t776, H⟩ := Option.bind_eq_some_iff.1 H
  refine Opl.callc (impl_bitsValid.ev hv1 h_t776) rfl rfl rfl rfl ⟨hv1.plain, trivial⟩ (by decide) (Opl.one rfl rfl (by simp only [go_sem]; rfl) (Opl.one rfl rfl (by simp only [go_sem]; rfl) (Opl.nil ?_)))
  exact hk1 _ _ ⟨_, _, _, H, ⟨rfl, rfl, (by first | rfl | (show PV.lit (.bool _) = _; congr 2; simp_all)), trivial⟩, h1⟩
theorem impl_clone_Lint.ev {l0 : List (List Int)} {v0 : PV} (hv0 : Sl (cSl (cInt .i64)) l0 v0) {r : List (List Int)} (H : impl_clone_Lint.f l0 = some r) : Ret Try.prog 118 [v0] fun v S => Vec (cSl (cInt .i64)) r v S := by
 unfold impl_clone_Lint.f at H
 refine Ret.intro Try.func118 rfl (Nat.le_of_ble_eq_true rfl) rfl ?_
 rw [tm1]
 obtain ⟨c1, H⟩ := peel H
 obtain rfl := Option.some.inj H
 refine Evr.seq (Evr.regionN rfl (Opl.one rfl rfl (by simp only [go_sem]; rfl) (Opl.nil (Evr.seq (Evr.seq (Evr.regionN rfl (Opl.one rfl rfl (by simp only [go_sem]; rfl) (Opl.len (by exact hv0) K38 rfl rfl rfl rfl (Opl.one rfl rfl (by simp only [go_sem]; rfl) (Opl.nil ?_))))))))))
 by_cases c2 : (l0.length : Int) = 0
 · have e1 : ((l0.length : Int) == 0) = true := by simpa using c2
   try rw [e1]
   refine Evr.condT rfl (Evr.seq (Evr.regionN rfl (Opl.one rfl rfl (by simp only [go_sem]; rfl) (Opl.nil ?_))))
   obtain rfl : l0 = [] := List.eq_nil_of_length_eq_zero (by omega)
   refine Evr.ret1 Try.func118 rfl ?_
   exact .nil
 · have e1 : ((l0.length : Int) == 0) = false := by simpa using c2
   try rw [e1]
   refine Evr.condF rfl (Evr.skip (Evr.seq (Evr.regionN rfl (Opl.one rfl rfl (by simp only [go_sem]; rfl) (Opl.len (by exact hv0) K38 rfl rfl rfl rfl ?_)))))
   refine Opl.make (M := (cSl (cInt .i64))) (m := (l0.length : Int)) ([] : List Int) (by exact ⟨_, rfl, .nil⟩) rfl rfl K38 T26 rfl (by omega) (by show (_ : Nat) * 24 ≤ 281474976710656; omega) (by omega) rfl rfl rfl ?_
   rintro pv1 S h1 u1 w1
   refine Opl.one rfl rfl (by simp only [go_sem]; rfl) (Opl.nil (Evr.seq (Evr.regionN rfl (Opl.one rfl rfl (by simp only [go_sem]; rfl) (Opl.one rfl rfl (by simp only [go_sem]; rfl) ?_)))))
   refine Opl.copy (M := (cSl (cInt .i64))) (ys := l0) h1 (by exact hv0) (oSl (cInt .i64)) rfl (by simp) (by simp; omega) K38 Z26 rfl rfl rfl rfl rfl ?_
   rintro S h2 u2
   refine Opl.nil (Evr.seq (Evr.regionN rfl (Opl.one rfl rfl (by simp only [go_sem]; rfl) (Opl.one rfl rfl (by simp only [go_sem]; rfl) (Opl.nil ?_)))))
   refine Evr.ret1 Try.func118 rfl ?_
   exact h2
theorem impl_clone_Lint.evs {l0 : List (List Int)} {p : PV} {ids : List Abs.Id} {S0 : Sto} (h : (oRow (oRow (oPl (cInt .i64) (oInt .i64)))).R S0 ids l0 [p]) {r : List (List Int)} (H : impl_clone_Lint.f l0 = some r) : RetS Try.prog 118 [p] S0 fun v S => ∃ ids', (oRow (oRow (oPl (cInt .i64) (oInt .i64)))).R S ids' r [v] ∧ Fr S0 ids ids' ∧ Grow S0 S := by
 unfold impl_clone_Lint.f at H
 refine RetS.intro Try.func118 rfl (Nat.le_of_ble_eq_true rfl) rfl ?_
 rw [tm1]
 obtain ⟨c1, H⟩ := peel H
 obtain rfl := Option.some.inj H
 have hlen := oRow_len h
 refine Evr.seq (Evr.regionN rfl (Opl.one rfl rfl (by simp only [go_sem]; rfl) (Opl.nil (Evr.seq (Evr.seq (Evr.regionN rfl (Opl.one rfl rfl (by simp only [go_sem]; rfl) (Opl.leno (by exact hlen) K38 rfl rfl rfl rfl (Opl.one rfl rfl (by simp only [go_sem]; rfl) (Opl.nil ?_))))))))))
 by_cases c2 : (l0.length : Int) = 0
 · have e1 : ((l0.length : Int) == 0) = true := by simpa using c2
   try rw [e1]
   refine Evr.condT rfl (Evr.seq (Evr.regionN rfl (Opl.one rfl rfl (by simp only [go_sem]; rfl) (Opl.nil ?_))))
   obtain rfl : l0 = [] := List.eq_nil_of_length_eq_zero (by omega)
   refine Evr.ret1 Try.func118 rfl ?_
   exact ⟨[], oRow_nil, (fun _ h => by cases h), .refl _⟩
 · have e1 : ((l0.length : Int) == 0) = false := by simpa using c2
   try rw [e1]
   refine Evr.condF rfl (Evr.skip (Evr.seq (Evr.regionN rfl (Opl.one rfl rfl (by simp only [go_sem]; rfl) (Opl.leno (by exact hlen) K38 rfl rfl rfl rfl ?_)))))
   refine Opl.maket (N := (oRow (oPl (cInt .i64) (oInt .i64)))) (m := (l0.length : Int)) ([] : List Int) (by intro S; exact .inl ⟨rfl, rfl, rfl⟩) rfl rfl K38 T26 rfl (by omega) (by show (_ : Nat) * 24 ≤ 281474976710656; omega) (by omega) rfl rfl rfl ?_
   rintro p1 S ids1 h1 f1 g1
   have h2 := g1.tree h
   have hnew := oRow_new h1 f1
   have e3 : (List.replicate ((l0.length : Int)).toNat ([] : List Int)).length = l0.length := by simp
   obtain ⟨_, e0, _⟩ | ⟨d, zs, is, rfl, rfl, hn, hl, hr⟩ := oRow_data h1
   · rw [e0] at e3; simp at e3; omega
   have hz := hr.length
   rw [e3] at hz hnew ⊢
   refine Opl.one rfl rfl (by simp only [go_sem]; rfl) (Opl.nil (Evr.seq (Evr.regionN rfl (Opl.one rfl rfl (by simp only [go_sem]; rfl) (Opl.one rfl rfl (by simp only [go_sem]; rfl) ?_)))))
   refine Opl.copyt (N := (oRow (oPl (cInt .i64) (oInt .i64)))) (xs := l0) hl hz h2 (fun hm => by obtain ⟨o, ho, _⟩ := (oRow (oRow (oPl (cInt .i64) (oInt .i64)))).live h d hm; exact f1 d List.mem_cons_self o ho) (by omega) rfl rfl K38 Z26 rfl rfl rfl rfl rfl ?_
   rintro S ids' h3 m3 u3
   refine Opl.nil (Evr.seq (Evr.regionN rfl (Opl.one rfl rfl (by simp only [go_sem]; rfl) (Opl.one rfl rfl (by simp only [go_sem]; rfl) (Opl.nil ?_)))))
   refine Evr.ret1 Try.func118 rfl ?_
   exact ⟨ids', h3, fun i hi => (m3 i hi).elim (fun e => .inr (by rw [e]; exact f1 d List.mem_cons_self)) .inl, g1.up u3 hnew⟩
theorem impl_pathStates.ev {k : Nat} {l0_0 : List IVar} {v0_0 : PV} (hv0_0 : Sl cIVar l0_0 v0_0) {l0_1 : List IRule} {v0_1 : PV} (hv0_1 : Sl cIRule l0_1 v0_1) {a1 : Int} {l2 : List Int} {v2 : PV} (hv2 : Sl (cInt .i64) l2 v2) {r : (List (List Int))} (H : impl_pathStates.f k l0_0 l0_1 a1 l2 = some r) : Ret Try.prog 117 [.agg [v0_0, v0_1], .lit (.int .i64 a1), v2] fun v S => Vec (cSl (cInt .i64)) r v S := by
 unfold impl_pathStates.f at H
 refine Ret.intro Try.func117 rfl (Nat.le_of_ble_eq_true rfl) rfl ?_
 rw [tm3]
 refine Evr.seq (Evr.regionN rfl (Opl.box (cs := [v0_0, v0_1]) rfl rfl rfl rfl ?_))
 rintro i1 S h1 u1 w1
 refine Opl.one rfl rfl (by simp only [go_sem]; rfl) (Opl.nil (Evr.seq (Evr.regionN rfl (Opl.ldb (v := .agg [v0_0, v0_1]) h1 rfl T32 rfl rfl rfl rfl ?_))))
 obtain ⟨t1237, h_t1237, H⟩ := Option.bind_eq_some_iff.1 H
 refine Opl.callc (impl_bitCount.ev hv0_0 hv0_1 h_t1237) rfl rfl rfl rfl ⟨(.aggL ⟨hv0_0.plain, hv0_1.plain, trivial⟩), trivial⟩ (by decide) (Opl.one rfl rfl (by simp only [go_sem]; rfl) (Opl.nil (Evr.seq (Evr.regionN rfl (Opl.one rfl rfl (by simp only [go_sem]; rfl) (Opl.nil (Evr.seq (Evr.seq (Evr.regionN rfl (Opl.one rfl rfl (by simp only [go_sem]; rfl) (Opl.one rfl rfl (by simp only [go_sem]; rfl) (Opl.one rfl rfl (by simp only [go_sem]; rfl) (Opl.nil (Evr.block ?_))))))))))))))
 refine Evr.loop (Evr.rounds (n := k) (Inv := fun n tm S => n ≤ k ∧ ∃ (x8_1 : List (List Int)) (x16_1 : Int) (i2 : Abs.Id) (pv1 : PV), impl_pathStates.l0 n l2 t1237 x8_1 (wrap64 (a1 + 1)) x16_1 l0_0 l0_1 = some r ∧ Has tm [(2, v2), (3, .ptr i2 0), (7, .lit (.int .i64 t1237)), (8, pv1), (15, .lit (.int .i64 (wrap64 (a1 + 1)))), (16, .lit (.int .i64 x16_1))] ∧ Box (.ptr i2 0) [v0_0, v0_1] S ∧ Vec (cSl (cInt .i64)) x8_1 pv1 S ∧ Ap (.ptr i2 0) pv1) ?_ ?_ ?_)
 · exact ⟨Nat.le_refl _, _, _, _, _, H, ⟨rfl, rfl, rfl, rfl, rfl, rfl, trivial⟩, h1, .nil, Ap.nil.symm⟩
 ·
  rintro tm S ⟨_, _, _, _, _, H, -⟩
  simp [impl_pathStates.l0] at H
 ·
  rintro n1 ih1 tm S ⟨hle, x8_1, x16_1, i2, pv1, H, hh, h2, h3, ap1⟩
  simp only [impl_pathStates.l0] at H
  rw [hh.eq]
  refine Evr.seq (Evr.regionN rfl (Opl.one rfl rfl (by simp only [go_sem]; rfl) (Opl.nil (Evr.seq ?_))))
  by_cases c1 : x16_1 < (wrap64 (a1 + 1))
  case neg =>
   rw [if_neg c1] at H
   have e4 : (decide (x16_1 < (wrap64 (a1 + 1)))) = false := by simpa using c1
   try rw [e4]
   refine Evr.condF rfl (Evr.exit rfl (Evr.seq (Evr.frz 8 h3 rfl ?_)))
   rintro pv7 S h13 u4
   have h14 := u4.box h2 ap1
   refine Evr.regionN rfl (Opl.one rfl rfl (by simp only [go_sem]; rfl) ?_)
   obtain ⟨t1246, h_t1246, H⟩ := Option.bind_eq_some_iff.1 H
   refine Opl.calla (impl_clone_Lint.ev h13 h_t1246) rfl rfl rfl rfl ⟨h13.plain, trivial⟩ rfl ?_
   rintro pv8 S h15 u5 w4
   have ap6 := w4.box h14
   have h16 := u5.box h14 ap6
   refine Opl.one rfl rfl (by simp only [go_sem]; rfl) (Opl.nil ?_)
   obtain rfl := Option.some.inj H
   refine Evr.ret1 Try.func117 rfl ?_
   show Vec _ _ pv8 _
   exact h15
  rw [if_pos c1] at H
  have e1 : (decide (x16_1 < (wrap64 (a1 + 1)))) = true := by simpa using c1
  try rw [e1]
  refine Evr.condT rfl (Evr.skip (Evr.seq (Evr.block (Evr.seq (Evr.regionN rfl (Opl.one rfl rfl (by simp only [go_sem]; rfl) (Opl.one rfl rfl (by simp only [go_sem]; rfl) (Opl.nil (Evr.seq (Evr.regionD rfl (by kernel_rfl) (Opl.ldb (v := .agg [v0_0, v0_1]) h2 rfl T32 rfl rfl rfl rfl (Opl.one rfl rfl (by simp only [go_sem]; rfl) (Opl.one rfl rfl (by simp only [go_sem]; rfl) (Opl.one rfl rfl (by simp only [go_sem]; rfl) (Opl.one rfl rfl (by simp only [go_sem]; rfl) (Opl.one rfl rfl (by simp only [go_sem]; rfl) (Opl.one rfl rfl (by simp only [go_sem]; rfl) (Opl.one rfl rfl (by simp only [go_sem]; rfl) (Opl.one rfl rfl (by simp only [go_sem]; rfl) ?_)))))))))))))))))))
  obtain ⟨c2, H⟩ := peel H
  obtain ⟨c3, H⟩ := peel H
  obtain ⟨c4, H⟩ := peel H
  refine Opl.slcB (M := (cInt .i64)) (a := (wrap64 (x16_1 * t1237))) (b := (wrap64 ((wrap64 (x16_1 + 1)) * t1237))) (by exact hv2) rfl rfl  (by omega) (by omega) (by omega) K26 Z3 rfl rfl rfl ?_
  rintro pv2 h4
  obtain ⟨bt1239, h_bt1239, H⟩ := Option.bind_eq_some_iff.1 H
  refine Opl.call (impl_bitsState.ev hv0_0 hv0_1 h4 h_bt1239) rfl rfl rfl rfl ⟨(.aggL ⟨hv0_0.plain, hv0_1.plain, trivial⟩), h4.plain, trivial⟩ (by decide) ?_
  rintro _ ⟨pv4, _, rfl, h6, rfl⟩
  refine Opl.one rfl rfl (by simp only [go_sem]; rfl) (Opl.one (v := pv4) rfl rfl (by simp only [go_sem]; rfl) (Opl.one (v := .lit (.bool bt1239.2)) rfl rfl (by simp only [go_sem]; rfl) (Opl.one rfl rfl (by simp only [go_sem]; rfl) (Opl.one rfl rfl (by simp only [go_sem]; rfl) (Opl.nil (Evr.seq (Evr.seq (Evr.regionN rfl (Opl.one rfl rfl (by simp only [go_sem]; rfl) (Opl.one rfl rfl (by simp only [go_sem]; rfl) (Opl.nil ?_)))))))))))
  by_cases c5 : bt1239.2 = true
  case neg =>
   rw [if_neg c5] at H
   have e3 : (!bt1239.2) = true := by simpa using c5
   try rw [e3]
   refine Evr.condT rfl (Evr.seq (Evr.regionN rfl (Opl.one rfl rfl (by simp only [go_sem]; rfl) (Opl.nil ?_))))
   obtain rfl := Option.some.inj H
   refine Evr.ret1 Try.func117 rfl ?_
   show Vec _ _ (.lit (.slice none 0 0)) _
   exact .nil
  rw [if_pos c5] at H
  have e2 : (!bt1239.2) = false := by simpa using c5
  try rw [e2]
  refine Evr.condF rfl (Evr.skip (Evr.regionN rfl (Opl.one rfl rfl (by simp only [go_sem]; rfl) (Opl.one rfl rfl (by simp only [go_sem]; rfl) (Opl.lits (M := (cSl (cInt .i64))) (ys := [bt1239.1]) [.tmp 36] K38 T26 rfl rfl rfl (by exact ⟨⟨_, by first | rfl | exact h6.cells, h6⟩, trivial⟩) rfl (by decide) rfl rfl rfl ?_)))))
  rintro pv5 S h7 u2 w2
  have ap2 := w2.box h2
  have h8 := u2.box h2 ap2
  have ap3 := w2.vec h3
  have h9 := u2.vec h3 ap3
  obtain ⟨c6, H⟩ := peel H
  refine Opl.app (M := (cSl (cInt .i64))) (xs := x8_1) (ys := [bt1239.1]) (v := pv1) h9 (.vec h7) (oSl (cInt .i64)) rfl rfl K38 T26 rfl rfl (by (try simp only [List.length_cons, List.length_nil]); omega) (by show (_ + _) * 24 ≤ 140737488355328; (try simp only [List.length_cons, List.length_nil]); omega) rfl rfl rfl rfl rfl ?_
  rintro pv6 S h10 u3 w3
  have ap4 := w3.box h8
  have h11 := u3.box h8 ap1
  have ap5 := w3.vec h7
  have h12 := u3.vec h7 ap3.symm
  refine Opl.one rfl rfl (by simp only [go_sem]; rfl) (Opl.nil (Evr.inBlock (Evr.regionN rfl (Opl.one rfl rfl (by simp only [go_sem]; rfl) (Opl.one rfl rfl (by simp only [go_sem]; rfl) (Opl.nil ?_))))))
  exact ih1 _ (by omega) _ _ ⟨by omega, _, _, _, _, H, ⟨rfl, rfl, rfl, rfl, rfl, rfl, trivial⟩, h11, h10, ap4⟩
theorem impl_pathStates.evo {k : Nat} {l0_0 : List IVar} {v0_0 : PV} (hv0_0 : Sl cIVar l0_0 v0_0) {l0_1 : List IRule} {v0_1 : PV} (hv0_1 : Sl cIRule l0_1 v0_1) {a1 : Int} {l2 : List Int} {v2 : PV} (hv2 : Sl (cInt .i64) l2 v2) {r : (List (List Int))} (H : impl_pathStates.f k l0_0 l0_1 a1 l2 = some r) : Ret Try.prog 117 [.agg [v0_0, v0_1], .lit (.int .i64 a1), v2] fun v S => Own1 (oRow (oRow (oPl (cInt .i64) (oInt .i64)))) r first v S := by
 unfold impl_pathStates.f at H
 refine Ret.intro Try.func117 rfl (Nat.le_of_ble_eq_true rfl) rfl ?_
 rw [tm3]
 refine Evr.seq (Evr.regionN rfl (Opl.box (cs := [v0_0, v0_1]) rfl rfl rfl rfl ?_))
 rintro i1 S h1 u1 w1
 refine Opl.one rfl rfl (by simp only [go_sem]; rfl) (Opl.nil (Evr.seq (Evr.regionN rfl (Opl.ldb (v := .agg [v0_0, v0_1]) h1 rfl T32 rfl rfl rfl rfl ?_))))
 obtain ⟨t1237, h_t1237, H⟩ := Option.bind_eq_some_iff.1 H
 refine Opl.callc (impl_bitCount.ev hv0_0 hv0_1 h_t1237) rfl rfl rfl rfl ⟨(.aggL ⟨hv0_0.plain, hv0_1.plain, trivial⟩), trivial⟩ (by decide) (Opl.one rfl rfl (by simp only [go_sem]; rfl) (Opl.nil (Evr.seq (Evr.regionN rfl (Opl.one rfl rfl (by simp only [go_sem]; rfl) (Opl.nil (Evr.seq (Evr.seq (Evr.regionN rfl (Opl.one rfl rfl (by simp only [go_sem]; rfl) (Opl.one rfl rfl (by simp only [go_sem]; rfl) (Opl.one rfl rfl (by simp only [go_sem]; rfl) (Opl.nil (Evr.block (Evr.frzb 3 h1 rfl ?_)))))))))))))))
 rintro S u2
 refine Evr.loop (Evr.rounds (n := k) (Inv := fun n tm S => n ≤ k ∧ ∃ (x8_1 : List (List Int)) (x16_1 : Int) (pv1 : PV) (ids1 : List Abs.Id), impl_pathStates.l0 n l2 t1237 x8_1 (wrap64 (a1 + 1)) x16_1 l0_0 l0_1 = some r ∧ Has tm [(2, v2), (3, .fel (v0_0 :: v0_1 :: [])), (7, .lit (.int .i64 t1237)), (8, pv1), (15, .lit (.int .i64 (wrap64 (a1 + 1)))), (16, .lit (.int .i64 x16_1))] ∧ (oRow (oRow (oPl (cInt .i64) (oInt .i64)))).R S ids1 x8_1 [pv1]) ?_ ?_ ?_)
 · exact ⟨Nat.le_refl _, _, _, _, _, H, ⟨rfl, rfl, rfl, rfl, rfl, rfl, trivial⟩, oRow_nil⟩
 ·
  rintro tm S ⟨_, _, _, _, _, H, -⟩
  simp [impl_pathStates.l0] at H
 ·
  rintro n1 ih1 tm S ⟨hle, x8_1, x16_1, pv1, ids1, H, hh, h2⟩
  simp only [impl_pathStates.l0] at H
  rw [hh.eq]
  refine Evr.seq (Evr.regionN rfl (Opl.one rfl rfl (by simp only [go_sem]; rfl) (Opl.nil (Evr.seq ?_))))
  by_cases c1 : x16_1 < (wrap64 (a1 + 1))
  case neg =>
   rw [if_neg c1] at H
   have e4 : (decide (x16_1 < (wrap64 (a1 + 1)))) = false := by simpa using c1
   try rw [e4]
   refine Evr.condF rfl (Evr.exit rfl (Evr.seq (Evr.regionN rfl (Opl.one rfl rfl (by simp only [go_sem]; rfl) ?_))))
   obtain ⟨t1246, h_t1246, H⟩ := Option.bind_eq_some_iff.1 H
   refine Opl.calls (impl_clone_Lint.evs h2 h_t1246) rfl rfl rfl rfl rfl ?_
   rintro pv7 S ⟨ids4, h9, f4, g2⟩
   refine Opl.one rfl rfl (by simp only [go_sem]; rfl) (Opl.nil ?_)
   obtain rfl := Option.some.inj H
   refine Evr.ret1 Try.func117 rfl ?_
   show Own1 _ _ _ pv7 _
   exact ⟨[pv7], _, rfl, h9⟩
  rw [if_pos c1] at H
  have e1 : (decide (x16_1 < (wrap64 (a1 + 1)))) = true := by simpa using c1
  try rw [e1]
  refine Evr.condT rfl (Evr.skip (Evr.seq (Evr.block (Evr.seq (Evr.regionN rfl (Opl.one rfl rfl (by simp only [go_sem]; rfl) (Opl.one rfl rfl (by simp only [go_sem]; rfl) (Opl.nil (Evr.seq (Evr.regionL [(10, .n), (0, .p)] rfl (by kernel_rfl) (Opl.ldp (.agg [v0_0, v0_1]) rfl T32 rfl rfl rfl (Opl.one rfl rfl (by simp only [go_sem]; rfl) (Opl.one rfl rfl (by simp only [go_sem]; rfl) (Opl.one rfl rfl (by simp only [go_sem]; rfl) (Opl.one rfl rfl (by simp only [go_sem]; rfl) (Opl.one rfl rfl (by simp only [go_sem]; rfl) (Opl.one rfl rfl (by simp only [go_sem]; rfl) (Opl.one rfl rfl (by simp only [go_sem]; rfl) (Opl.one rfl rfl (by simp only [go_sem]; rfl) ?_)))))))))))))))))))
  obtain ⟨c2, H⟩ := peel H
  obtain ⟨c3, H⟩ := peel H
  obtain ⟨c4, H⟩ := peel H
  refine Opl.slcB (M := (cInt .i64)) (a := (wrap64 (x16_1 * t1237))) (b := (wrap64 ((wrap64 (x16_1 + 1)) * t1237))) (by exact hv2) rfl rfl  (by omega) (by omega) (by omega) K26 Z3 rfl rfl rfl ?_
  rintro pv2 h3
  obtain ⟨bt1239, h_bt1239, H⟩ := Option.bind_eq_some_iff.1 H
  refine Opl.callg2 (.pl (sInt .i64)) sBool (c0 := (.bool bt1239.2)) (fun _ h => h) (impl_bitsState.evo hv0_0 hv0_1 h3 h_bt1239) rfl rfl rfl (.cons (.refl _) (.cons (.refl _) .nil)) ⟨(.aggL ⟨hv0_0.plain, hv0_1.plain, trivial⟩), h3.plain, trivial⟩ rfl ?_
  rintro pv3 S ids_ ht_ f1 g1
  obtain ⟨h4, rfl⟩ := tree_vec ht_
  have ap1 := (f1.tree h2).apT
  have h5 := g1.tree h2
  refine Opl.one rfl rfl (by simp only [go_sem]; rfl) (Opl.one (v := pv3) rfl rfl (by simp only [go_sem]; rfl) (Opl.one (v := .lit (.bool bt1239.2)) rfl rfl (by simp only [go_sem]; rfl) (Opl.one rfl rfl (by simp only [go_sem]; rfl) (Opl.one rfl rfl (by simp only [go_sem]; rfl) (Opl.nil (Evr.seq (Evr.seq (Evr.regionN rfl (Opl.one rfl rfl (by simp only [go_sem]; rfl) (Opl.one rfl rfl (by simp only [go_sem]; rfl) (Opl.nil ?_)))))))))))
  by_cases c5 : bt1239.2 = true
  case neg =>
   rw [if_neg c5] at H
   have e3 : (!bt1239.2) = true := by simpa using c5
   try rw [e3]
   refine Evr.condT rfl (Evr.seq (Evr.regionN rfl (Opl.one rfl rfl (by simp only [go_sem]; rfl) (Opl.nil ?_))))
   obtain rfl := Option.some.inj H
   refine Evr.ret1 Try.func117 rfl ?_
   show Own1 _ _ _ (.lit (.slice none 0 0)) _
   exact ⟨[.lit (.slice none 0 0)], _, rfl, oRow_nil⟩
  rw [if_pos c5] at H
  have e2 : (!bt1239.2) = false := by simpa using c5
  try rw [e2]
  refine Evr.condF rfl (Evr.skip (Evr.regionN rfl (Opl.one rfl rfl (by simp only [go_sem]; rfl) (Opl.one rfl rfl (by simp only [go_sem]; rfl) (Opl.litt (N := (oRow (oPl (cInt .i64) (oInt .i64)))) (ys := [bt1239.1]) (idy := pv3.id?.toList) [.tmp 36] K38 T26 rfl rfl rfl (fun x hx => by obtain rfl := List.mem_singleton.1 hx; exact (congrArg List.length (Vec.cells h4)).trans rfl) (by show RowsO _ _ _ _ (PV.cells pv3 ++ []); rw [(Vec.cells h4)]; exact RowsO.one (h4.tree (oInt .i64))) rfl rfl (Nat.le_of_ble_eq_true rfl) rfl rfl rfl ?_)))))
  rintro pv5 S ids2 h6 f2 u3 w2
  have ap2 := w2.tree h5
  have ap3 := f2.tree ap1.apt h5
  have h7 := u3.tree h5 ap2
  obtain ⟨c6, H⟩ := peel H
  refine Opl.appt (N := (oRow (oPl (cInt .i64) (oInt .i64)))) (xs := x8_1) (ys := [bt1239.1]) h7 h6 ap3 rfl rfl K38 T26 rfl rfl (by (try simp only [List.length_cons, List.length_nil]); omega) (by show (_ + _) * 24 ≤ 140737488355328; (try simp only [List.length_cons, List.length_nil]); omega) rfl rfl rfl rfl rfl ?_
  rintro pv6 S ids3 h8 f3 u4 w3
  refine Opl.one rfl rfl (by simp only [go_sem]; rfl) (Opl.nil (Evr.inBlock (Evr.regionN rfl (Opl.one rfl rfl (by simp only [go_sem]; rfl) (Opl.one rfl rfl (by simp only [go_sem]; rfl) (Opl.nil ?_))))))
  exact ih1 _ (by omega) _ _ ⟨by omega, _, _, _, _, H, ⟨rfl, rfl, rfl, rfl, rfl, rfl, trivial⟩, h8⟩
theorem impl_PathStates.ev {k : Nat} {l0_0 : List IVar} {v0_0 : PV} (hv0_0 : Sl cIVar l0_0 v0_0) {l0_1 : List IRule} {v0_1 : PV} (hv0_1 : Sl cIRule l0_1 v0_1) {a1 : Int} {l2 : List Int} {v2 : PV} (hv2 : Sl (cInt .i64) l2 v2) {r : (List (List Int))} (H : impl_PathStates.f k l0_0 l0_1 a1 l2 = some r) : Ret Try.prog 49 [.agg [v0_0, v0_1], .lit (.int .i64 a1), v2] fun v S => Vec (cSl (cInt .i64)) r v S := by
 unfold impl_PathStates.f at H
 refine Ret.intro Try.func49 rfl (Nat.le_of_ble_eq_true rfl) rfl ?_
 rw [tm3]
 refine Evr.seq (Evr.regionN rfl (Opl.box (cs := [v0_0, v0_1]) rfl rfl rfl rfl ?_))
 rintro i1 S h1 u1 w1
 refine Opl.one rfl rfl (by simp only [go_sem]; rfl) (Opl.nil (Evr.seq (Evr.seq ?_)))
 refine Evr.join (fun tm S => ∃ (kq1 : Nat) (x29_1 : Bool) (i2 : Abs.Id), impl_PathStates.j0 kq1 a1 l2 x29_1 l0_0 l0_1 = some r ∧ Has tm [(1, .lit (.int .i64 a1)), (2, v2), (3, .ptr i2 0), (29, .lit (.bool x29_1))] ∧ Box (.ptr i2 0) [v0_0, v0_1] S) ?_ fun hk1 => ?_
 ·
  rintro tm S ⟨kq1, x29_1, i2, H, hh, h2⟩
  rw [hh.eq]
  obtain _ | k1 := kq1
  · simp [impl_PathStates.j0] at H
  simp only [impl_PathStates.j0] at H
  by_cases c1 : x29_1 = true
  case pos =>
   rw [if_pos c1] at H
   obtain rfl : x29_1 = true := by simpa using c1
   refine Evr.condT rfl (Evr.seq (Evr.regionN rfl (Opl.one rfl rfl (by simp only [go_sem]; rfl) (Opl.nil ?_))))
   obtain rfl := Option.some.inj H
   refine Evr.ret1 Try.func49 rfl ?_
   show Vec _ _ (.lit (.slice none 0 0)) _
   exact .nil
  rw [if_neg c1] at H
  obtain rfl : x29_1 = false := by simpa using c1
  refine Evr.condF rfl (Evr.skip (Evr.seq (Evr.regionN rfl (Opl.ldb (v := .agg [v0_0, v0_1]) h2 rfl T32 rfl rfl rfl rfl (Opl.one rfl rfl (by simp only [go_sem]; rfl) (Opl.one rfl rfl (by simp only [go_sem]; rfl) ?_))))))
  obtain ⟨t1254, h_t1254, H⟩ := Option.bind_eq_some_iff.1 H
  refine Opl.calla (impl_pathStates.ev hv0_0 hv0_1 hv2 h_t1254) rfl rfl rfl rfl ⟨(.aggL ⟨hv0_0.plain, hv0_1.plain, trivial⟩), (.lit _), hv2.plain, trivial⟩ rfl ?_
  rintro pv1 S h3 u2 w2
  have ap1 := w2.box h2
  have h4 := u2.box h2 ap1
  refine Opl.one rfl rfl (by simp only [go_sem]; rfl) (Opl.nil ?_)
  obtain rfl := Option.some.inj H
  refine Evr.ret1 Try.func49 rfl ?_
  show Vec _ _ pv1 _
  exact h3
 ·
  refine Evr.regionN rfl (Opl.ldb (v := .agg [v0_0, v0_1]) h1 rfl T32 rfl rfl rfl rfl ?_)
  obtain ⟨t1250, h_t1250, H⟩ := Option.bind_eq_some_iff.1 H
  refine Opl.callc (impl_narrow.ev hv0_0 hv0_1 h_t1250) rfl rfl rfl rfl ⟨(.aggL ⟨hv0_0.plain, hv0_1.plain, trivial⟩), trivial⟩ (by decide) (Opl.one rfl rfl (by simp only [go_sem]; rfl) (Opl.one rfl rfl (by simp only [go_sem]; rfl) ?_))
  by_cases c2 : t1250 = true
  case neg =>
   rw [if_neg c2] at H
   have e6 : (!t1250) = true := by simpa using c2
   try rw [e6]
   refine Opl.skp rfl (Opl.skp rfl (Opl.skp rfl (Opl.one rfl rfl (by simp only [go_sem]; rfl) (Opl.one rfl rfl (by simp only [go_sem]; rfl) (Opl.skp rfl (Opl.skp rfl (Opl.skp rfl (Opl.skp rfl (Opl.skp rfl (Opl.skp rfl (Opl.skp rfl (Opl.skp rfl (Opl.one rfl rfl (by simp only [go_sem]; rfl) (Opl.one rfl rfl (by simp only [go_sem]; rfl) (Opl.skp rfl (Opl.skp rfl (Opl.skp rfl (Opl.one rfl rfl (by simp only [go_sem]; rfl) (Opl.nil ?_)))))))))))))))))))
   exact hk1 _ _ ⟨_, _, _, H, ⟨rfl, rfl, rfl, (by first | rfl | (show PV.lit (.bool _) = _; congr 2; simp_all)), trivial⟩, h1⟩
  rw [if_pos c2] at H
  have e1 : (!t1250) = false := by simpa using c2
  try rw [e1]
  refine Opl.one rfl rfl (by simp only [go_sem]; rfl) ?_
  obtain ⟨t1251, h_t1251, H⟩ := Option.bind_eq_some_iff.1 H
  refine Opl.callc (impl_in.ev h_t1251) rfl rfl rfl rfl ⟨(.lit _), (.lit _), (.lit _), trivial⟩ (by decide) (Opl.one rfl rfl (by simp only [go_sem]; rfl) (Opl.one rfl rfl (by simp only [go_sem]; rfl) (Opl.one rfl rfl (by simp only [go_sem]; rfl) ?_)))
  by_cases c3 : t1251 = true
  case neg =>
   rw [if_neg c3] at H
   have e5 : (!t1251) = true := by simpa using c3
   try rw [e5]
   refine Opl.skp rfl (Opl.skp rfl (Opl.skp rfl (Opl.skp rfl (Opl.skp rfl (Opl.skp rfl (Opl.skp rfl (Opl.skp rfl (Opl.one rfl rfl (by simp only [go_sem]; rfl) (Opl.one rfl rfl (by simp only [go_sem]; rfl) (Opl.skp rfl (Opl.skp rfl (Opl.skp rfl (Opl.one rfl rfl (by simp only [go_sem]; rfl) (Opl.nil ?_))))))))))))))
   exact hk1 _ _ ⟨_, _, _, H, ⟨rfl, rfl, rfl, (by first | rfl | (show PV.lit (.bool _) = _; congr 2; simp_all)), trivial⟩, h1⟩
  rw [if_pos c3] at H
  have e2 : (!t1251) = false := by simpa using c3
  try rw [e2]
  refine Opl.one rfl rfl (by simp only [go_sem]; rfl) (Opl.len (by exact hv2) K26 rfl rfl rfl rfl (Opl.one rfl rfl (by simp only [go_sem]; rfl) (Opl.one rfl rfl (by simp only [go_sem]; rfl) (Opl.ldb (v := .agg [v0_0, v0_1]) h1 rfl T32 rfl rfl rfl rfl ?_))))
  obtain ⟨t1252, h_t1252, H⟩ := Option.bind_eq_some_iff.1 H
  refine Opl.callc (impl_bitCount.ev hv0_0 hv0_1 h_t1252) rfl rfl rfl rfl ⟨(.aggL ⟨hv0_0.plain, hv0_1.plain, trivial⟩), trivial⟩ (by decide) (Opl.one rfl rfl (by simp only [go_sem]; rfl) (Opl.one rfl rfl (by simp only [go_sem]; rfl) (Opl.one rfl rfl (by simp only [go_sem]; rfl) (Opl.one rfl rfl (by simp only [go_sem]; rfl) ?_))))
  by_cases c4 : (l2.length : Int) < (wrap64 ((wrap64 (a1 + 1)) * t1252))
  case pos =>
   rw [if_pos c4] at H
   have e3 : (decide ((l2.length : Int) < (wrap64 ((wrap64 (a1 + 1)) * t1252)))) = true := by simpa using c4
   try rw [e3]
   refine Opl.skp rfl (Opl.skp rfl (Opl.skp rfl (Opl.one rfl rfl (by simp only [go_sem]; rfl) (Opl.nil ?_))))
   exact hk1 _ _ ⟨_, _, _, H, ⟨rfl, rfl, rfl, (by first | rfl | (show PV.lit (.bool _) = _; congr 2; simp_all)), trivial⟩, h1⟩
  rw [if_neg c4] at H
  have e4 : (decide ((l2.length : Int) < (wrap64 ((wrap64 (a1 + 1)) * t1252)))) = false := by simpa using c4
  try rw [e4]
  refine Opl.one rfl rfl (by simp only [go_sem]; rfl) ?_
  obtain ⟨t1253, h_t1253, H⟩ := Option.bind_eq_some_iff.1 H
  refine Opl.callc (impl_bitsValid.ev hv2 h_t1253) rfl rfl rfl rfl ⟨hv2.plain, trivial⟩ (by decide) (Opl.one rfl rfl (by simp only [go_sem]; rfl) (Opl.one rfl rfl (by simp only [go_sem]; rfl) (Opl.nil ?_)))
  exact hk1 _ _ ⟨_, _, _, H, ⟨rfl, rfl, rfl, (by first | rfl | (show PV.lit (.bool _) = _; congr 2; simp_all)), trivial⟩, h1⟩
theorem impl_PathStates.evo {k : Nat} {l0_0 : List IVar} {v0_0 : PV} (hv0_0 : Sl cIVar l0_0 v0_0) {l0_1 : List IRule} {v0_1 : PV} (hv0_1 : Sl cIRule l0_1 v0_1) {a1 : Int} {l2 : List Int} {v2 : PV} (hv2 : Sl (cInt .i64) l2 v2) {r : (List (List Int))} (H : impl_PathStates.f k l0_0 l0_1 a1 l2 = some r) : Ret Try.prog 49 [.agg [v0_0, v0_1], .lit (.int .i64 a1), v2] fun v S => Own1 (oRow (oRow (oPl (cInt .i64) (oInt .i64)))) r first v S := by
 unfold impl_PathStates.f at H
 refine Ret.intro Try.func49 rfl (Nat.le_of_ble_eq_true rfl) rfl ?_
 rw [tm3]
 refine Evr.seq (Evr.regionN rfl (Opl.box (cs := [v0_0, v0_1]) rfl rfl rfl rfl ?_))
 rintro i1 S h1 u1 w1
 refine Opl.one rfl rfl (by simp only [go_sem]; rfl) (Opl.nil (Evr.seq (Evr.seq ?_)))
 refine Evr.join (fun tm S => ∃ (kq1 : Nat) (x29_1 : Bool) (i2 : Abs.Id), impl_PathStates.j0 kq1 a1 l2 x29_1 l0_0 l0_1 = some r ∧ Has tm [(1, .lit (.int .i64 a1)), (2, v2), (3, .ptr i2 0), (29, .lit (.bool x29_1))] ∧ Box (.ptr i2 0) [v0_0, v0_1] S) ?_ fun hk1 => ?_
 ·
  rintro tm S ⟨kq1, x29_1, i2, H, hh, h2⟩
  rw [hh.eq]
  obtain _ | k1 := kq1
  · simp [impl_PathStates.j0] at H
  simp only [impl_PathStates.j0] at H
  by_cases c1 : x29_1 = true
  case pos =>
   rw [if_pos c1] at H
   obtain rfl : x29_1 = true := by simpa using c1
   refine Evr.condT rfl (Evr.seq (Evr.regionN rfl (Opl.one rfl rfl (by simp only [go_sem]; rfl) (Opl.nil ?_))))
   obtain rfl := Option.some.inj H
   refine Evr.ret1 Try.func49 rfl ?_
   show Own1 _ _ _ (.lit (.slice none 0 0)) _
   exact ⟨[.lit (.slice none 0 0)], _, rfl, oRow_nil⟩
  rw [if_neg c1] at H
  obtain rfl : x29_1 = false := by simpa using c1
  refine Evr.condF rfl (Evr.skip (Evr.seq (Evr.regionN rfl (Opl.ldb (v := .agg [v0_0, v0_1]) h2 rfl T32 rfl rfl rfl rfl (Opl.one rfl rfl (by simp only [go_sem]; rfl) (Opl.one rfl rfl (by simp only [go_sem]; rfl) ?_))))))
  obtain ⟨t1254, h_t1254, H⟩ := Option.bind_eq_some_iff.1 H
  refine Opl.callg1 (.row (.pl (sInt .i64))) (impl_pathStates.evo hv0_0 hv0_1 hv2 h_t1254) rfl rfl rfl (.cons (.refl _) (.cons (.refl _) (.cons (.refl _) .nil))) ⟨(.aggL ⟨hv0_0.plain, hv0_1.plain, trivial⟩), (.lit _), hv2.plain, trivial⟩ rfl ?_
  rintro pv1 S ids1 h3 f1 g1
  have ap1 := f1.box h2
  have h4 := g1.box h2
  refine Opl.one rfl rfl (by simp only [go_sem]; rfl) (Opl.nil ?_)
  obtain rfl := Option.some.inj H
  refine Evr.ret1 Try.func49 rfl ?_
  show Own1 _ _ _ pv1 _
  exact ⟨[pv1], _, rfl, h3⟩
 ·
  refine Evr.regionN rfl (Opl.ldb (v := .agg [v0_0, v0_1]) h1 rfl T32 rfl rfl rfl rfl ?_)
  obtain ⟨t1250, h_t1250, H⟩ := Option.bind_eq_some_iff.1 H
  refine Opl.callc (impl_narrow.ev hv0_0 hv0_1 h_t1250) rfl rfl rfl rfl ⟨(.aggL ⟨hv0_0.plain, hv0_1.plain, trivial⟩), trivial⟩ (by decide) (Opl.one rfl rfl (by simp only [go_sem]; rfl) (Opl.one rfl rfl (by simp only [go_sem]; rfl) ?_))
  by_cases c2 : t1250 = true
  case neg =>
   rw [if_neg c2] at H
   have e6 : (!t1250) = true := by simpa using c2
   try rw [e6]
   refine Opl.skp rfl (Opl.skp rfl (Opl.skp rfl (Opl.one rfl rfl (by simp only [go_sem]; rfl) (Opl.one rfl rfl (by simp only [go_sem]; rfl) (Opl.skp rfl (Opl.skp rfl (Opl.skp rfl (Opl.skp rfl (Opl.skp rfl (Opl.skp rfl (Opl.skp rfl (Opl.skp rfl (Opl.one rfl rfl (by simp only [go_sem]; rfl) (Opl.one rfl rfl (by simp only [go_sem]; rfl) (Opl.skp rfl (Opl.skp rfl (Opl.skp rfl (Opl.one rfl rfl (by simp only [go_sem]; rfl) (Opl.nil ?_)))))))))))))))))))
   exact hk1 _ _ ⟨_, _, _, H, ⟨rfl, rfl, rfl, (by first | rfl | (show PV.lit (.bool _) = _; congr 2; simp_all)), trivial⟩, h1⟩
  rw [if_pos c2] at H
  have e1 : (!t1250) = false := by simpa using c2
  try rw [e1]
  refine Opl.one rfl rfl (by simp only [go_sem]; rfl) ?_
  obtain ⟨t1251, h_t1251, H⟩ := Option.bind_eq_some_iff.1 H
  refine Opl.callc (impl_in.ev h_t1251) rfl rfl rfl rfl ⟨(.lit _), (.lit _), (.lit _), trivial⟩ (by decide) (Opl.one rfl rfl (by simp only [go_sem]; rfl) (Opl.one rfl rfl (by simp only [go_sem]; rfl) (Opl.one rfl rfl (by simp only [go_sem]; rfl) ?_)))
  by_cases c3 : t1251 = true
  case neg =>
   rw [if_neg c3] at H
   have e5 : (!t1251) = true := by simpa using c3
   try rw [e5]
   refine Opl.skp rfl (Opl.skp rfl (Opl.skp rfl (Opl.skp rfl (Opl.skp rfl (Opl.skp rfl (Opl.skp rfl (Opl.skp rfl (Opl.one rfl rfl (by simp only [go_sem]; rfl) (Opl.one rfl rfl (by simp only [go_sem]; rfl) (Opl.skp rfl (Opl.skp rfl (Opl.skp rfl (Opl.one rfl rfl (by simp only [go_sem]; rfl) (Opl.nil ?_))))))))))))))
   exact hk1 _ _ ⟨_, _, _, H, ⟨rfl, rfl, rfl, (by first | rfl | (show PV.lit (.bool _) = _; congr 2; simp_all)), trivial⟩, h1⟩
  rw [if_pos c3] at H
  have e2 : (!t1251) = false := by simpa using c3
  try rw [e2]
  refine Opl.one rfl rfl (by simp only [go_sem]; rfl) (Opl.len (by exact hv2) K26 rfl rfl rfl rfl (Opl.one rfl rfl (by simp only [go_sem]; rfl) (Opl.one rfl rfl (by simp only [go_sem]; rfl) (Opl.ldb (v := .agg [v0_0, v0_1]) h1 rfl T32 rfl rfl rfl rfl ?_))))
  obtain ⟨t1252, h_t1252, H⟩ := Option.bind_eq_some_iff.1 H
  refine Opl.callc (impl_bitCount.ev hv0_0 hv0_1 h_t1252) rfl rfl rfl rfl ⟨(.aggL ⟨hv0_0.plain, hv0_1.plain, trivial⟩), trivial⟩ (by decide) (Opl.one rfl rfl (by simp only [go_sem]; rfl) (Opl.one rfl rfl (by simp only [go_sem]; rfl) (Opl.one rfl rfl (by simp only [go_sem]; rfl) (Opl.one rfl rfl (by simp only [go_sem]; rfl) ?_))))
  by_cases c4 : (l2.length : Int) < (wrap64 ((wrap64 (a1 + 1)) * t1252))
  case pos =>
   rw [if_pos c4] at H
   have e3 : (decide ((l2.length : Int) < (wrap64 ((wrap64 (a1 + 1)) * t1252)))) = true := by simpa using c4
   try rw [e3]
   refine Opl.skp rfl (Opl.skp rfl (Opl.skp rfl (Opl.one rfl rfl (by simp only [go_sem]; rfl) (Opl.nil ?_))))
   exact hk1 _ _ ⟨_, _, _, H, ⟨rfl, rfl, rfl, (by first | rfl | (show PV.lit (.bool _) = _; congr 2; simp_all)), trivial⟩, h1⟩
  rw [if_neg c4] at H
  have e4 : (decide ((l2.length : Int) < (wrap64 ((wrap64 (a1 + 1)) * t1252)))) = false := by simpa using c4
  try rw [e4]
  refine Opl.one rfl rfl (by simp only [go_sem]; rfl) ?_
  obtain ⟨t1253, h_t1253, H⟩ := Option.bind_eq_some_iff.1 H
  refine Opl.callc (impl_bitsValid.ev hv2 h_t1253) rfl rfl rfl rfl ⟨hv2.plain, trivial⟩ (by decide) (Opl.one rfl rfl (by simp only [go_sem]; rfl) (Opl.one rfl rfl (by simp only [go_sem]; rfl) (Opl.nil ?_)))
  exact hk1 _ _ ⟨_, _, _, H, ⟨rfl, rfl, rfl, (by first | rfl | (show PV.lit (.bool _) = _; congr 2; simp_all)), trivial⟩, h1⟩
end Go.Proofs.Ytblhlpllkpcolaa.PA
end
