/- Walks of Go functions: each is shown to answer as the Lean function beside it tells, under the conditions that its theorem names. -/
import Derived.Test.YtblhlpllkpcolaaProg
import Derived.KernelRfl
import Derived.Below
import Derived.Deep.Draws
import Derived.Deep.AppendLies
import Derived.Maps.AppendAt
import Derived.OwnWalk
import Derived.Laws.BytesArg
import Derived.Laws.MakeOwn
import Derived.Laws.OwnMore
import Derived.Deep.OwnRows
import Derived.Tactics
import Derived.Lib.ConvBytes
import Derived.Laws.Slices
import Derived.WalkKit
import Derived.RowKit3
import Derived.Deep.LoopGhost
import Derived.Deep.QuietTactic
import Derived.BigQuiet
import Derived.WideLaws
import Derived.Deep.DeepCutAuto
import Derived.Deep.CutBlock
import Derived.Deep.RegionHeld3
import Derived.Laws.Rows
import Derived.Lib.AppendStr
import Derived.ArgAppend
import Derived.Laws.IdiomCopy
import Derived.OrdersHeld
import Derived.Laws.BitsLemmas
import Derived.RowKit
import Derived.Laws.StructEq
import Derived.Lib.SliceRun
import Derived.WalkSpells
import Derived.ChangeArms
import Derived.ChangeSlices
import Derived.Deep.Slices
import Derived.Attr
import Derived.Laws.Append
import Derived.Laws.AppendOwn
import Derived.Laws.Entries
import Derived.Calls
import Derived.Laws.Sem
import Derived.Test.YtblhlpllkpcolaaKW9437bf0fbc
import Derived.Test.YtblhlpllkpcolaaKD668c443955
section
namespace Go.Proofs.Ytblhlpllkpcolaa.PA
open Go Go.Abs Go.RowKit Go.Proofs Go.Proofs.YtblhlpllkpcolaaW.PrintWords Go.Proofs.YtblhlpllkpcolaaW.PrintLast Go.Proofs.YtblhlpllkpcolaaW.PrintMore
set_option maxRecDepth 100000
theorem K3 : tkAt Try.prog 3 = some (.int .i64) := by kernel_rfl
theorem Z3 : szAt Try.prog 3 = some 1 := by kernel_rfl
theorem T3 : tiOf Try.prog 3 = some ⟨(.int .i64), 1, 8, [.int .i64 0], []⟩ := by kernel_rfl
theorem K4 : tkAt Try.prog 4 = some .bool := by kernel_rfl
theorem Z4 : szAt Try.prog 4 = some 1 := by kernel_rfl
theorem T4 : tiOf Try.prog 4 = some ⟨.bool, 1, 1, [.bool false], []⟩ := by kernel_rfl
theorem K22 : tkAt Try.prog 22 = some (.slice 123) := by kernel_rfl
theorem Z22 : szAt Try.prog 22 = some 1 := by kernel_rfl
theorem T22 : tiOf Try.prog 22 = some ⟨(.slice 123), 1, 24, [.slice none 0 0], []⟩ := by kernel_rfl
theorem K23 : tkAt Try.prog 23 = some (.slice 121) := by kernel_rfl
theorem Z23 : szAt Try.prog 23 = some 1 := by kernel_rfl
theorem T23 : tiOf Try.prog 23 = some ⟨(.slice 121), 1, 24, [.slice none 0 0], []⟩ := by kernel_rfl
theorem K25 : tkAt Try.prog 25 = some .strct := by kernel_rfl
theorem Z25 : szAt Try.prog 25 = some 2 := by kernel_rfl
theorem T25 : tiOf Try.prog 25 = some ⟨.strct, 2, 48, [.slice none 0 0, .slice none 0 0], [⟨0, 1, (.slice 123)⟩, ⟨1, 1, (.slice 121)⟩]⟩ := by kernel_rfl
theorem K26 : tkAt Try.prog 26 = some (.slice 3) := by kernel_rfl
theorem Z26 : szAt Try.prog 26 = some 1 := by kernel_rfl
theorem T26 : tiOf Try.prog 26 = some ⟨(.slice 3), 1, 24, [.slice none 0 0], []⟩ := by kernel_rfl
theorem K29 : tkAt Try.prog 29 = some (.slice 97) := by kernel_rfl
theorem Z29 : szAt Try.prog 29 = some 1 := by kernel_rfl
theorem T29 : tiOf Try.prog 29 = some ⟨(.slice 97), 1, 24, [.slice none 0 0], []⟩ := by kernel_rfl
theorem K30 : tkAt Try.prog 30 = some (.slice 125) := by kernel_rfl
theorem Z30 : szAt Try.prog 30 = some 1 := by kernel_rfl
theorem T30 : tiOf Try.prog 30 = some ⟨(.slice 125), 1, 24, [.slice none 0 0], []⟩ := by kernel_rfl
theorem K32 : tkAt Try.prog 32 = some .strct := by kernel_rfl
theorem Z32 : szAt Try.prog 32 = some 2 := by kernel_rfl
theorem T32 : tiOf Try.prog 32 = some ⟨.strct, 2, 48, [.slice none 0 0, .slice none 0 0], [⟨0, 1, (.slice 97)⟩, ⟨1, 1, (.slice 125)⟩]⟩ := by kernel_rfl
theorem K38 : tkAt Try.prog 38 = some (.slice 26) := by kernel_rfl
theorem Z38 : szAt Try.prog 38 = some 1 := by kernel_rfl
theorem T38 : tiOf Try.prog 38 = some ⟨(.slice 26), 1, 24, [.slice none 0 0], []⟩ := by kernel_rfl
theorem K43 : tkAt Try.prog 43 = some .strct := by kernel_rfl
theorem Z43 : szAt Try.prog 43 = some 2 := by kernel_rfl
theorem T43 : tiOf Try.prog 43 = some ⟨.strct, 2, 48, [.slice none 0 0, .slice none 0 0], [⟨0, 1, (.slice 26)⟩, ⟨1, 1, (.slice 3)⟩]⟩ := by kernel_rfl
theorem K57 : tkAt Try.prog 57 = some (.slice 108) := by kernel_rfl
theorem Z57 : szAt Try.prog 57 = some 1 := by kernel_rfl
theorem T57 : tiOf Try.prog 57 = some ⟨(.slice 108), 1, 24, [.slice none 0 0], []⟩ := by kernel_rfl
theorem K60 : tkAt Try.prog 60 = some (.slice 106) := by kernel_rfl
theorem Z60 : szAt Try.prog 60 = some 1 := by kernel_rfl
theorem T60 : tiOf Try.prog 60 = some ⟨(.slice 106), 1, 24, [.slice none 0 0], []⟩ := by kernel_rfl
theorem K71 : tkAt Try.prog 71 = some (.slice 57) := by kernel_rfl
theorem Z71 : szAt Try.prog 71 = some 1 := by kernel_rfl
theorem T71 : tiOf Try.prog 71 = some ⟨(.slice 57), 1, 24, [.slice none 0 0], []⟩ := by kernel_rfl
theorem K74 : tkAt Try.prog 74 = some (.slice 60) := by kernel_rfl
theorem Z74 : szAt Try.prog 74 = some 1 := by kernel_rfl
theorem T74 : tiOf Try.prog 74 = some ⟨(.slice 60), 1, 24, [.slice none 0 0], []⟩ := by kernel_rfl
theorem K94 : tkAt Try.prog 94 = some .func := by kernel_rfl
theorem Z94 : szAt Try.prog 94 = some 1 := by kernel_rfl
theorem T94 : tiOf Try.prog 94 = some ⟨.func, 1, 8, [.nilFunc], []⟩ := by kernel_rfl
theorem K97 : tkAt Try.prog 97 = some .strct := by kernel_rfl
theorem Z97 : szAt Try.prog 97 = some 3 := by kernel_rfl
theorem T97 : tiOf Try.prog 97 = some ⟨.strct, 3, 24, [.int .i64 0, .int .i64 0, .int .i64 0], [⟨0, 1, (.int .i64)⟩, ⟨1, 1, (.int .i64)⟩, ⟨2, 1, (.int .i64)⟩]⟩ := by kernel_rfl
theorem K106 : tkAt Try.prog 106 = some .strct := by kernel_rfl
theorem Z106 : szAt Try.prog 106 = some 4 := by kernel_rfl
theorem T106 : tiOf Try.prog 106 = some ⟨.strct, 4, 32, [.int .i64 0, .int .i64 0, .int .i64 0, .int .i64 0], [⟨0, 1, (.int .i64)⟩, ⟨1, 1, (.int .i64)⟩, ⟨2, 1, (.int .i64)⟩, ⟨3, 1, (.int .i64)⟩]⟩ := by kernel_rfl
theorem K108 : tkAt Try.prog 108 = some .strct := by kernel_rfl
theorem Z108 : szAt Try.prog 108 = some 4 := by kernel_rfl
theorem T108 : tiOf Try.prog 108 = some ⟨.strct, 4, 32, [.int .i64 0, .int .i64 0, .int .i64 0, .int .i64 0], [⟨0, 1, (.int .i64)⟩, ⟨1, 1, (.int .i64)⟩, ⟨2, 1, (.int .i64)⟩, ⟨3, 1, (.int .i64)⟩]⟩ := by kernel_rfl
theorem K111 : tkAt Try.prog 111 = some (.slice 4) := by kernel_rfl
theorem Z111 : szAt Try.prog 111 = some 1 := by kernel_rfl
theorem T111 : tiOf Try.prog 111 = some ⟨(.slice 4), 1, 24, [.slice none 0 0], []⟩ := by kernel_rfl
theorem K121 : tkAt Try.prog 121 = some .strct := by kernel_rfl
theorem Z121 : szAt Try.prog 121 = some 3 := by kernel_rfl
theorem T121 : tiOf Try.prog 121 = some ⟨.strct, 3, 72, [.slice none 0 0, .slice none 0 0, .slice none 0 0], [⟨0, 1, (.slice 108)⟩, ⟨1, 1, (.slice 3)⟩, ⟨2, 1, (.slice 57)⟩]⟩ := by kernel_rfl
theorem K123 : tkAt Try.prog 123 = some .strct := by kernel_rfl
theorem Z123 : szAt Try.prog 123 = some 3 := by kernel_rfl
theorem T123 : tiOf Try.prog 123 = some ⟨.strct, 3, 24, [.int .i64 0, .int .i64 0, .int .i64 0], [⟨0, 1, (.int .i64)⟩, ⟨1, 1, (.int .i64)⟩, ⟨2, 1, (.int .i64)⟩]⟩ := by kernel_rfl
theorem K125 : tkAt Try.prog 125 = some .strct := by kernel_rfl
theorem Z125 : szAt Try.prog 125 = some 3 := by kernel_rfl
theorem T125 : tiOf Try.prog 125 = some ⟨.strct, 3, 72, [.slice none 0 0, .slice none 0 0, .slice none 0 0], [⟨0, 1, (.slice 106)⟩, ⟨1, 1, (.slice 3)⟩, ⟨2, 1, (.slice 60)⟩]⟩ := by kernel_rfl
theorem K130 : tkAt Try.prog 130 = some .func := by kernel_rfl
theorem Z130 : szAt Try.prog 130 = some 1 := by kernel_rfl
theorem T130 : tiOf Try.prog 130 = some ⟨.func, 1, 8, [.nilFunc], []⟩ := by kernel_rfl
theorem K135 : tkAt Try.prog 135 = some .func := by kernel_rfl
theorem Z135 : szAt Try.prog 135 = some 1 := by kernel_rfl
theorem T135 : tiOf Try.prog 135 = some ⟨.func, 1, 8, [.nilFunc], []⟩ := by kernel_rfl
theorem K136 : tkAt Try.prog 136 = some (.slice 38) := by kernel_rfl
theorem Z136 : szAt Try.prog 136 = some 1 := by kernel_rfl
theorem T136 : tiOf Try.prog 136 = some ⟨(.slice 38), 1, 24, [.slice none 0 0], []⟩ := by kernel_rfl
theorem K143 : tkAt Try.prog 143 = some .func := by kernel_rfl
theorem Z143 : szAt Try.prog 143 = some 1 := by kernel_rfl
theorem T143 : tiOf Try.prog 143 = some ⟨.func, 1, 8, [.nilFunc], []⟩ := by kernel_rfl
def cLVar : Cd LVar := cIso (cPair (cInt .i64) (cPair (cInt .i64) (cInt .i64))) (fun x => (x.f0, x.f1, x.f2))
theorem cLVar_R {x : LVar} {c : List PV} (h : cLVar.R x c) : c = [.lit (.int .i64 x.f0), .lit (.int .i64 x.f1), .lit (.int .i64 x.f2)] := by
  obtain ⟨p0, q0, e0, g0, r0⟩ := h
  obtain ⟨p1, q1, e1, g1, r1⟩ := r0
  have g0' : p0 = _ := g0
  have g1' : p1 = _ := g1
  have g2' : q1 = _ := r1
  rw [e0, g0', e1, g1', g2']; rfl
def cLTerm : Cd LTerm := cIso (cPair (cInt .i64) (cPair (cInt .i64) (cPair (cInt .i64) (cInt .i64)))) (fun x => (x.f0, x.f1, x.f2, x.f3))
theorem cLTerm_R {x : LTerm} {c : List PV} (h : cLTerm.R x c) : c = [.lit (.int .i64 x.f0), .lit (.int .i64 x.f1), .lit (.int .i64 x.f2), .lit (.int .i64 x.f3)] := by
  obtain ⟨p0, q0, e0, g0, r0⟩ := h
  obtain ⟨p1, q1, e1, g1, r1⟩ := r0
  obtain ⟨p2, q2, e2, g2, r2⟩ := r1
  have g0' : p0 = _ := g0
  have g1' : p1 = _ := g1
  have g2' : p2 = _ := g2
  have g3' : q2 = _ := r2
  rw [e0, g0', e1, g1', e2, g2', g3']; rfl
def cLRule : Cd LRule := cIso (cPair (cSl cLTerm) (cPair (cSl (cInt .i64)) (cSl (cSl cLTerm)))) (fun x => (x.f0, x.f1, x.f2))
theorem cLRule_R {x : LRule} {c : List PV} (h : cLRule.R x c) : ∃ v0 v1 v2, c = [v0, v1, v2] ∧ Sl cLTerm x.f0 v0 ∧ Sl (cInt .i64) x.f1 v1 ∧ Sl (cSl cLTerm) x.f2 v2 := by
  obtain ⟨p0, q0, e0, g0, r0⟩ := h
  obtain ⟨p1, q1, e1, g1, r1⟩ := r0
  obtain ⟨v0, g0', s0⟩ := g0
  obtain ⟨v1, g1', s1⟩ := g1
  obtain ⟨v2, g2', s2⟩ := r1
  exact ⟨v0, v1, v2, by rw [e0, g0', e1, g1', g2']; rfl, s0, s1, s2⟩
def cLSystem : Cd LSystem := cIso (cPair (cSl cLVar) (cSl cLRule)) (fun x => (x.f0, x.f1))
theorem cLSystem_R {x : LSystem} {c : List PV} (h : cLSystem.R x c) : ∃ v0 v1, c = [v0, v1] ∧ Sl cLVar x.f0 v0 ∧ Sl cLRule x.f1 v1 := by
  obtain ⟨p0, q0, e0, g0, r0⟩ := h
  obtain ⟨v0, g0', s0⟩ := g0
  obtain ⟨v1, g1', s1⟩ := r0
  exact ⟨v0, v1, by rw [e0, g0', g1']; rfl, s0, s1⟩
def cIVar : Cd IVar := cIso (cPair (cInt .i64) (cPair (cInt .i64) (cInt .i64))) (fun x => (x.f0, x.f1, x.f2))
theorem oIVar : cIVar.Ones := oIso (oPair (oInt .i64) (oPair (oInt .i64) (oInt .i64)))
theorem cIVar_R {x : IVar} {c : List PV} (h : cIVar.R x c) : c = [.lit (.int .i64 x.f0), .lit (.int .i64 x.f1), .lit (.int .i64 x.f2)] := by
  obtain ⟨p0, q0, e0, g0, r0⟩ := h
  obtain ⟨p1, q1, e1, g1, r1⟩ := r0
  have g0' : p0 = _ := g0
  have g1' : p1 = _ := g1
  have g2' : q1 = _ := r1
  rw [e0, g0', e1, g1', g2']; rfl
theorem cIVar_mk {a0 : Int} {a1 : Int} {a2 : Int}  : cIVar.R ⟨a0, a1, a2⟩ [.lit (.int .i64 a0), .lit (.int .i64 a1), .lit (.int .i64 a2)] := ⟨_, _, rfl, rfl, ⟨_, _, rfl, rfl, rfl⟩⟩
theorem cIVar_z : cIVar.R zIVar (([.int .i64 0, .int .i64 0, .int .i64 0] : List Value).map .lit) := ⟨_, _, rfl, rfl, ⟨_, _, rfl, rfl, rfl⟩⟩
def cITerm : Cd ITerm := cIso (cPair (cInt .i64) (cPair (cInt .i64) (cPair (cInt .i64) (cInt .i64)))) (fun x => (x.f0, x.f1, x.f2, x.f3))
theorem oITerm : cITerm.Ones := oIso (oPair (oInt .i64) (oPair (oInt .i64) (oPair (oInt .i64) (oInt .i64))))
theorem cITerm_R {x : ITerm} {c : List PV} (h : cITerm.R x c) : c = [.lit (.int .i64 x.f0), .lit (.int .i64 x.f1), .lit (.int .i64 x.f2), .lit (.int .i64 x.f3)] := by
  obtain ⟨p0, q0, e0, g0, r0⟩ := h
  obtain ⟨p1, q1, e1, g1, r1⟩ := r0
  obtain ⟨p2, q2, e2, g2, r2⟩ := r1
  have g0' : p0 = _ := g0
  have g1' : p1 = _ := g1
  have g2' : p2 = _ := g2
  have g3' : q2 = _ := r2
  rw [e0, g0', e1, g1', e2, g2', g3']; rfl
theorem cITerm_mk {a0 : Int} {a1 : Int} {a2 : Int} {a3 : Int}  : cITerm.R ⟨a0, a1, a2, a3⟩ [.lit (.int .i64 a0), .lit (.int .i64 a1), .lit (.int .i64 a2), .lit (.int .i64 a3)] := ⟨_, _, rfl, rfl, ⟨_, _, rfl, rfl, ⟨_, _, rfl, rfl, rfl⟩⟩⟩
theorem cITerm_z : cITerm.R zITerm (([.int .i64 0, .int .i64 0, .int .i64 0, .int .i64 0] : List Value).map .lit) := ⟨_, _, rfl, rfl, ⟨_, _, rfl, rfl, ⟨_, _, rfl, rfl, rfl⟩⟩⟩
def cIRule : Cd IRule := cIso (cPair (cSl cITerm) (cPair (cSl (cInt .i64)) (cSl (cSl cITerm)))) (fun x => (x.f0, x.f1, x.f2))
theorem cIRule_R {x : IRule} {c : List PV} (h : cIRule.R x c) : ∃ v0 v1 v2, c = [v0, v1, v2] ∧ Sl cITerm x.f0 v0 ∧ Sl (cInt .i64) x.f1 v1 ∧ Sl (cSl cITerm) x.f2 v2 := by
  obtain ⟨p0, q0, e0, g0, r0⟩ := h
  obtain ⟨p1, q1, e1, g1, r1⟩ := r0
  obtain ⟨v0, g0', s0⟩ := g0
  obtain ⟨v1, g1', s1⟩ := g1
  obtain ⟨v2, g2', s2⟩ := r1
  exact ⟨v0, v1, v2, by rw [e0, g0', e1, g1', g2']; rfl, s0, s1, s2⟩
theorem cIRule_mk  {l0 : List ITerm} {v0 : PV} (h0 : Sl cITerm l0 v0) {l1 : List Int} {v1 : PV} (h1 : Sl (cInt .i64) l1 v1) {l2 : List (List ITerm)} {v2 : PV} (h2 : Sl (cSl cITerm) l2 v2) : cIRule.R ⟨l0, l1, l2⟩ [v0, v1, v2] := ⟨_, _, rfl, ⟨_, rfl, h0⟩, ⟨_, _, rfl, ⟨_, rfl, h1⟩, ⟨_, rfl, h2⟩⟩⟩
theorem cIRule_z : cIRule.R zIRule (([.slice none 0 0, .slice none 0 0, .slice none 0 0] : List Value).map .lit) := ⟨_, _, rfl, ⟨_, rfl, .nil⟩, ⟨_, _, rfl, ⟨_, rfl, .nil⟩, ⟨_, rfl, .nil⟩⟩⟩
attribute [go_sem] K3 Z3 T3 K4 Z4 T4 K22 Z22 T22 K23 Z23 T23 K25 Z25 T25 K26 Z26 T26 K29 Z29 T29 K30 Z30 T30 K32 Z32 T32 K38 Z38 T38 K43 Z43 T43 K57 Z57 T57 K60 Z60 T60 K71 Z71 T71 K74 Z74 T74 K94 Z94 T94 K97 Z97 T97 K106 Z106 T106 K108 Z108 T108 K111 Z111 T111 K121 Z121 T121 K123 Z123 T123 K125 Z125 T125 K130 Z130 T130 K135 Z135 T135 K136 Z136 T136 K143 Z143 T143
end Go.Proofs.Ytblhlpllkpcolaa.PA
end
section
namespace Go.Proofs.Ytblhlpllkpcolaa.PA
open Go Go.Abs Go.RowKit
def owIRule : Od IRule := oIs (oPr (oRow (oPl cITerm oITerm)) (oPr (oRow (oPl (cInt .i64) (oInt .i64))) (oRow (oRow (oPl cITerm oITerm))))) (fun x => (x.f0, x.f1, x.f2))
theorem owIRule_z (S : Sto) : owIRule.R S [] zIRule (([.slice none 0 0, .slice none 0 0, .slice none 0 0] : List Value).map .lit) := ⟨[.lit (.slice none 0 0)], [.lit (.slice none 0 0), .lit (.slice none 0 0)], [], [], rfl, rfl, .nil, .inl ⟨rfl, rfl, rfl⟩, ⟨[.lit (.slice none 0 0)], [.lit (.slice none 0 0)], [], [], rfl, rfl, .nil, .inl ⟨rfl, rfl, rfl⟩, .inl ⟨rfl, rfl, rfl⟩⟩⟩
end Go.Proofs.Ytblhlpllkpcolaa.PA
end
section
namespace Go.Proofs.Ytblhlpllkpcolaa.PA
open Go Go.Abs Go.RowKit Go.Proofs Go.Proofs.YtblhlpllkpcolaaW.PrintWords Go.Proofs.YtblhlpllkpcolaaW.PrintLast Go.Proofs.YtblhlpllkpcolaaW.PrintMore
set_option maxRecDepth 100000
set_option maxHeartbeats 4000000
set_option linter.unusedVariables false
set_option linter.unusedSimpArgs false
theorem impl_in.ev {a0 : Int} {a1 : Int} {a2 : Int} {r : Bool} (H : impl_in.f a0 a1 a2 = some r) : Ret Try.prog 81 [.lit (.int .i64 a0), .lit (.int .i64 a1), .lit (.int .i64 a2)] fun v S => v = .lit (.bool r) := by
 unfold impl_in.f at H
 refine Ret.intro Try.func81 rfl (Nat.le_of_ble_eq_true rfl) rfl ?_
 rw [tm3]
 refine Evr.seq (Evr.regionN rfl (Opl.one rfl rfl (by simp only [go_sem]; rfl) (Opl.nil (Evr.seq (Evr.regionN rfl (Opl.one rfl rfl (by simp only [go_sem]; rfl) (Opl.one rfl rfl (by simp only [go_sem]; rfl) (Opl.one rfl rfl (by simp only [go_sem]; rfl) (Opl.one rfl rfl (by simp only [go_sem]; rfl) ?_)))))))))
 by_cases c1 : a0 ≥ a1
 case neg =>
  rw [if_neg c1] at H
  have e2 : (decide (a0 ≥ a1)) = false := by simpa using c1
  try rw [e2]
  refine Opl.skp rfl (Opl.skp rfl (Opl.skp rfl (Opl.one rfl rfl (by simp only [go_sem]; rfl) (Opl.one rfl rfl (by simp only [go_sem]; rfl) (Opl.nil ?_)))))
  obtain rfl := Option.some.inj H
  refine Evr.ret1 Try.func81 rfl ?_
  show (.lit (.bool false) : PV) = _
  first | rfl | (simp only [go_sem]; rfl)
 rw [if_pos c1] at H
 have e1 : (decide (a0 ≥ a1)) = true := by simpa using c1
 try rw [e1]
 refine Opl.one rfl rfl (by simp only [go_sem]; rfl) (Opl.one rfl rfl (by simp only [go_sem]; rfl) (Opl.one rfl rfl (by simp only [go_sem]; rfl) (Opl.one rfl rfl (by simp only [go_sem]; rfl) (Opl.one rfl rfl (by simp only [go_sem]; rfl) (Opl.nil ?_)))))
 obtain rfl := Option.some.inj H
 refine Evr.ret1 Try.func81 rfl ?_
 show (.lit (.bool (decide (a0 ≤ a2))) : PV) = _
 first | rfl | (simp only [go_sem]; rfl)
theorem impl_CubeValid_1.ev {a0 : Int} {r : Bool} (H : impl_CubeValid_1.f a0 = some r) : Ret Try.prog 160 [.lit (.int .i64 a0)] fun v S => v = .lit (.bool r) := by
 unfold impl_CubeValid_1.f at H
 refine Ret.intro Try.func160 rfl (Nat.le_of_ble_eq_true rfl) rfl ?_
 rw [tm1]
 refine Evr.seq (Evr.regionN rfl (Opl.one rfl rfl (by simp only [go_sem]; rfl) (Opl.nil (Evr.seq (Evr.regionN rfl (Opl.one rfl rfl (by simp only [go_sem]; rfl) ?_))))))
 obtain ⟨t898, h_t898, H⟩ := Option.bind_eq_some_iff.1 H
 refine Opl.callc (impl_in.ev h_t898) rfl rfl rfl rfl ⟨(.lit _), (.lit _), (.lit _), trivial⟩ (by decide) (Opl.one rfl rfl (by simp only [go_sem]; rfl) (Opl.one rfl rfl (by simp only [go_sem]; rfl) (Opl.nil ?_)))
 obtain rfl := Option.some.inj H
 refine Evr.ret1 Try.func160 rfl ?_
 show (.lit (.bool (!t898)) : PV) = _
 first | rfl | (simp only [go_sem]; rfl)
theorem slices_IndexFunc_at_impl_CubeValid_1.ev {k : Nat} {l0 : List Int} {v0 : PV} (hv0 : Sl (cInt .i64) l0 v0) {r : Int} (H : slices_IndexFunc_at_impl_CubeValid_1.f k l0 = some r) : Ret Try.prog 178 [v0, .lit (.func (.func 160) #[] #[])] fun v S => v = .lit (.int .i64 r) := by
 unfold slices_IndexFunc_at_impl_CubeValid_1.f at H
 refine Ret.intro Try.func178 rfl (Nat.le_of_ble_eq_true rfl) rfl ?_
 rw [tm2]
 refine Evr.seq (Evr.regionN rfl (Opl.one rfl rfl (by simp only [go_sem]; rfl) (Opl.nil (Evr.seq (Evr.seq (Evr.regionN rfl (Opl.one rfl rfl (by simp only [go_sem]; rfl) (Opl.len (xs := l0) (by exact hv0) K26 rfl rfl rfl rfl (Opl.one rfl rfl (by simp only [go_sem]; rfl) (Opl.nil (Evr.block ?_)))))))))))
 refine Evr.loop (Evr.rounds (n := k) (Inv := fun n tm S => n ≤ k ∧ ∃ (x8_1 : Int), slices_IndexFunc_at_impl_CubeValid_1.l0 n l0 (l0.length : Int) x8_1 = some r ∧ Has tm [(0, v0), (1, .lit (.func (.func 160) #[] #[])), (7, .lit (.int .i64 (l0.length : Int))), (8, .lit (.int .i64 x8_1))]) ?_ ?_ ?_)
 · exact ⟨Nat.le_refl _, _, H, ⟨rfl, rfl, rfl, rfl, trivial⟩⟩
 ·
  rintro tm S ⟨_, _, H, -⟩
  simp [slices_IndexFunc_at_impl_CubeValid_1.l0] at H
 ·
  rintro n1 ih1 tm S ⟨hle, x8_1, H, hh⟩
  simp only [slices_IndexFunc_at_impl_CubeValid_1.l0] at H
  rw [hh.eq]
  refine Evr.seq (Evr.regionN rfl (Opl.one rfl rfl (by simp only [go_sem]; rfl) (Opl.nil (Evr.seq ?_))))
  by_cases c1 : x8_1 < (l0.length : Int)
  case neg =>
   rw [if_neg c1] at H
   have e2 : (decide (x8_1 < (l0.length : Int))) = false := by simpa using c1
   try rw [e2]
   refine Evr.condF rfl (Evr.exit rfl (Evr.seq (Evr.regionN rfl (Opl.one rfl rfl (by simp only [go_sem]; rfl) (Opl.nil ?_)))))
   obtain rfl := Option.some.inj H
   refine Evr.ret1 Try.func178 rfl ?_
   show (.lit (.int .i64 (-1)) : PV) = _
   first | rfl | (simp only [go_sem]; rfl)
  rw [if_pos c1] at H
  have e1 : (decide (x8_1 < (l0.length : Int))) = true := by simpa using c1
  try rw [e1]
  refine Evr.condT rfl (Evr.skip (Evr.seq (Evr.block (Evr.seq (Evr.regionN rfl (Opl.one rfl rfl (by simp only [go_sem]; rfl) (Opl.one rfl rfl (by simp only [go_sem]; rfl) (Opl.nil (Evr.seq (Evr.regionN rfl (Opl.one rfl rfl (by simp only [go_sem]; rfl) (Opl.one rfl rfl (by simp only [go_sem]; rfl) (Opl.one rfl rfl (by simp only [go_sem]; rfl) ?_)))))))))))))
  obtain ⟨c2, H⟩ := peel H
  obtain ⟨c3, H⟩ := peel H
  refine Opl.idx (M := (cInt .i64)) (xs := l0) (j := x8_1) (0 : Int) (by exact hv0) rfl (by first | omega | (simp only [List.length_set] at *; omega)) (by first | omega | (simp only [List.length_set] at *; omega)) K26 Z3 rfl rfl ?_
  rintro p1 q1 h1
  obtain rfl : p1 = [.lit (.int .i64 (rd l0 x8_1))] := h1
  refine Opl.lda (.lit (.int .i64 (rd l0 x8_1))) rfl T3 rfl rfl rfl rfl ?_
  obtain ⟨t900, h_t900, H⟩ := Option.bind_eq_some_iff.1 H
  refine Opl.callc (impl_CubeValid_1.ev h_t900) rfl rfl rfl rfl ⟨(.lit _), trivial⟩ (by decide) (Opl.nil ?_)
  by_cases c4 : t900 = true
  case neg =>
   rw [if_neg c4] at H
   obtain rfl : t900 = false := by simpa using c4
   refine Evr.condF rfl (Evr.skip (Evr.inBlock (Evr.regionN rfl (Opl.add (k := .i64) (a := x8_1) (b := 1) K3 rfl rfl rfl rfl (Opl.one (v := .lit (.int .i64 (wrap64 (x8_1 + 1)))) rfl rfl rfl (Opl.nil ?_))))))
   exact ih1 _ (by omega) _ _ ⟨by omega, _, H, ⟨rfl, rfl, rfl, rfl, trivial⟩⟩
  rw [if_pos c4] at H
  obtain rfl : t900 = true := by simpa using c4
  refine Evr.condT rfl (Evr.seq (Evr.regionN rfl (Opl.one rfl rfl (by simp only [go_sem]; rfl) (Opl.one rfl rfl (by simp only [go_sem]; rfl) (Opl.nil ?_)))))
  obtain rfl := Option.some.inj H
  refine Evr.ret1 Try.func178 rfl ?_
  show (.lit (.int .i64 x8_1) : PV) = _
  first | rfl | (simp only [go_sem]; rfl)
theorem slices_ContainsFunc_at_impl_CubeValid_1.ev {k : Nat} {l0 : List Int} {v0 : PV} (hv0 : Sl (cInt .i64) l0 v0) {r : Bool} (H : slices_ContainsFunc_at_impl_CubeValid_1.f k l0 = some r) : Ret Try.prog 159 [v0, .lit (.func (.func 160) #[] #[])] fun v S => v = .lit (.bool r) := by
 unfold slices_ContainsFunc_at_impl_CubeValid_1.f at H
 refine Ret.intro Try.func159 rfl (Nat.le_of_ble_eq_true rfl) rfl ?_
 rw [tm2]
 refine Evr.seq (Evr.regionN rfl (Opl.one rfl rfl (by simp only [go_sem]; rfl) (Opl.nil (Evr.seq (Evr.regionN rfl (Opl.one rfl rfl (by simp only [go_sem]; rfl) (Opl.one rfl rfl (by simp only [go_sem]; rfl) ?_)))))))
 obtain ⟨t901, h_t901, H⟩ := Option.bind_eq_some_iff.1 H
 refine Opl.callc (slices_IndexFunc_at_impl_CubeValid_1.ev hv0 h_t901) rfl rfl rfl rfl ⟨hv0.plain, (.lit _), trivial⟩ (by decide) (Opl.one rfl rfl (by simp only [go_sem]; rfl) (Opl.one rfl rfl (by simp only [go_sem]; rfl) (Opl.nil ?_)))
 obtain rfl := Option.some.inj H
 refine Evr.ret1 Try.func159 rfl ?_
 show (.lit (.bool (decide (t901 ≥ 0))) : PV) = _
 first | rfl | (simp only [go_sem]; rfl)
theorem impl_CubeValid.ev {k : Nat} {l0 : List Int} {v0 : PV} (hv0 : Sl (cInt .i64) l0 v0) {a1 : Int} {r : Bool} (H : impl_CubeValid.f k l0 a1 = some r) : Ret Try.prog 110 [v0, .lit (.int .i64 a1)] fun v S => v = .lit (.bool r) := by
 unfold impl_CubeValid.f at H
 refine Ret.intro Try.func110 rfl (Nat.le_of_ble_eq_true rfl) rfl ?_
 rw [tm2]
 refine Evr.seq (Evr.regionN rfl (Opl.one rfl rfl (by simp only [go_sem]; rfl) (Opl.nil (Evr.seq (Evr.regionN rfl (Opl.one rfl rfl (by simp only [go_sem]; rfl) ?_))))))
 obtain ⟨t902, h_t902, H⟩ := Option.bind_eq_some_iff.1 H
 refine Opl.callc (impl_in.ev h_t902) rfl rfl rfl rfl ⟨(.lit _), (.lit _), (.lit _), trivial⟩ (by decide) (Opl.one rfl rfl (by simp only [go_sem]; rfl) ?_)
 by_cases c1 : t902 = true
 case neg =>
  rw [if_neg c1] at H
  obtain rfl : t902 = false := by simpa using c1
  refine Opl.skp rfl (Opl.skp rfl (Opl.skp rfl (Opl.skp rfl (Opl.one rfl rfl (by simp only [go_sem]; rfl) (Opl.one rfl rfl (by simp only [go_sem]; rfl) (Opl.skp rfl (Opl.skp rfl (Opl.skp rfl (Opl.one rfl rfl (by simp only [go_sem]; rfl) (Opl.one rfl rfl (by simp only [go_sem]; rfl) (Opl.nil ?_)))))))))))
  obtain rfl := Option.some.inj H
  refine Evr.ret1 Try.func110 rfl ?_
  show (.lit (.bool false) : PV) = _
  first | rfl | (simp only [go_sem]; rfl)
 rw [if_pos c1] at H
 obtain rfl : t902 = true := by simpa using c1
 refine Opl.one rfl rfl (by simp only [go_sem]; rfl) (Opl.len (xs := l0) (by exact hv0) K26 rfl rfl rfl rfl (Opl.one rfl rfl (by simp only [go_sem]; rfl) (Opl.one rfl rfl (by simp only [go_sem]; rfl) (Opl.one rfl rfl (by simp only [go_sem]; rfl) (Opl.one rfl rfl (by simp only [go_sem]; rfl) ?_)))))
 by_cases c2 : (l0.length : Int) = a1
 case neg =>
  rw [if_neg c2] at H
  have e2 : ((l0.length : Int) == a1) = false := by simpa using c2
  try rw [e2]
  refine Opl.skp rfl (Opl.skp rfl (Opl.skp rfl (Opl.one rfl rfl (by simp only [go_sem]; rfl) (Opl.one rfl rfl (by simp only [go_sem]; rfl) (Opl.nil ?_)))))
  obtain rfl := Option.some.inj H
  refine Evr.ret1 Try.func110 rfl ?_
  show (.lit (.bool false) : PV) = _
  first | rfl | (simp only [go_sem]; rfl)
 rw [if_pos c2] at H
 have e1 : ((l0.length : Int) == a1) = true := by simpa using c2
 try rw [e1]
 refine Opl.one rfl rfl (by simp only [go_sem]; rfl) ?_
 obtain ⟨t903, h_t903, H⟩ := Option.bind_eq_some_iff.1 H
 refine Opl.callc (slices_ContainsFunc_at_impl_CubeValid_1.ev hv0 h_t903) rfl rfl rfl rfl ⟨hv0.plain, (.lit _), trivial⟩ (by decide) (Opl.one rfl rfl (by simp only [go_sem]; rfl) (Opl.one rfl rfl (by simp only [go_sem]; rfl) (Opl.one rfl rfl (by simp only [go_sem]; rfl) (Opl.nil ?_))))
 obtain rfl := Option.some.inj H
 refine Evr.ret1 Try.func110 rfl ?_
 show (.lit (.bool (!t903)) : PV) = _
 first | rfl | (simp only [go_sem]; rfl)
theorem impl_size.ev {k : Nat} {l0 : List IVar} {v0 : PV} (hv0 : Sl cIVar l0 v0) {r : Int} (H : impl_size.f k l0 = some r) : Ret Try.prog 140 [v0] fun v S => v = .lit (.int .i64 r) := by
 unfold impl_size.f at H
 refine Ret.intro Try.func140 rfl (Nat.le_of_ble_eq_true rfl) rfl ?_
 rw [tm1]
 refine Evr.seq (Evr.regionN rfl (Opl.one rfl rfl (by simp only [go_sem]; rfl) (Opl.nil (Evr.seq (Evr.regionN rfl (Opl.one rfl rfl (by simp only [go_sem]; rfl) (Opl.nil (Evr.seq (Evr.seq (Evr.regionN rfl (Opl.one rfl rfl (by simp only [go_sem]; rfl) (Opl.len (xs := l0) (by exact hv0) K29 rfl rfl rfl rfl (Opl.one rfl rfl (by simp only [go_sem]; rfl) (Opl.nil (Evr.block ?_)))))))))))))))
 refine Evr.loop (Evr.rounds (n := k) (Inv := fun n tm S => n ≤ k ∧ ∃ (x3_1 : Int) (x8_1 : Int), impl_size.l0 n x3_1 l0 (l0.length : Int) x8_1 = some r ∧ Has tm [(3, .lit (.int .i64 x3_1)), (6, v0), (7, .lit (.int .i64 (l0.length : Int))), (8, .lit (.int .i64 x8_1))]) ?_ ?_ ?_)
 · exact ⟨Nat.le_refl _, _, _, H, ⟨rfl, rfl, rfl, rfl, trivial⟩⟩
 ·
  rintro tm S ⟨_, _, _, H, -⟩
  simp [impl_size.l0] at H
 ·
  rintro n1 ih1 tm S ⟨hle, x3_1, x8_1, H, hh⟩
  simp only [impl_size.l0] at H
  rw [hh.eq]
  refine Evr.seq (Evr.regionN rfl (Opl.one rfl rfl (by simp only [go_sem]; rfl) (Opl.nil (Evr.seq ?_))))
  by_cases c1 : x8_1 < (l0.length : Int)
  case neg =>
   rw [if_neg c1] at H
   have e2 : (decide (x8_1 < (l0.length : Int))) = false := by simpa using c1
   try rw [e2]
   refine Evr.condF rfl (Evr.exit rfl (Evr.seq (Evr.regionN rfl (Opl.one rfl rfl (by simp only [go_sem]; rfl) (Opl.one rfl rfl (by simp only [go_sem]; rfl) (Opl.nil ?_))))))
   obtain rfl := Option.some.inj H
   refine Evr.ret1 Try.func140 rfl ?_
   show (.lit (.int .i64 x3_1) : PV) = _
   first | rfl | (simp only [go_sem]; rfl)
  rw [if_pos c1] at H
  have e1 : (decide (x8_1 < (l0.length : Int))) = true := by simpa using c1
  try rw [e1]
  refine Evr.condT rfl (Evr.skip (Evr.seq (Evr.block (Evr.seq (Evr.regionN rfl ?_)))))
  obtain ⟨c2, H⟩ := peel H
  obtain ⟨c3, H⟩ := peel H
  refine Opl.idx (M := cIVar) (xs := l0) (j := x8_1) zIVar (by exact hv0) rfl (by first | omega | (simp only [List.length_set] at *; omega)) (by first | omega | (simp only [List.length_set] at *; omega)) K29 Z97 rfl rfl ?_
  rintro p1 q1 h1
  obtain rfl := cIVar_R (x := (rd_IVar l0 x8_1)) h1
  refine Opl.lda (.agg [.lit (.int .i64 ((rd_IVar l0 x8_1).f0)), .lit (.int .i64 ((rd_IVar l0 x8_1).f1)), .lit (.int .i64 ((rd_IVar l0 x8_1).f2))]) rfl T97 rfl rfl rfl rfl (Opl.alloc T97 rfl rfl rfl ?_)
  rintro i1 S h2 u1 w1
  refine Opl.stb (vs := [.lit (.int .i64 ((rd_IVar l0 x8_1).f0)), .lit (.int .i64 ((rd_IVar l0 x8_1).f1)), .lit (.int .i64 ((rd_IVar l0 x8_1).f2))]) h2 rfl rfl Z97 rfl (Nat.le_of_ble_eq_true rfl) rfl rfl rfl rfl ?_
  rintro S (h3 : Box (.ptr i1 0) [.lit (.int .i64 ((rd_IVar l0 x8_1).f0)), .lit (.int .i64 ((rd_IVar l0 x8_1).f1)), .lit (.int .i64 ((rd_IVar l0 x8_1).f2))] _) u2
  refine Opl.nil (Evr.regionN rfl (Opl.one rfl rfl (by simp only [go_sem]; rfl) (Opl.one (v := .ptr i1 1) rfl rfl (by simp only [go_sem]; rfl) (Opl.ldb (v := .lit (.int .i64 ((rd_IVar l0 x8_1).f1))) h3 rfl T3 rfl rfl rfl rfl (Opl.one (v := .ptr i1 0) rfl rfl (by simp only [go_sem]; rfl) (Opl.ldb (v := .lit (.int .i64 ((rd_IVar l0 x8_1).f0))) h3 rfl T3 rfl rfl rfl rfl (Opl.subi (k := .i64) (a := ((rd_IVar l0 x8_1).f1)) (b := ((rd_IVar l0 x8_1).f0)) K3 rfl rfl rfl rfl (Opl.add (k := .i64) (a := (wrap64 (((rd_IVar l0 x8_1).f1) - ((rd_IVar l0 x8_1).f0)))) (b := 1) K3 rfl rfl rfl rfl (Opl.mul (k := .i64) (a := x3_1) (b := (wrap64 ((wrap64 (((rd_IVar l0 x8_1).f1) - ((rd_IVar l0 x8_1).f0))) + 1))) K3 rfl rfl rfl rfl (Opl.one (v := .lit (.int .i64 (wrap64 (x3_1 * (wrap64 ((wrap64 (((rd_IVar l0 x8_1).f1) - ((rd_IVar l0 x8_1).f0))) + 1)))))) rfl rfl rfl (Opl.nil (Evr.inBlock (Evr.regionN rfl (Opl.add (k := .i64) (a := x8_1) (b := 1) K3 rfl rfl rfl rfl (Opl.one (v := .lit (.int .i64 (wrap64 (x8_1 + 1)))) rfl rfl rfl (Opl.nil ?_))))))))))))))))
  exact ih1 _ (by omega) _ _ ⟨by omega, _, _, H, ⟨rfl, rfl, rfl, rfl, trivial⟩⟩
theorem impl_varOk.ev {a0_0 : Int} {a0_1 : Int} {a0_2 : Int} {r : Bool} (H : impl_varOk.f a0_0 a0_1 a0_2 = some r) : Ret Try.prog 139 [.agg [.lit (.int .i64 a0_0), .lit (.int .i64 a0_1), .lit (.int .i64 a0_2)]] fun v S => v = .lit (.bool r) := by
 unfold impl_varOk.f at H
 refine Ret.intro Try.func139 rfl (Nat.le_of_ble_eq_true rfl) rfl ?_
 rw [tm1]
 refine Evr.seq (Evr.regionN rfl (Opl.box (cs := [.lit (.int .i64 a0_0), .lit (.int .i64 a0_1), .lit (.int .i64 a0_2)]) rfl rfl rfl rfl ?_))
 rintro i1 S h1 u1 w1
 refine Opl.one rfl rfl (by simp only [go_sem]; rfl) (Opl.nil (Evr.seq (Evr.regionN rfl (Opl.one (v := .ptr i1 0) rfl rfl (by simp only [go_sem]; rfl) (Opl.ldb (v := .lit (.int .i64 a0_0)) h1 rfl T3 rfl rfl rfl rfl ?_)))))
 obtain ⟨t458, h_t458, H⟩ := Option.bind_eq_some_iff.1 H
 refine Opl.callc (impl_in.ev h_t458) rfl rfl rfl rfl ⟨(.lit _), (.lit _), (.lit _), trivial⟩ (by decide) (Opl.one rfl rfl (by simp only [go_sem]; rfl) ?_)
 by_cases c1 : t458 = true
 case neg =>
  rw [if_neg c1] at H
  obtain rfl : t458 = false := by simpa using c1
  refine Opl.skp rfl (Opl.skp rfl (Opl.skp rfl (Opl.skp rfl (Opl.skp rfl (Opl.one rfl rfl (by simp only [go_sem]; rfl) (Opl.one rfl rfl (by simp only [go_sem]; rfl) (Opl.skp rfl (Opl.skp rfl (Opl.skp rfl (Opl.skp rfl (Opl.skp rfl (Opl.skp rfl (Opl.one rfl rfl (by simp only [go_sem]; rfl) (Opl.one rfl rfl (by simp only [go_sem]; rfl) (Opl.skp rfl (Opl.skp rfl (Opl.skp rfl (Opl.skp rfl (Opl.skp rfl (Opl.skp rfl (Opl.skp rfl (Opl.one rfl rfl (by simp only [go_sem]; rfl) (Opl.one rfl rfl (by simp only [go_sem]; rfl) (Opl.nil ?_))))))))))))))))))))))))
  obtain rfl := Option.some.inj H
  refine Evr.ret1 Try.func139 rfl ?_
  show (.lit (.bool false) : PV) = _
  first | rfl | (simp only [go_sem]; rfl)
 rw [if_pos c1] at H
 obtain rfl : t458 = true := by simpa using c1
 refine Opl.one (v := .ptr i1 1) rfl rfl (by simp only [go_sem]; rfl) (Opl.ldb (v := .lit (.int .i64 a0_1)) h1 rfl T3 rfl rfl rfl rfl (Opl.one (v := .ptr i1 0) rfl rfl (by simp only [go_sem]; rfl) (Opl.ldb (v := .lit (.int .i64 a0_0)) h1 rfl T3 rfl rfl rfl rfl ?_)))
 obtain ⟨t459, h_t459, H⟩ := Option.bind_eq_some_iff.1 H
 refine Opl.callc (impl_in.ev h_t459) rfl rfl rfl rfl ⟨(.lit _), (.lit _), (.lit _), trivial⟩ (by decide) (Opl.one rfl rfl (by simp only [go_sem]; rfl) (Opl.one rfl rfl (by simp only [go_sem]; rfl) ?_))
 by_cases c2 : t459 = true
 case neg =>
  rw [if_neg c2] at H
  obtain rfl : t459 = false := by simpa using c2
  refine Opl.skp rfl (Opl.skp rfl (Opl.skp rfl (Opl.skp rfl (Opl.skp rfl (Opl.skp rfl (Opl.one rfl rfl (by simp only [go_sem]; rfl) (Opl.one rfl rfl (by simp only [go_sem]; rfl) (Opl.skp rfl (Opl.skp rfl (Opl.skp rfl (Opl.skp rfl (Opl.skp rfl (Opl.skp rfl (Opl.skp rfl (Opl.one rfl rfl (by simp only [go_sem]; rfl) (Opl.one rfl rfl (by simp only [go_sem]; rfl) (Opl.nil ?_)))))))))))))))))
  obtain rfl := Option.some.inj H
  refine Evr.ret1 Try.func139 rfl ?_
  show (.lit (.bool false) : PV) = _
  first | rfl | (simp only [go_sem]; rfl)
 rw [if_pos c2] at H
 obtain rfl : t459 = true := by simpa using c2
 refine Opl.one (v := .ptr i1 1) rfl rfl (by simp only [go_sem]; rfl) (Opl.ldb (v := .lit (.int .i64 a0_1)) h1 rfl T3 rfl rfl rfl rfl (Opl.one (v := .ptr i1 0) rfl rfl (by simp only [go_sem]; rfl) (Opl.ldb (v := .lit (.int .i64 a0_0)) h1 rfl T3 rfl rfl rfl rfl (Opl.subi (k := .i64) (a := a0_1) (b := a0_0) K3 rfl rfl rfl rfl (Opl.lss (a := (wrap64 (a0_1 - a0_0))) (b := 20) K3 rfl rfl rfl rfl (Opl.one rfl rfl (by simp only [go_sem]; rfl) (Opl.one (v := .lit (.bool (decide ((wrap64 (a0_1 - a0_0)) < 20)))) rfl rfl rfl ?_)))))))
 by_cases c3 : (wrap64 (a0_1 - a0_0)) < 20
 case neg =>
  rw [if_neg c3] at H
  have e2 : (decide ((wrap64 (a0_1 - a0_0)) < 20)) = false := by simpa using c3
  try rw [e2]
  refine Opl.skp rfl (Opl.skp rfl (Opl.skp rfl (Opl.skp rfl (Opl.skp rfl (Opl.skp rfl (Opl.skp rfl (Opl.one rfl rfl (by simp only [go_sem]; rfl) (Opl.one (v := .lit (.bool false)) rfl rfl rfl (Opl.nil ?_)))))))))
  obtain rfl := Option.some.inj H
  refine Evr.ret1 Try.func139 rfl ?_
  show (.lit (.bool false) : PV) = _
  first | rfl | (simp only [go_sem]; rfl)
 rw [if_pos c3] at H
 have e1 : (decide ((wrap64 (a0_1 - a0_0)) < 20)) = true := by simpa using c3
 try rw [e1]
 refine Opl.one (v := .ptr i1 2) rfl rfl (by simp only [go_sem]; rfl) (Opl.ldb (v := .lit (.int .i64 a0_2)) h1 rfl T3 rfl rfl rfl rfl (Opl.one (v := .ptr i1 0) rfl rfl (by simp only [go_sem]; rfl) (Opl.ldb (v := .lit (.int .i64 a0_0)) h1 rfl T3 rfl rfl rfl rfl (Opl.one (v := .ptr i1 1) rfl rfl (by simp only [go_sem]; rfl) (Opl.ldb (v := .lit (.int .i64 a0_1)) h1 rfl T3 rfl rfl rfl rfl ?_)))))
 obtain ⟨t460, h_t460, H⟩ := Option.bind_eq_some_iff.1 H
 refine Opl.callc (impl_in.ev h_t460) rfl rfl rfl rfl ⟨(.lit _), (.lit _), (.lit _), trivial⟩ (by decide) (Opl.one rfl rfl (by simp only [go_sem]; rfl) (Opl.one (v := .lit (.bool t460)) rfl rfl rfl (Opl.nil ?_)))
 obtain rfl := Option.some.inj H
 refine Evr.ret1 Try.func139 rfl ?_
 show (.lit (.bool t460) : PV) = _
 first | rfl | (simp only [go_sem]; rfl)
theorem impl_SystemValid_1.ev {a0_0 : Int} {a0_1 : Int} {a0_2 : Int} {r : Bool} (H : impl_SystemValid_1.f a0_0 a0_1 a0_2 = some r) : Ret Try.prog 138 [.agg [.lit (.int .i64 a0_0), .lit (.int .i64 a0_1), .lit (.int .i64 a0_2)]] fun v S => v = .lit (.bool r) := by
 unfold impl_SystemValid_1.f at H
 refine Ret.intro Try.func138 rfl (Nat.le_of_ble_eq_true rfl) rfl ?_
 rw [tm1]
 refine Evr.seq (Evr.regionN rfl (Opl.box (cs := [.lit (.int .i64 a0_0), .lit (.int .i64 a0_1), .lit (.int .i64 a0_2)]) rfl rfl rfl rfl ?_))
 rintro i1 S h1 u1 w1
 refine Opl.one rfl rfl (by simp only [go_sem]; rfl) (Opl.nil (Evr.seq (Evr.regionN rfl (Opl.ldb (v := .agg [.lit (.int .i64 a0_0), .lit (.int .i64 a0_1), .lit (.int .i64 a0_2)]) h1 rfl T97 rfl rfl rfl rfl ?_))))
 obtain ⟨t493, h_t493, H⟩ := Option.bind_eq_some_iff.1 H
 refine Opl.callc (impl_varOk.ev h_t493) rfl rfl rfl rfl ⟨(.aggL ⟨(.lit _), (.lit _), (.lit _), trivial⟩), trivial⟩ (by decide) (Opl.one rfl rfl (by simp only [go_sem]; rfl) (Opl.one rfl rfl (by simp only [go_sem]; rfl) (Opl.nil ?_)))
 obtain rfl := Option.some.inj H
 refine Evr.ret1 Try.func138 rfl ?_
 show (.lit (.bool (!t493)) : PV) = _
 first | rfl | (simp only [go_sem]; rfl)
theorem slices_IndexFunc_at_impl_SystemValid_1.ev {k : Nat} {l0 : List IVar} {v0 : PV} (hv0 : Sl cIVar l0 v0) {r : Int} (H : slices_IndexFunc_at_impl_SystemValid_1.f k l0 = some r) : Ret Try.prog 170 [v0, .lit (.func (.func 138) #[] #[])] fun v S => v = .lit (.int .i64 r) := by
 unfold slices_IndexFunc_at_impl_SystemValid_1.f at H
 refine Ret.intro Try.func170 rfl (Nat.le_of_ble_eq_true rfl) rfl ?_
 rw [tm2]
 refine Evr.seq (Evr.regionN rfl (Opl.one rfl rfl (by simp only [go_sem]; rfl) (Opl.nil (Evr.seq (Evr.seq (Evr.regionN rfl (Opl.one rfl rfl (by simp only [go_sem]; rfl) (Opl.len (xs := l0) (by exact hv0) K29 rfl rfl rfl rfl (Opl.one rfl rfl (by simp only [go_sem]; rfl) (Opl.nil (Evr.block ?_)))))))))))
 refine Evr.loop (Evr.rounds (n := k) (Inv := fun n tm S => n ≤ k ∧ ∃ (x8_1 : Int), slices_IndexFunc_at_impl_SystemValid_1.l0 n l0 (l0.length : Int) x8_1 = some r ∧ Has tm [(0, v0), (1, .lit (.func (.func 138) #[] #[])), (7, .lit (.int .i64 (l0.length : Int))), (8, .lit (.int .i64 x8_1))]) ?_ ?_ ?_)
 · exact ⟨Nat.le_refl _, _, H, ⟨rfl, rfl, rfl, rfl, trivial⟩⟩
 ·
  rintro tm S ⟨_, _, H, -⟩
  simp [slices_IndexFunc_at_impl_SystemValid_1.l0] at H
 ·
  rintro n1 ih1 tm S ⟨hle, x8_1, H, hh⟩
  simp only [slices_IndexFunc_at_impl_SystemValid_1.l0] at H
  rw [hh.eq]
  refine Evr.seq (Evr.regionN rfl (Opl.one rfl rfl (by simp only [go_sem]; rfl) (Opl.nil (Evr.seq ?_))))
  by_cases c1 : x8_1 < (l0.length : Int)
  case neg =>
   rw [if_neg c1] at H
   have e2 : (decide (x8_1 < (l0.length : Int))) = false := by simpa using c1
   try rw [e2]
   refine Evr.condF rfl (Evr.exit rfl (Evr.seq (Evr.regionN rfl (Opl.one rfl rfl (by simp only [go_sem]; rfl) (Opl.nil ?_)))))
   obtain rfl := Option.some.inj H
   refine Evr.ret1 Try.func170 rfl ?_
   show (.lit (.int .i64 (-1)) : PV) = _
   first | rfl | (simp only [go_sem]; rfl)
  rw [if_pos c1] at H
  have e1 : (decide (x8_1 < (l0.length : Int))) = true := by simpa using c1
  try rw [e1]
  refine Evr.condT rfl (Evr.skip (Evr.seq (Evr.block (Evr.seq (Evr.regionN rfl (Opl.one rfl rfl (by simp only [go_sem]; rfl) (Opl.one rfl rfl (by simp only [go_sem]; rfl) (Opl.nil (Evr.seq (Evr.regionN rfl (Opl.one rfl rfl (by simp only [go_sem]; rfl) (Opl.one rfl rfl (by simp only [go_sem]; rfl) (Opl.one rfl rfl (by simp only [go_sem]; rfl) ?_)))))))))))))
  obtain ⟨c2, H⟩ := peel H
  obtain ⟨c3, H⟩ := peel H
  refine Opl.idx (M := cIVar) (xs := l0) (j := x8_1) zIVar (by exact hv0) rfl (by first | omega | (simp only [List.length_set] at *; omega)) (by first | omega | (simp only [List.length_set] at *; omega)) K29 Z97 rfl rfl ?_
  rintro p1 q1 h1
  obtain rfl := cIVar_R (x := (rd_IVar l0 x8_1)) h1
  refine Opl.lda (.agg [.lit (.int .i64 ((rd_IVar l0 x8_1).f0)), .lit (.int .i64 ((rd_IVar l0 x8_1).f1)), .lit (.int .i64 ((rd_IVar l0 x8_1).f2))]) rfl T97 rfl rfl rfl rfl ?_
  obtain ⟨t495, h_t495, H⟩ := Option.bind_eq_some_iff.1 H
  refine Opl.callc (impl_SystemValid_1.ev h_t495) rfl rfl rfl rfl ⟨(.aggL ⟨(.lit _), (.lit _), (.lit _), trivial⟩), trivial⟩ (by decide) (Opl.nil ?_)
  by_cases c4 : t495 = true
  case neg =>
   rw [if_neg c4] at H
   obtain rfl : t495 = false := by simpa using c4
   refine Evr.condF rfl (Evr.skip (Evr.inBlock (Evr.regionN rfl (Opl.add (k := .i64) (a := x8_1) (b := 1) K3 rfl rfl rfl rfl (Opl.one (v := .lit (.int .i64 (wrap64 (x8_1 + 1)))) rfl rfl rfl (Opl.nil ?_))))))
   exact ih1 _ (by omega) _ _ ⟨by omega, _, H, ⟨rfl, rfl, rfl, rfl, trivial⟩⟩
  rw [if_pos c4] at H
  obtain rfl : t495 = true := by simpa using c4
  refine Evr.condT rfl (Evr.seq (Evr.regionN rfl (Opl.one rfl rfl (by simp only [go_sem]; rfl) (Opl.one rfl rfl (by simp only [go_sem]; rfl) (Opl.nil ?_)))))
  obtain rfl := Option.some.inj H
  refine Evr.ret1 Try.func170 rfl ?_
  show (.lit (.int .i64 x8_1) : PV) = _
  first | rfl | (simp only [go_sem]; rfl)
theorem slices_ContainsFunc_at_impl_SystemValid_1.ev {k : Nat} {l0 : List IVar} {v0 : PV} (hv0 : Sl cIVar l0 v0) {r : Bool} (H : slices_ContainsFunc_at_impl_SystemValid_1.f k l0 = some r) : Ret Try.prog 137 [v0, .lit (.func (.func 138) #[] #[])] fun v S => v = .lit (.bool r) := by
 unfold slices_ContainsFunc_at_impl_SystemValid_1.f at H
 refine Ret.intro Try.func137 rfl (Nat.le_of_ble_eq_true rfl) rfl ?_
 rw [tm2]
 refine Evr.seq (Evr.regionN rfl (Opl.one rfl rfl (by simp only [go_sem]; rfl) (Opl.nil (Evr.seq (Evr.regionN rfl (Opl.one rfl rfl (by simp only [go_sem]; rfl) (Opl.one rfl rfl (by simp only [go_sem]; rfl) ?_)))))))
 obtain ⟨t496, h_t496, H⟩ := Option.bind_eq_some_iff.1 H
 refine Opl.callc (slices_IndexFunc_at_impl_SystemValid_1.ev hv0 h_t496) rfl rfl rfl rfl ⟨hv0.plain, (.lit _), trivial⟩ (by decide) (Opl.one rfl rfl (by simp only [go_sem]; rfl) (Opl.one rfl rfl (by simp only [go_sem]; rfl) (Opl.nil ?_)))
 obtain rfl := Option.some.inj H
 refine Evr.ret1 Try.func137 rfl ?_
 show (.lit (.bool (decide (t496 ≥ 0))) : PV) = _
 first | rfl | (simp only [go_sem]; rfl)
theorem impl_parts.ev {k : Nat} {a0 : Int} {r : Int × Int × Int} (H : impl_parts.f k a0 = some r) : Ret Try.prog 188 [.lit (.int .i64 a0)] fun v S => Out (fun q => ∃ q1 q2 q3, q = .tup [q1, q2, q3] ∧ q1 = .lit (.int .i64 r.1) ∧ q2 = .lit (.int .i64 r.2.1) ∧ q3 = .lit (.int .i64 r.2.2)) v S := by
 unfold impl_parts.f at H
 refine Ret.intro Try.func188 rfl (Nat.le_of_ble_eq_true rfl) rfl ?_
 rw [tm1]
 refine Evr.seq (Evr.regionN rfl (Opl.one rfl rfl (by simp only [go_sem]; rfl) (Opl.one rfl rfl (by simp only [go_sem]; rfl) (Opl.one rfl rfl (by simp only [go_sem]; rfl) (Opl.nil (Evr.seq (Evr.seq (Evr.regionN rfl (Opl.one rfl rfl (by simp only [go_sem]; rfl) (Opl.nil (Evr.block (Evr.seq (Evr.seq (Evr.regionN rfl (Opl.one rfl rfl (by simp only [go_sem]; rfl) (Opl.one rfl rfl (by simp only [go_sem]; rfl) (Opl.nil ?_)))))))))))))))))
 refine Evr.join (fun tm S => ∃ (kq1 : Nat) (x6_1 : Bool), impl_parts.j0 kq1 a0 x6_1 = some r ∧ Has tm [(5, .lit (.int .i64 a0)), (6, .lit (.bool x6_1))]) ?_ fun hk1 => ?_
 ·
  rintro tm S ⟨kq1, x6_1, H, hh⟩
  rw [hh.eq]
  obtain _ | k1 := kq1
  · simp [impl_parts.j0] at H
  simp only [impl_parts.j0] at H
  by_cases c1 : x6_1 = true
  case pos =>
   rw [if_pos c1] at H
   obtain rfl : x6_1 = true := by simpa using c1
   refine Evr.condT rfl (Evr.seq (Evr.regionN rfl (Opl.one rfl rfl (by simp only [go_sem]; rfl) (Opl.one rfl rfl (by simp only [go_sem]; rfl) (Opl.one rfl rfl (by simp only [go_sem]; rfl) (Opl.nil ?_))))))
   obtain rfl := Option.some.inj H
   refine Evr.ret3 Try.func188 rfl ?_
   show Out _ (.tup [.lit (.int .i64 2), .lit (.int .i64 1), .lit (.int .i64 1)]) _
   exact .tup3 .lit .lit .lit
  rw [if_neg c1] at H
  obtain rfl : x6_1 = false := by simpa using c1
  refine Evr.condF rfl (Evr.seq (Evr.seq (Evr.regionN rfl (Opl.one rfl rfl (by simp only [go_sem]; rfl) (Opl.one rfl rfl (by simp only [go_sem]; rfl) (Opl.nil ?_))))))
  refine Evr.join (fun tm S => ∃ (kq2 : Nat) (x10_1 : Bool), impl_parts.j1 kq2 a0 x10_1 = some r ∧ Has tm [(5, .lit (.int .i64 a0)), (10, .lit (.bool x10_1))]) ?_ fun hk2 => ?_
  ·
   rintro tm S ⟨kq2, x10_1, H, hh⟩
   rw [hh.eq]
   obtain _ | k2 := kq2
   · simp [impl_parts.j1] at H
   simp only [impl_parts.j1] at H
   by_cases c2 : x10_1 = true
   case pos =>
    rw [if_pos c2] at H
    obtain rfl : x10_1 = true := by simpa using c2
    refine Evr.condT rfl (Evr.seq (Evr.regionN rfl (Opl.one rfl rfl (by simp only [go_sem]; rfl) (Opl.one rfl rfl (by simp only [go_sem]; rfl) (Opl.one rfl rfl (by simp only [go_sem]; rfl) (Opl.nil ?_))))))
    obtain rfl := Option.some.inj H
    refine Evr.ret3 Try.func188 rfl ?_
    show Out _ (.tup [.lit (.int .i64 2), .lit (.int .i64 1), .lit (.int .i64 2)]) _
    exact .tup3 .lit .lit .lit
   rw [if_neg c2] at H
   obtain rfl : x10_1 = false := by simpa using c2
   refine Evr.condF rfl (Evr.seq (Evr.regionN rfl (Opl.one rfl rfl (by simp only [go_sem]; rfl) (Opl.one rfl rfl (by simp only [go_sem]; rfl) (Opl.nil ?_)))))
   by_cases c3 : a0 = 7
   case pos =>
    rw [if_pos c3] at H
    have e1 : (a0 == 7) = true := by simpa using c3
    try rw [e1]
    refine Evr.condT rfl (Evr.seq (Evr.regionN rfl (Opl.one rfl rfl (by simp only [go_sem]; rfl) (Opl.one rfl rfl (by simp only [go_sem]; rfl) (Opl.one rfl rfl (by simp only [go_sem]; rfl) (Opl.nil ?_))))))
    obtain rfl := Option.some.inj H
    refine Evr.ret3 Try.func188 rfl ?_
    show Out _ (.tup [.lit (.int .i64 1), .lit (.int .i64 2), .lit (.int .i64 2)]) _
    exact .tup3 .lit .lit .lit
   rw [if_neg c3] at H
   have e2 : (a0 == 7) = false := by simpa using c3
   try rw [e2]
   refine Evr.condF rfl (Evr.seq (Evr.seq (Evr.regionN rfl (Opl.one rfl rfl (by simp only [go_sem]; rfl) (Opl.one rfl rfl (by simp only [go_sem]; rfl) (Opl.nil ?_))))))
   refine Evr.join (fun tm S => ∃ (kq3 : Nat) (x15_1 : Bool), impl_parts.j2 kq3 x15_1 = some r ∧ Has tm [(15, .lit (.bool x15_1))]) ?_ fun hk3 => ?_
   ·
    rintro tm S ⟨kq3, x15_1, H, hh⟩
    rw [hh.eq]
    obtain _ | k3 := kq3
    · simp [impl_parts.j2] at H
    simp only [impl_parts.j2] at H
    by_cases c4 : x15_1 = true
    case pos =>
     rw [if_pos c4] at H
     obtain rfl : x15_1 = true := by simpa using c4
     refine Evr.condT rfl (Evr.seq (Evr.regionN rfl (Opl.one rfl rfl (by simp only [go_sem]; rfl) (Opl.one rfl rfl (by simp only [go_sem]; rfl) (Opl.one rfl rfl (by simp only [go_sem]; rfl) (Opl.nil ?_))))))
     obtain rfl := Option.some.inj H
     refine Evr.ret3 Try.func188 rfl ?_
     show Out _ (.tup [.lit (.int .i64 2), .lit (.int .i64 2), .lit (.int .i64 2)]) _
     exact .tup3 .lit .lit .lit
    rw [if_neg c4] at H
    obtain rfl : x15_1 = false := by simpa using c4
    refine Evr.condF rfl (Evr.skip (Evr.inBlock (Evr.seq (Evr.regionN rfl (Opl.one rfl rfl (by simp only [go_sem]; rfl) (Opl.one rfl rfl (by simp only [go_sem]; rfl) (Opl.one rfl rfl (by simp only [go_sem]; rfl) (Opl.nil ?_))))))))
    obtain rfl := Option.some.inj H
    refine Evr.ret3 Try.func188 rfl ?_
    show Out _ (.tup [.lit (.int .i64 0), .lit (.int .i64 0), .lit (.int .i64 1)]) _
    exact .tup3 .lit .lit .lit
   ·
    by_cases c5 : a0 = 8
    case pos =>
     rw [if_pos c5] at H
     have e3 : (a0 == 8) = true := by simpa using c5
     try rw [e3]
     refine Evr.condT rfl (Evr.skip ?_)
     exact hk3 _ _ ⟨_, _, H, ⟨(by first | rfl | (show PV.lit (.bool _) = _; congr 2; simp_all)), trivial⟩⟩
    rw [if_neg c5] at H
    have e4 : (a0 == 8) = false := by simpa using c5
    try rw [e4]
    refine Evr.condF rfl (Evr.regionN rfl (Opl.one rfl rfl (by simp only [go_sem]; rfl) (Opl.one rfl rfl (by simp only [go_sem]; rfl) (Opl.nil ?_))))
    exact hk3 _ _ ⟨_, _, H, ⟨(by first | rfl | (show PV.lit (.bool _) = _; congr 2; simp_all)), trivial⟩⟩
  ·
   by_cases c6 : a0 = 5
   case pos =>
    rw [if_pos c6] at H
    have e5 : (a0 == 5) = true := by simpa using c6
    try rw [e5]
    refine Evr.condT rfl (Evr.skip ?_)
    exact hk2 _ _ ⟨_, _, H, ⟨rfl, (by first | rfl | (show PV.lit (.bool _) = _; congr 2; simp_all)), trivial⟩⟩
   rw [if_neg c6] at H
   have e6 : (a0 == 5) = false := by simpa using c6
   try rw [e6]
   refine Evr.condF rfl (Evr.regionN rfl (Opl.one rfl rfl (by simp only [go_sem]; rfl) (Opl.one rfl rfl (by simp only [go_sem]; rfl) (Opl.nil ?_))))
   exact hk2 _ _ ⟨_, _, H, ⟨rfl, (by first | rfl | (show PV.lit (.bool _) = _; congr 2; simp_all)), trivial⟩⟩
 ·
  by_cases c7 : a0 = 2
  case pos =>
   rw [if_pos c7] at H
   have e7 : (a0 == 2) = true := by simpa using c7
   try rw [e7]
   refine Evr.condT rfl (Evr.skip ?_)
   exact hk1 _ _ ⟨_, _, H, ⟨rfl, (by first | rfl | (show PV.lit (.bool _) = _; congr 2; simp_all)), trivial⟩⟩
  rw [if_neg c7] at H
  have e8 : (a0 == 2) = false := by simpa using c7
  try rw [e8]
  refine Evr.condF rfl (Evr.seq (Evr.regionN rfl (Opl.one rfl rfl (by simp only [go_sem]; rfl) (Opl.one rfl rfl (by simp only [go_sem]; rfl) (Opl.nil ?_)))))
  refine Evr.join (fun tm S => ∃ (kq4 : Nat) (x6_2 : Bool), impl_parts.j0 kq4 a0 x6_2 = some r ∧ Has tm [(5, .lit (.int .i64 a0)), (6, .lit (.bool x6_2))]) ?_ fun hk4 => ?_
  ·
   rintro tm S ⟨kq4, x6_2, H, hh⟩
   rw [hh.eq]
   exact hk1 _ _ ⟨_, _, H, ⟨rfl, (by first | rfl | (show PV.lit (.bool _) = _; congr 2; simp_all)), trivial⟩⟩
  ·
   by_cases c8 : a0 = 3
   case pos =>
    rw [if_pos c8] at H
    have e9 : (a0 == 3) = true := by simpa using c8
    try rw [e9]
    refine Evr.condT rfl (Evr.skip ?_)
    exact hk4 _ _ ⟨_, _, H, ⟨rfl, (by first | rfl | (show PV.lit (.bool _) = _; congr 2; simp_all)), trivial⟩⟩
   rw [if_neg c8] at H
   have e10 : (a0 == 3) = false := by simpa using c8
   try rw [e10]
   refine Evr.condF rfl (Evr.regionN rfl (Opl.one rfl rfl (by simp only [go_sem]; rfl) (Opl.one rfl rfl (by simp only [go_sem]; rfl) (Opl.nil ?_))))
   exact hk4 _ _ ⟨_, _, H, ⟨rfl, (by first | rfl | (show PV.lit (.bool _) = _; congr 2; simp_all)), trivial⟩⟩
theorem impl_kindsOf.ev {k : Nat} {l0 : List ITerm} {v0 : PV} (hv0 : Sl cITerm l0 v0) {a1 : Int} {r : (List Int)} (H : impl_kindsOf.f k l0 a1 = some r) : Ret Try.prog 177 [v0, .lit (.int .i64 a1)] fun v S => Vec (cInt .i64) r v S ∧ (r = [] → v = .lit (.slice none 0 0)) := by
 unfold impl_kindsOf.f at H
 refine Ret.intro Try.func177 rfl (Nat.le_of_ble_eq_true rfl) rfl ?_
 rw [tm2]
 refine Evr.seq (Evr.regionN rfl (Opl.one rfl rfl (by simp only [go_sem]; rfl) (Opl.nil (Evr.seq (Evr.seq ?_)))))
 refine Evr.join (fun tm S => ∃ (kq1 : Nat) (x20_1 : Bool), impl_kindsOf.j0 kq1 l0 a1 x20_1 = some r ∧ Has tm [(0, v0), (1, .lit (.int .i64 a1)), (20, .lit (.bool x20_1))]) ?_ fun hk1 => ?_
 ·
  rintro tm S ⟨kq1, x20_1, H, hh⟩
  rw [hh.eq]
  obtain _ | k1 := kq1
  · simp [impl_kindsOf.j0] at H
  simp only [impl_kindsOf.j0] at H
  by_cases c1 : x20_1 = true
  case pos =>
   rw [if_pos c1] at H
   obtain rfl : x20_1 = true := by simpa using c1
   refine Evr.condT rfl (Evr.seq (Evr.regionN rfl (Opl.one rfl rfl (by simp only [go_sem]; rfl) (Opl.nil ?_))))
   obtain rfl := Option.some.inj H
   refine Evr.ret1 Try.func177 rfl ?_
   show Vec _ _ (.lit (.slice none 0 0)) _ ∧ _
   exact ⟨.nil, by intro e; first | rfl | (have := congrArg List.length e; simp only [List.length_nil] at this; omega)⟩
  rw [if_neg c1] at H
  obtain rfl : x20_1 = false := by simpa using c1
  refine Evr.condF rfl (Evr.skip (Evr.seq (Evr.regionN rfl (Opl.one rfl rfl (by simp only [go_sem]; rfl) (Opl.len (xs := l0) (by exact hv0) K60 rfl rfl rfl rfl ?_)))))
  obtain ⟨c2, H⟩ := peel H
  obtain ⟨c3, H⟩ := peel H
  refine Opl.make0 (M := (cInt .i64)) (m := (l0.length : Int)) rfl rfl K26 T3 rfl rfl (by omega) (by show ((l0.length : Int)).toNat * 8 ≤ 281474976710656; omega) (by omega) rfl rfl rfl ?_
  rintro pv2 S h1 u1 w1
  refine Opl.one rfl rfl (by simp only [go_sem]; rfl) (Opl.nil (Evr.seq (Evr.seq (Evr.regionN rfl (Opl.one rfl rfl (by simp only [go_sem]; rfl) (Opl.len (xs := l0) (by exact hv0) K60 rfl rfl rfl rfl (Opl.one rfl rfl (by simp only [go_sem]; rfl) (Opl.nil (Evr.block ?_)))))))))
  refine Evr.loop (Evr.rounds (n := k1) (Inv := fun n tm S => n ≤ k1 ∧ ∃ (x5_1 : List Int) (x26_1 : Int) (pv3 : PV), impl_kindsOf.l0 n a1 x5_1 l0 (l0.length : Int) x26_1 = some r ∧ Has tm [(1, .lit (.int .i64 a1)), (5, pv3), (24, v0), (25, .lit (.int .i64 (l0.length : Int))), (26, .lit (.int .i64 x26_1))] ∧ Vec (cInt .i64) x5_1 pv3 S) ?_ ?_ ?_)
  · exact ⟨Nat.le_refl _, _, _, _, H, ⟨rfl, rfl, rfl, rfl, rfl, trivial⟩, h1⟩
  ·
   rintro tm S ⟨_, _, _, _, H, -⟩
   simp [impl_kindsOf.l0] at H
  ·
   rintro n1 ih1 tm S ⟨hle, x5_1, x26_1, pv3, H, hh, h2⟩
   simp only [impl_kindsOf.l0] at H
   rw [hh.eq]
   refine Evr.seq (Evr.regionN rfl (Opl.one rfl rfl (by simp only [go_sem]; rfl) (Opl.nil (Evr.seq ?_))))
   by_cases c4 : x26_1 < (l0.length : Int)
   case neg =>
    rw [if_neg c4] at H
    have e20 : (decide (x26_1 < (l0.length : Int))) = false := by simpa using c4
    try rw [e20]
    refine Evr.condF rfl (Evr.exit rfl (Evr.seq (Evr.regionN rfl (Opl.one rfl rfl (by simp only [go_sem]; rfl) (Opl.one rfl rfl (by simp only [go_sem]; rfl) (Opl.nil ?_))))))
    obtain ⟨c26, H⟩ := peel H
    obtain rfl := Option.some.inj H
    refine Evr.ret1 Try.func177 rfl ?_
    show Vec _ _ pv3 _ ∧ _
    exact ⟨h2, by intro e; first | rfl | (have := congrArg List.length e; simp only [List.length_nil] at this; omega)⟩
   rw [if_pos c4] at H
   have e1 : (decide (x26_1 < (l0.length : Int))) = true := by simpa using c4
   try rw [e1]
   refine Evr.condT rfl (Evr.skip (Evr.seq (Evr.block (Evr.seq (Evr.regionN rfl (Opl.one rfl rfl (by simp only [go_sem]; rfl) ?_))))))
   obtain ⟨c5, H⟩ := peel H
   obtain ⟨c6, H⟩ := peel H
   refine Opl.idx (M := cITerm) (xs := l0) (j := x26_1) zITerm (by exact hv0) rfl (by first | omega | (simp only [List.length_set] at *; omega)) (by first | omega | (simp only [List.length_set] at *; omega)) K60 Z106 rfl rfl ?_
   rintro p1 q1 h3
   obtain rfl := cITerm_R (x := (rd_ITerm l0 x26_1)) h3
   refine Opl.lda (.agg [.lit (.int .i64 ((rd_ITerm l0 x26_1).f0)), .lit (.int .i64 ((rd_ITerm l0 x26_1).f1)), .lit (.int .i64 ((rd_ITerm l0 x26_1).f2)), .lit (.int .i64 ((rd_ITerm l0 x26_1).f3))]) rfl T106 rfl rfl rfl rfl (Opl.alloc T106 rfl rfl rfl ?_)
   rintro i1 S h4 u2 w2
   have ap1 := w2.vec h2
   have h5 := u2.vec h2 ap1
   refine Opl.one rfl rfl (by simp only [go_sem]; rfl) (Opl.stb (vs := [.lit (.int .i64 ((rd_ITerm l0 x26_1).f0)), .lit (.int .i64 ((rd_ITerm l0 x26_1).f1)), .lit (.int .i64 ((rd_ITerm l0 x26_1).f2)), .lit (.int .i64 ((rd_ITerm l0 x26_1).f3))]) h4 rfl rfl Z106 rfl (Nat.le_of_ble_eq_true rfl) rfl rfl rfl rfl ?_)
   rintro S (h6 : Box (.ptr i1 0) [.lit (.int .i64 ((rd_ITerm l0 x26_1).f0)), .lit (.int .i64 ((rd_ITerm l0 x26_1).f1)), .lit (.int .i64 ((rd_ITerm l0 x26_1).f2)), .lit (.int .i64 ((rd_ITerm l0 x26_1).f3))] _) u3
   have h7 := u3.vec h5 ap1
   refine Opl.nil (Evr.seq (Evr.regionN rfl (Opl.one (v := .ptr i1 0) rfl rfl (by simp only [go_sem]; rfl) (Opl.ldb (v := .lit (.int .i64 ((rd_ITerm l0 x26_1).f0))) h6 rfl T3 rfl rfl rfl rfl ?_))))
   obtain ⟨bt470, h_bt470, H⟩ := Option.bind_eq_some_iff.1 H
   refine Opl.call (impl_parts.ev h_bt470) rfl rfl rfl rfl ⟨(.lit _), trivial⟩ (by decide) ?_
   rintro _ ⟨_, _, _, rfl, rfl, rfl, rfl⟩
   refine Opl.one rfl rfl (by simp only [go_sem]; rfl) (Opl.one (v := .lit (.int .i64 bt470.1)) rfl rfl (by simp only [go_sem]; rfl) (Opl.one (v := .lit (.int .i64 bt470.2.1)) rfl rfl (by simp only [go_sem]; rfl) (Opl.one (v := .lit (.int .i64 bt470.2.2)) rfl rfl (by simp only [go_sem]; rfl) (Opl.one rfl rfl (by simp only [go_sem]; rfl) (Opl.one rfl rfl (by simp only [go_sem]; rfl) (Opl.one rfl rfl (by simp only [go_sem]; rfl) (Opl.nil (Evr.seq (Evr.regionN rfl (Opl.one (v := .ptr i1 0) rfl rfl (by simp only [go_sem]; rfl) (Opl.ldb (v := .lit (.int .i64 ((rd_ITerm l0 x26_1).f0))) h6 rfl T3 rfl rfl rfl rfl ?_)))))))))))
   obtain ⟨t473, h_t473, H⟩ := Option.bind_eq_some_iff.1 H
   refine Opl.callc (impl_in.ev h_t473) rfl rfl rfl rfl ⟨(.lit _), (.lit _), (.lit _), trivial⟩ (by decide) (Opl.one rfl rfl (by simp only [go_sem]; rfl) (Opl.nil (Evr.seq (Evr.block (Evr.seq (Evr.regionN rfl (Opl.one (v := .ptr i1 0) rfl rfl (by simp only [go_sem]; rfl) (Opl.ldb (v := .lit (.int .i64 ((rd_ITerm l0 x26_1).f0))) h6 rfl T3 rfl rfl rfl rfl (Opl.one rfl rfl (by simp only [go_sem]; rfl) (Opl.one rfl rfl (by simp only [go_sem]; rfl) (Opl.nil ?_)))))))))))
   refine Evr.join (fun tm S => ∃ (kq2 : Nat) (x11_1 : Bool) (pv5 : PV), impl_kindsOf.j2 kq2 a1 x5_1 bt470.2.2 x11_1 l0 (l0.length : Int) x26_1 = some r ∧ kq2 ≤ n1 ∧ Has tm [(1, .lit (.int .i64 a1)), (5, pv5), (10, .lit (.int .i64 bt470.2.2)), (11, .lit (.bool x11_1)), (24, v0), (25, .lit (.int .i64 (l0.length : Int))), (26, .lit (.int .i64 x26_1))] ∧ Vec (cInt .i64) x5_1 pv5 S) ?_ fun hk2 => ?_
   ·
    rintro tm S ⟨kq2, x11_1, pv5, H, hle, hh, h9⟩
    rw [hh.eq]
    refine Evr.inBlock (Evr.seq (Evr.seq (Evr.regionN rfl (Opl.one rfl rfl (by simp only [go_sem]; rfl) (Opl.one rfl rfl (by simp only [go_sem]; rfl) (Opl.nil ?_))))))
    obtain _ | k2 := kq2
    · simp [impl_kindsOf.j2] at H
    simp only [impl_kindsOf.j2] at H
    by_cases c7 : x11_1 = true
    case neg =>
     rw [if_neg c7] at H
     have e3 : (!x11_1) = true := by simpa using c7
     try rw [e3]
     refine Evr.condT rfl (Evr.seq (Evr.regionN rfl (Opl.one rfl rfl (by simp only [go_sem]; rfl) (Opl.nil ?_))))
     obtain rfl := Option.some.inj H
     refine Evr.ret1 Try.func177 rfl ?_
     show Vec _ _ (.lit (.slice none 0 0)) _ ∧ _
     exact ⟨.nil, by intro e; first | rfl | (have := congrArg List.length e; simp only [List.length_nil] at this; omega)⟩
    rw [if_pos c7] at H
    have e2 : (!x11_1) = false := by simpa using c7
    try rw [e2]
    refine Evr.condF rfl (Evr.skip (Evr.regionN rfl (Opl.one rfl rfl (by simp only [go_sem]; rfl) (Opl.one rfl rfl (by simp only [go_sem]; rfl) (Opl.lits (M := (cInt .i64)) (ys := [bt470.2.2]) [.tmp 128] K26 T3 rfl rfl rfl (by exact ⟨rfl, trivial⟩) rfl (by decide) rfl rfl rfl ?_)))))
    rintro pv6 S h10 u4 w4
    have ap2 := w4.vec h9
    have h11 := u4.vec h9 ap2
    obtain ⟨c8, H⟩ := peel H
    refine Opl.app (M := (cInt .i64)) (xs := x5_1) (ys := [bt470.2.2]) (v := pv5) h11 (.vec h10) (oInt .i64) rfl rfl K26 T3 rfl rfl (by (try simp only [List.length_cons, List.length_nil]); omega) (by show (_ + _) * 8 ≤ 140737488355328; (try simp only [List.length_cons, List.length_nil]); omega) rfl rfl rfl rfl rfl ?_
    rintro pv7 S h12 u5 w5
    have ap3 := w5.vec h10
    have h13 := u5.vec h10 ap2.symm
    refine Opl.one rfl rfl (by simp only [go_sem]; rfl) (Opl.nil (Evr.inBlock (Evr.regionN rfl (Opl.add (k := .i64) (a := x26_1) (b := 1) K3 rfl rfl rfl rfl (Opl.one (v := .lit (.int .i64 (wrap64 (x26_1 + 1)))) rfl rfl rfl (Opl.nil ?_))))))
    exact ih1 _ (by omega) _ _ ⟨by omega, _, _, _, H, ⟨rfl, rfl, rfl, rfl, rfl, trivial⟩, h12⟩
   ·
    by_cases c9 : ((rd_ITerm l0 x26_1).f0) = 0
    case pos =>
     rw [if_pos c9] at H
     have e4 : (((rd_ITerm l0 x26_1).f0) == 0) = true := by simpa using c9
     try rw [e4]
     refine Evr.condT rfl ?_
     refine Evr.join (fun tm S => ∃ (kq3 : Nat) (x11_2 : Bool) (pv8 : PV), impl_kindsOf.j2 kq3 a1 x5_1 bt470.2.2 x11_2 l0 (l0.length : Int) x26_1 = some r ∧ kq3 ≤ n1 ∧ Has tm [(1, .lit (.int .i64 a1)), (5, pv8), (10, .lit (.int .i64 bt470.2.2)), (11, .lit (.bool x11_2)), (24, v0), (25, .lit (.int .i64 (l0.length : Int))), (26, .lit (.int .i64 x26_1))] ∧ Vec (cInt .i64) x5_1 pv8 S) ?_ fun hk3 => ?_
     ·
      rintro tm S ⟨kq3, x11_2, pv8, H, hle, hh, h14⟩
      rw [hh.eq]
      exact hk2 _ _ ⟨_, _, _, H, by omega, ⟨rfl, rfl, rfl, (by first | rfl | (show PV.lit (.bool _) = _; congr 2; simp_all)), rfl, rfl, rfl, trivial⟩, h14⟩
     ·
      refine Evr.regionN rfl (Opl.one (v := .ptr i1 1) rfl rfl (by simp only [go_sem]; rfl) (Opl.ldb (v := .lit (.int .i64 ((rd_ITerm l0 x26_1).f1))) h6 rfl T3 rfl rfl rfl rfl ?_))
      obtain ⟨t474, h_t474, H⟩ := Option.bind_eq_some_iff.1 H
      refine Opl.callc (impl_in.ev h_t474) rfl rfl rfl rfl ⟨(.lit _), (.lit _), (.lit _), trivial⟩ (by decide) (Opl.one rfl rfl (by simp only [go_sem]; rfl) ?_)
      by_cases c10 : t474 = true
      case neg =>
       rw [if_neg c10] at H
       obtain rfl : t474 = false := by simpa using c10
       refine Opl.skp rfl (Opl.skp rfl (Opl.skp rfl (Opl.one rfl rfl (by simp only [go_sem]; rfl) (Opl.one rfl rfl (by simp only [go_sem]; rfl) (Opl.skp rfl (Opl.skp rfl (Opl.skp rfl (Opl.one rfl rfl (by simp only [go_sem]; rfl) (Opl.one rfl rfl (by simp only [go_sem]; rfl) (Opl.nil ?_))))))))))
       exact hk3 _ _ ⟨_, _, _, H, by omega, ⟨rfl, rfl, rfl, (by first | rfl | (show PV.lit (.bool _) = _; congr 2; simp_all)), rfl, rfl, rfl, trivial⟩, h7⟩
      rw [if_pos c10] at H
      obtain rfl : t474 = true := by simpa using c10
      refine Opl.one (v := .ptr i1 2) rfl rfl (by simp only [go_sem]; rfl) (Opl.ldb (v := .lit (.int .i64 ((rd_ITerm l0 x26_1).f2))) h6 rfl T3 rfl rfl rfl rfl (Opl.one rfl rfl (by simp only [go_sem]; rfl) (Opl.one rfl rfl (by simp only [go_sem]; rfl) (Opl.one rfl rfl (by simp only [go_sem]; rfl) ?_))))
      by_cases c11 : ((rd_ITerm l0 x26_1).f2) = 0
      case neg =>
       rw [if_neg c11] at H
       have e6 : (((rd_ITerm l0 x26_1).f2) == 0) = false := by simpa using c11
       try rw [e6]
       refine Opl.skp rfl (Opl.skp rfl (Opl.skp rfl (Opl.one rfl rfl (by simp only [go_sem]; rfl) (Opl.one rfl rfl (by simp only [go_sem]; rfl) (Opl.nil ?_)))))
       exact hk3 _ _ ⟨_, _, _, H, by omega, ⟨rfl, rfl, rfl, (by first | rfl | (show PV.lit (.bool _) = _; congr 2; simp_all)), rfl, rfl, rfl, trivial⟩, h7⟩
      rw [if_pos c11] at H
      have e5 : (((rd_ITerm l0 x26_1).f2) == 0) = true := by simpa using c11
      try rw [e5]
      refine Opl.one (v := .ptr i1 3) rfl rfl (by simp only [go_sem]; rfl) (Opl.ldb (v := .lit (.int .i64 ((rd_ITerm l0 x26_1).f3))) h6 rfl T3 rfl rfl rfl rfl (Opl.one rfl rfl (by simp only [go_sem]; rfl) (Opl.one rfl rfl (by simp only [go_sem]; rfl) (Opl.one rfl rfl (by simp only [go_sem]; rfl) (Opl.nil ?_)))))
      exact hk3 _ _ ⟨_, _, _, H, by omega, ⟨rfl, rfl, rfl, (by first | rfl | (show PV.lit (.bool _) = _; congr 2; simp_all)), rfl, rfl, rfl, trivial⟩, h7⟩
    rw [if_neg c9] at H
    have e7 : (((rd_ITerm l0 x26_1).f0) == 0) = false := by simpa using c9
    try rw [e7]
    refine Evr.condF rfl (Evr.seq (Evr.regionN rfl (Opl.one (v := .ptr i1 0) rfl rfl (by simp only [go_sem]; rfl) (Opl.ldb (v := .lit (.int .i64 ((rd_ITerm l0 x26_1).f0))) h6 rfl T3 rfl rfl rfl rfl (Opl.one rfl rfl (by simp only [go_sem]; rfl) (Opl.one rfl rfl (by simp only [go_sem]; rfl) (Opl.nil ?_)))))))
    refine Evr.join (fun tm S => ∃ (kq4 : Nat) (x11_3 : Bool) (pv9 : PV), impl_kindsOf.j2 kq4 a1 x5_1 bt470.2.2 x11_3 l0 (l0.length : Int) x26_1 = some r ∧ kq4 ≤ n1 ∧ Has tm [(1, .lit (.int .i64 a1)), (5, pv9), (10, .lit (.int .i64 bt470.2.2)), (11, .lit (.bool x11_3)), (24, v0), (25, .lit (.int .i64 (l0.length : Int))), (26, .lit (.int .i64 x26_1))] ∧ Vec (cInt .i64) x5_1 pv9 S) ?_ fun hk4 => ?_
    ·
     rintro tm S ⟨kq4, x11_3, pv9, H, hle, hh, h15⟩
     rw [hh.eq]
     exact hk2 _ _ ⟨_, _, _, H, by omega, ⟨rfl, rfl, rfl, (by first | rfl | (show PV.lit (.bool _) = _; congr 2; simp_all)), rfl, rfl, rfl, trivial⟩, h15⟩
    ·
     by_cases c12 : ((rd_ITerm l0 x26_1).f0) = 1
     case pos =>
      rw [if_pos c12] at H
      have e8 : (((rd_ITerm l0 x26_1).f0) == 1) = true := by simpa using c12
      try rw [e8]
      refine Evr.condT rfl ?_
      refine Evr.join (fun tm S => ∃ (kq5 : Nat) (x11_4 : Bool) (pv10 : PV), impl_kindsOf.j2 kq5 a1 x5_1 bt470.2.2 x11_4 l0 (l0.length : Int) x26_1 = some r ∧ kq5 ≤ n1 ∧ Has tm [(1, .lit (.int .i64 a1)), (5, pv10), (10, .lit (.int .i64 bt470.2.2)), (11, .lit (.bool x11_4)), (24, v0), (25, .lit (.int .i64 (l0.length : Int))), (26, .lit (.int .i64 x26_1))] ∧ Vec (cInt .i64) x5_1 pv10 S) ?_ fun hk5 => ?_
      ·
       rintro tm S ⟨kq5, x11_4, pv10, H, hle, hh, h16⟩
       rw [hh.eq]
       exact hk4 _ _ ⟨_, _, _, H, by omega, ⟨rfl, rfl, rfl, (by first | rfl | (show PV.lit (.bool _) = _; congr 2; simp_all)), rfl, rfl, rfl, trivial⟩, h16⟩
      ·
       refine Evr.regionN rfl (Opl.one (v := .ptr i1 1) rfl rfl (by simp only [go_sem]; rfl) (Opl.ldb (v := .lit (.int .i64 ((rd_ITerm l0 x26_1).f1))) h6 rfl T3 rfl rfl rfl rfl (Opl.one rfl rfl (by simp only [go_sem]; rfl) (Opl.subi (k := .i64) (a := a1) (b := 1) K3 rfl rfl rfl rfl ?_))))
       obtain ⟨t475, h_t475, H⟩ := Option.bind_eq_some_iff.1 H
       refine Opl.callc (impl_in.ev h_t475) rfl rfl rfl rfl ⟨(.lit _), (.lit _), (.lit _), trivial⟩ (by decide) (Opl.one (v := .lit (.bool t475)) rfl rfl rfl ?_)
       by_cases c13 : t475 = true
       case neg =>
        rw [if_neg c13] at H
        obtain rfl : t475 = false := by simpa using c13
        refine Opl.skp rfl (Opl.skp rfl (Opl.skp rfl (Opl.one rfl rfl (by simp only [go_sem]; rfl) (Opl.one (v := .lit (.bool false)) rfl rfl rfl (Opl.skp rfl (Opl.skp rfl (Opl.skp rfl (Opl.one rfl rfl (by simp only [go_sem]; rfl) (Opl.one (v := .lit (.bool false)) rfl rfl rfl (Opl.nil ?_))))))))))
        exact hk5 _ _ ⟨_, _, _, H, by omega, ⟨rfl, rfl, rfl, (by first | rfl | (show PV.lit (.bool _) = _; congr 2; simp_all)), rfl, rfl, rfl, trivial⟩, h7⟩
       rw [if_pos c13] at H
       obtain rfl : t475 = true := by simpa using c13
       refine Opl.one (v := .ptr i1 2) rfl rfl (by simp only [go_sem]; rfl) (Opl.ldb (v := .lit (.int .i64 ((rd_ITerm l0 x26_1).f2))) h6 rfl T3 rfl rfl rfl rfl (Opl.one rfl rfl (by simp only [go_sem]; rfl) (Opl.one rfl rfl (by simp only [go_sem]; rfl) (Opl.one (v := .lit (.bool (((rd_ITerm l0 x26_1).f2) == 0))) rfl rfl rfl ?_))))
       by_cases c14 : ((rd_ITerm l0 x26_1).f2) = 0
       case neg =>
        rw [if_neg c14] at H
        have e10 : (((rd_ITerm l0 x26_1).f2) == 0) = false := by simpa using c14
        try rw [e10]
        refine Opl.skp rfl (Opl.skp rfl (Opl.skp rfl (Opl.one rfl rfl (by simp only [go_sem]; rfl) (Opl.one (v := .lit (.bool false)) rfl rfl rfl (Opl.nil ?_)))))
        exact hk5 _ _ ⟨_, _, _, H, by omega, ⟨rfl, rfl, rfl, (by first | rfl | (show PV.lit (.bool _) = _; congr 2; simp_all)), rfl, rfl, rfl, trivial⟩, h7⟩
       rw [if_pos c14] at H
       have e9 : (((rd_ITerm l0 x26_1).f2) == 0) = true := by simpa using c14
       try rw [e9]
       refine Opl.one (v := .ptr i1 3) rfl rfl (by simp only [go_sem]; rfl) (Opl.ldb (v := .lit (.int .i64 ((rd_ITerm l0 x26_1).f3))) h6 rfl T3 rfl rfl rfl rfl (Opl.one rfl rfl (by simp only [go_sem]; rfl) (Opl.one rfl rfl (by simp only [go_sem]; rfl) (Opl.one (v := .lit (.bool (((rd_ITerm l0 x26_1).f3) == 0))) rfl rfl rfl (Opl.nil ?_)))))
       exact hk5 _ _ ⟨_, _, _, H, by omega, ⟨rfl, rfl, rfl, (by first | rfl | (show PV.lit (.bool _) = _; congr 2; simp_all)), rfl, rfl, rfl, trivial⟩, h7⟩
     rw [if_neg c12] at H
     have e11 : (((rd_ITerm l0 x26_1).f0) == 1) = false := by simpa using c12
     try rw [e11]
     refine Evr.condF rfl (Evr.seq (Evr.regionN rfl (Opl.one rfl rfl (by simp only [go_sem]; rfl) (Opl.one rfl rfl (by simp only [go_sem]; rfl) (Opl.nil ?_)))))
     refine Evr.join (fun tm S => ∃ (kq6 : Nat) (x11_5 : Bool) (pv11 : PV), impl_kindsOf.j2 kq6 a1 x5_1 bt470.2.2 x11_5 l0 (l0.length : Int) x26_1 = some r ∧ kq6 ≤ n1 ∧ Has tm [(1, .lit (.int .i64 a1)), (5, pv11), (10, .lit (.int .i64 bt470.2.2)), (11, .lit (.bool x11_5)), (24, v0), (25, .lit (.int .i64 (l0.length : Int))), (26, .lit (.int .i64 x26_1))] ∧ Vec (cInt .i64) x5_1 pv11 S) ?_ fun hk6 => ?_
     ·
      rintro tm S ⟨kq6, x11_5, pv11, H, hle, hh, h17⟩
      rw [hh.eq]
      exact hk4 _ _ ⟨_, _, _, H, by omega, ⟨rfl, rfl, rfl, (by first | rfl | (show PV.lit (.bool _) = _; congr 2; simp_all)), rfl, rfl, rfl, trivial⟩, h17⟩
     ·
      by_cases c15 : t473 = true
      case neg =>
       rw [if_neg c15] at H
       obtain rfl : t473 = false := by simpa using c15
       refine Evr.condF rfl (Evr.skip ?_)
       exact hk6 _ _ ⟨_, _, _, H, by omega, ⟨rfl, rfl, rfl, (by first | rfl | (show PV.lit (.bool _) = _; congr 2; simp_all)), rfl, rfl, rfl, trivial⟩, h7⟩
      rw [if_pos c15] at H
      obtain rfl : t473 = true := by simpa using c15
      refine Evr.condT rfl ?_
      refine Evr.join (fun tm S => ∃ (kq7 : Nat) (x11_6 : Bool) (pv12 : PV), impl_kindsOf.j2 kq7 a1 x5_1 bt470.2.2 x11_6 l0 (l0.length : Int) x26_1 = some r ∧ kq7 ≤ n1 ∧ Has tm [(1, .lit (.int .i64 a1)), (5, pv12), (10, .lit (.int .i64 bt470.2.2)), (11, .lit (.bool x11_6)), (24, v0), (25, .lit (.int .i64 (l0.length : Int))), (26, .lit (.int .i64 x26_1))] ∧ Vec (cInt .i64) x5_1 pv12 S) ?_ fun hk7 => ?_
      ·
       rintro tm S ⟨kq7, x11_6, pv12, H, hle, hh, h18⟩
       rw [hh.eq]
       exact hk6 _ _ ⟨_, _, _, H, by omega, ⟨rfl, rfl, rfl, (by first | rfl | (show PV.lit (.bool _) = _; congr 2; simp_all)), rfl, rfl, rfl, trivial⟩, h18⟩
      ·
       refine Evr.regionN rfl (Opl.one (v := .ptr i1 1) rfl rfl (by simp only [go_sem]; rfl) (Opl.ldb (v := .lit (.int .i64 ((rd_ITerm l0 x26_1).f1))) h6 rfl T3 rfl rfl rfl rfl (Opl.one rfl rfl (by simp only [go_sem]; rfl) (Opl.one rfl rfl (by simp only [go_sem]; rfl) ?_))))
       by_cases c16 : ((rd_ITerm l0 x26_1).f1) = 0
       case neg =>
        rw [if_neg c16] at H
        have e19 : (((rd_ITerm l0 x26_1).f1) == 0) = false := by simpa using c16
        try rw [e19]
        refine Opl.skp rfl (Opl.skp rfl (Opl.skp rfl (Opl.skp rfl (Opl.skp rfl (Opl.one rfl rfl (by simp only [go_sem]; rfl) (Opl.one rfl rfl (by simp only [go_sem]; rfl) (Opl.skp rfl (Opl.skp rfl (Opl.skp rfl (Opl.skp rfl (Opl.skp rfl (Opl.one rfl rfl (by simp only [go_sem]; rfl) (Opl.one rfl rfl (by simp only [go_sem]; rfl) (Opl.skp rfl (Opl.skp rfl (Opl.skp rfl (Opl.skp rfl (Opl.skp rfl (Opl.skp rfl (Opl.skp rfl (Opl.one rfl rfl (by simp only [go_sem]; rfl) (Opl.one rfl rfl (by simp only [go_sem]; rfl) (Opl.skp rfl (Opl.skp rfl (Opl.skp rfl (Opl.skp rfl (Opl.skp rfl (Opl.skp rfl (Opl.skp rfl (Opl.one rfl rfl (by simp only [go_sem]; rfl) (Opl.one rfl rfl (by simp only [go_sem]; rfl) (Opl.skp rfl (Opl.skp rfl (Opl.skp rfl (Opl.skp rfl (Opl.skp rfl (Opl.skp rfl (Opl.skp rfl (Opl.skp rfl (Opl.skp rfl (Opl.one rfl rfl (by simp only [go_sem]; rfl) (Opl.one rfl rfl (by simp only [go_sem]; rfl) (Opl.nil ?_)))))))))))))))))))))))))))))))))))))))))))
        exact hk7 _ _ ⟨_, _, _, H, by omega, ⟨rfl, rfl, rfl, (by first | rfl | (show PV.lit (.bool _) = _; congr 2; simp_all)), rfl, rfl, rfl, trivial⟩, h7⟩
       rw [if_pos c16] at H
       have e12 : (((rd_ITerm l0 x26_1).f1) == 0) = true := by simpa using c16
       try rw [e12]
       refine Opl.one (v := .ptr i1 2) rfl rfl (by simp only [go_sem]; rfl) (Opl.ldb (v := .lit (.int .i64 ((rd_ITerm l0 x26_1).f2))) h6 rfl T3 rfl rfl rfl rfl (Opl.one rfl rfl (by simp only [go_sem]; rfl) (Opl.subi (k := .i64) (a := x26_1) (b := 1) K3 rfl rfl rfl rfl ?_)))
       obtain ⟨t476, h_t476, H⟩ := Option.bind_eq_some_iff.1 H
       refine Opl.callc (impl_in.ev h_t476) rfl rfl rfl rfl ⟨(.lit _), (.lit _), (.lit _), trivial⟩ (by decide) (Opl.one rfl rfl (by simp only [go_sem]; rfl) (Opl.one (v := .lit (.bool t476)) rfl rfl rfl ?_))
       by_cases c17 : t476 = true
       case neg =>
        rw [if_neg c17] at H
        obtain rfl : t476 = false := by simpa using c17
        refine Opl.skp rfl (Opl.skp rfl (Opl.skp rfl (Opl.skp rfl (Opl.skp rfl (Opl.one rfl rfl (by simp only [go_sem]; rfl) (Opl.one (v := .lit (.bool false)) rfl rfl rfl (Opl.skp rfl (Opl.skp rfl (Opl.skp rfl (Opl.skp rfl (Opl.skp rfl (Opl.skp rfl (Opl.skp rfl (Opl.one rfl rfl (by simp only [go_sem]; rfl) (Opl.one (v := .lit (.bool false)) rfl rfl rfl (Opl.skp rfl (Opl.skp rfl (Opl.skp rfl (Opl.skp rfl (Opl.skp rfl (Opl.skp rfl (Opl.skp rfl (Opl.one rfl rfl (by simp only [go_sem]; rfl) (Opl.one (v := .lit (.bool false)) rfl rfl rfl (Opl.skp rfl (Opl.skp rfl (Opl.skp rfl (Opl.skp rfl (Opl.skp rfl (Opl.skp rfl (Opl.skp rfl (Opl.skp rfl (Opl.skp rfl (Opl.one rfl rfl (by simp only [go_sem]; rfl) (Opl.one (v := .lit (.bool false)) rfl rfl rfl (Opl.nil ?_))))))))))))))))))))))))))))))))))))
        exact hk7 _ _ ⟨_, _, _, H, by omega, ⟨rfl, rfl, rfl, (by first | rfl | (show PV.lit (.bool _) = _; congr 2; simp_all)), rfl, rfl, rfl, trivial⟩, h7⟩
       rw [if_pos c17] at H
       obtain rfl : t476 = true := by simpa using c17
       refine Opl.one (v := .ptr i1 3) rfl rfl (by simp only [go_sem]; rfl) (Opl.ldb (v := .lit (.int .i64 ((rd_ITerm l0 x26_1).f3))) h6 rfl T3 rfl rfl rfl rfl (Opl.one (v := .lit (.int .i64 x26_1)) rfl rfl rfl (Opl.subi (k := .i64) (a := x26_1) (b := 1) K3 rfl rfl rfl rfl ?_)))
       obtain ⟨t477, h_t477, H⟩ := Option.bind_eq_some_iff.1 H
       refine Opl.callc (impl_in.ev h_t477) rfl rfl rfl rfl ⟨(.lit _), (.lit _), (.lit _), trivial⟩ (by decide) (Opl.one rfl rfl (by simp only [go_sem]; rfl) (Opl.one (v := .lit (.bool t477)) rfl rfl rfl ?_))
       by_cases c18 : t477 = true
       case neg =>
        rw [if_neg c18] at H
        obtain rfl : t477 = false := by simpa using c18
        refine Opl.skp rfl (Opl.skp rfl (Opl.skp rfl (Opl.skp rfl (Opl.skp rfl (Opl.skp rfl (Opl.skp rfl (Opl.one rfl rfl (by simp only [go_sem]; rfl) (Opl.one (v := .lit (.bool false)) rfl rfl rfl (Opl.skp rfl (Opl.skp rfl (Opl.skp rfl (Opl.skp rfl (Opl.skp rfl (Opl.skp rfl (Opl.skp rfl (Opl.one rfl rfl (by simp only [go_sem]; rfl) (Opl.one (v := .lit (.bool false)) rfl rfl rfl (Opl.skp rfl (Opl.skp rfl (Opl.skp rfl (Opl.skp rfl (Opl.skp rfl (Opl.skp rfl (Opl.skp rfl (Opl.skp rfl (Opl.skp rfl (Opl.one rfl rfl (by simp only [go_sem]; rfl) (Opl.one (v := .lit (.bool false)) rfl rfl rfl (Opl.nil ?_)))))))))))))))))))))))))))))
        exact hk7 _ _ ⟨_, _, _, H, by omega, ⟨rfl, rfl, rfl, (by first | rfl | (show PV.lit (.bool _) = _; congr 2; simp_all)), rfl, rfl, rfl, trivial⟩, h7⟩
       rw [if_pos c18] at H
       obtain rfl : t477 = true := by simpa using c18
       refine Opl.one (v := pv3) rfl rfl rfl (Opl.one (v := .ptr i1 2) rfl rfl (by simp only [go_sem]; rfl) (Opl.ldb (v := .lit (.int .i64 ((rd_ITerm l0 x26_1).f2))) h6 rfl T3 rfl rfl rfl rfl ?_))
       obtain ⟨c19, H⟩ := peel H
       obtain ⟨c20, H⟩ := peel H
       refine Opl.idv (M := (cInt .i64)) (xs := x5_1) (j := ((rd_ITerm l0 x26_1).f2)) (v := pv3) h7 rfl rfl (by first | omega | (simp only [List.length_set] at *; omega)) (by first | omega | (simp only [List.length_set] at *; omega)) K26 Z3 rfl rfl ?_
       rintro d1 z1 q2 h19 h20
       refine Opl.ldv (M := (cInt .i64)) (xs := x5_1) (j := ((rd_ITerm l0 x26_1).f2)) (0 : Int) h19 h20 (by first | omega | (simp only [List.length_set] at *; omega)) (by first | omega | (simp only [List.length_set] at *; omega)) rfl T3 rfl rfl rfl ?_
       rintro p2 q3 h21
       obtain rfl : p2 = [.lit (.int .i64 (rd x5_1 ((rd_ITerm l0 x26_1).f2)))] := h21
       refine ⟨.lit (.int .i64 (rd x5_1 ((rd_ITerm l0 x26_1).f2))), rfl, ?_⟩
       refine Opl.one (v := .lit (.int .i64 bt470.2.1)) rfl rfl rfl (Opl.one rfl rfl (by simp only [go_sem]; rfl) (Opl.one rfl rfl (by simp only [go_sem]; rfl) (Opl.one (v := .lit (.bool ((rd x5_1 ((rd_ITerm l0 x26_1).f2)) == bt470.2.1))) rfl rfl rfl ?_)))
       by_cases c21 : (rd x5_1 ((rd_ITerm l0 x26_1).f2)) = bt470.2.1
       case neg =>
        rw [if_neg c21] at H
        have e18 : ((rd x5_1 ((rd_ITerm l0 x26_1).f2)) == bt470.2.1) = false := by simpa using c21
        try rw [e18]
        refine Opl.skp rfl (Opl.skp rfl (Opl.skp rfl (Opl.skp rfl (Opl.skp rfl (Opl.skp rfl (Opl.skp rfl (Opl.one rfl rfl (by simp only [go_sem]; rfl) (Opl.one (v := .lit (.bool false)) rfl rfl rfl (Opl.skp rfl (Opl.skp rfl (Opl.skp rfl (Opl.skp rfl (Opl.skp rfl (Opl.skp rfl (Opl.skp rfl (Opl.skp rfl (Opl.skp rfl (Opl.one rfl rfl (by simp only [go_sem]; rfl) (Opl.one (v := .lit (.bool false)) rfl rfl rfl (Opl.nil ?_))))))))))))))))))))
        exact hk7 _ _ ⟨_, _, _, H, by omega, ⟨rfl, rfl, rfl, (by first | rfl | (show PV.lit (.bool _) = _; congr 2; simp_all)), rfl, rfl, rfl, trivial⟩, h7⟩
       rw [if_pos c21] at H
       have e13 : ((rd x5_1 ((rd_ITerm l0 x26_1).f2)) == bt470.2.1) = true := by simpa using c21
       try rw [e13]
       refine Opl.one (v := pv3) rfl rfl rfl (Opl.one (v := .ptr i1 3) rfl rfl (by simp only [go_sem]; rfl) (Opl.ldb (v := .lit (.int .i64 ((rd_ITerm l0 x26_1).f3))) h6 rfl T3 rfl rfl rfl rfl ?_))
       obtain ⟨c22, H⟩ := peel H
       obtain ⟨c23, H⟩ := peel H
       refine Opl.idv (M := (cInt .i64)) (xs := x5_1) (j := ((rd_ITerm l0 x26_1).f3)) (v := pv3) h7 rfl rfl (by first | omega | (simp only [List.length_set] at *; omega)) (by first | omega | (simp only [List.length_set] at *; omega)) K26 Z3 rfl rfl ?_
       rintro d2 z2 q4 h22 h23
       refine Opl.ldv (M := (cInt .i64)) (xs := x5_1) (j := ((rd_ITerm l0 x26_1).f3)) (0 : Int) h22 h23 (by first | omega | (simp only [List.length_set] at *; omega)) (by first | omega | (simp only [List.length_set] at *; omega)) rfl T3 rfl rfl rfl ?_
       rintro p3 q5 h24
       obtain rfl : p3 = [.lit (.int .i64 (rd x5_1 ((rd_ITerm l0 x26_1).f3)))] := h24
       refine ⟨.lit (.int .i64 (rd x5_1 ((rd_ITerm l0 x26_1).f3))), rfl, ?_⟩
       refine Opl.one (v := .lit (.int .i64 bt470.2.1)) rfl rfl rfl (Opl.one rfl rfl (by simp only [go_sem]; rfl) (Opl.one rfl rfl (by simp only [go_sem]; rfl) (Opl.one (v := .lit (.bool ((rd x5_1 ((rd_ITerm l0 x26_1).f3)) == bt470.2.1))) rfl rfl rfl ?_)))
       by_cases c24 : (rd x5_1 ((rd_ITerm l0 x26_1).f3)) = bt470.2.1
       case neg =>
        rw [if_neg c24] at H
        have e17 : ((rd x5_1 ((rd_ITerm l0 x26_1).f3)) == bt470.2.1) = false := by simpa using c24
        try rw [e17]
        refine Opl.skp rfl (Opl.skp rfl (Opl.skp rfl (Opl.skp rfl (Opl.skp rfl (Opl.skp rfl (Opl.skp rfl (Opl.skp rfl (Opl.skp rfl (Opl.one rfl rfl (by simp only [go_sem]; rfl) (Opl.one (v := .lit (.bool false)) rfl rfl rfl (Opl.nil ?_)))))))))))
        exact hk7 _ _ ⟨_, _, _, H, by omega, ⟨rfl, rfl, rfl, (by first | rfl | (show PV.lit (.bool _) = _; congr 2; simp_all)), rfl, rfl, rfl, trivial⟩, h7⟩
       rw [if_pos c24] at H
       have e14 : ((rd x5_1 ((rd_ITerm l0 x26_1).f3)) == bt470.2.1) = true := by simpa using c24
       try rw [e14]
       refine Opl.one (v := .lit (.int .i64 bt470.1)) rfl rfl rfl (Opl.one rfl rfl (by simp only [go_sem]; rfl) (Opl.one (v := .lit (.bool (bt470.1 == 2))) rfl rfl rfl ?_))
       by_cases c25 : bt470.1 = 2
       case pos =>
        rw [if_pos c25] at H
        have e15 : (bt470.1 == 2) = true := by simpa using c25
        try rw [e15]
        refine Opl.skp rfl (Opl.skp rfl (Opl.skp rfl (Opl.skp rfl (Opl.skp rfl (Opl.one rfl rfl (by simp only [go_sem]; rfl) (Opl.one rfl rfl (by simp only [go_sem]; rfl) (Opl.one (v := .lit (.bool true)) rfl rfl rfl (Opl.nil ?_))))))))
        exact hk7 _ _ ⟨_, _, _, H, by omega, ⟨rfl, rfl, rfl, (by first | rfl | (show PV.lit (.bool _) = _; congr 2; simp_all)), rfl, rfl, rfl, trivial⟩, h7⟩
       rw [if_neg c25] at H
       have e16 : (bt470.1 == 2) = false := by simpa using c25
       try rw [e16]
       refine Opl.one (v := .ptr i1 2) rfl rfl (by simp only [go_sem]; rfl) (Opl.ldb (v := .lit (.int .i64 ((rd_ITerm l0 x26_1).f2))) h6 rfl T3 rfl rfl rfl rfl (Opl.one (v := .ptr i1 3) rfl rfl (by simp only [go_sem]; rfl) (Opl.ldb (v := .lit (.int .i64 ((rd_ITerm l0 x26_1).f3))) h6 rfl T3 rfl rfl rfl rfl (Opl.one rfl rfl (by simp only [go_sem]; rfl) (Opl.one rfl rfl (by simp only [go_sem]; rfl) (Opl.one rfl rfl (by simp only [go_sem]; rfl) (Opl.one (v := .lit (.bool (((rd_ITerm l0 x26_1).f2) == ((rd_ITerm l0 x26_1).f3)))) rfl rfl rfl (Opl.nil ?_))))))))
       exact hk7 _ _ ⟨_, _, _, H, by omega, ⟨rfl, rfl, rfl, (by first | rfl | (show PV.lit (.bool _) = _; congr 2; simp_all)), rfl, rfl, rfl, trivial⟩, h7⟩
 ·
  refine Evr.regionN rfl (Opl.one rfl rfl (by simp only [go_sem]; rfl) ?_)
  obtain ⟨t463, h_t463, H⟩ := Option.bind_eq_some_iff.1 H
  refine Opl.callc (impl_in.ev h_t463) rfl rfl rfl rfl ⟨(.lit _), (.lit _), (.lit _), trivial⟩ (by decide) (Opl.one rfl rfl (by simp only [go_sem]; rfl) (Opl.one rfl rfl (by simp only [go_sem]; rfl) ?_))
  by_cases c27 : t463 = true
  case neg =>
   rw [if_neg c27] at H
   have e22 : (!t463) = true := by simpa using c27
   try rw [e22]
   refine Opl.skp rfl (Opl.skp rfl (Opl.skp rfl (Opl.skp rfl (Opl.one rfl rfl (by simp only [go_sem]; rfl) (Opl.nil ?_)))))
   exact hk1 _ _ ⟨_, _, H, ⟨rfl, rfl, (by first | rfl | (show PV.lit (.bool _) = _; congr 2; simp_all)), trivial⟩⟩
  rw [if_pos c27] at H
  have e21 : (!t463) = false := by simpa using c27
  try rw [e21]
  refine Opl.one rfl rfl (by simp only [go_sem]; rfl) (Opl.len (xs := l0) (by exact hv0) K60 rfl rfl rfl rfl ?_)
  obtain ⟨t464, h_t464, H⟩ := Option.bind_eq_some_iff.1 H
  refine Opl.callc (impl_in.ev h_t464) rfl rfl rfl rfl ⟨(.lit _), (.lit _), (.lit _), trivial⟩ (by decide) (Opl.one rfl rfl (by simp only [go_sem]; rfl) (Opl.one rfl rfl (by simp only [go_sem]; rfl) (Opl.nil ?_)))
  exact hk1 _ _ ⟨_, _, H, ⟨rfl, rfl, (by first | rfl | (show PV.lit (.bool _) = _; congr 2; simp_all)), trivial⟩⟩
theorem impl_kindOf.ev {k : Nat} {l0 : List ITerm} {v0 : PV} (hv0 : Sl cITerm l0 v0) {a1 : Int} {r : Int} (H : impl_kindOf.f k l0 a1 = some r) : Ret Try.prog 156 [v0, .lit (.int .i64 a1)] fun v S => v = .lit (.int .i64 r) := by
 unfold impl_kindOf.f at H
 refine Ret.intro Try.func156 rfl (Nat.le_of_ble_eq_true rfl) rfl ?_
 rw [tm2]
 refine Evr.seq (Evr.regionN rfl (Opl.one rfl rfl (by simp only [go_sem]; rfl) (Opl.nil (Evr.seq (Evr.regionN rfl (Opl.one rfl rfl (by simp only [go_sem]; rfl) (Opl.one rfl rfl (by simp only [go_sem]; rfl) ?_)))))))
 obtain ⟨t, h_t, H⟩ := Option.bind_eq_some_iff.1 H
 refine Opl.call ((impl_kindsOf.ev hv0 h_t).mono fun _ _ h => Out.vecn h) rfl rfl rfl rfl ⟨hv0.plain, (.lit _), trivial⟩ (by decide) ?_
 rintro pv1 ⟨h1, h2⟩
 refine Opl.one rfl rfl (by simp only [go_sem]; rfl) (Opl.nil (Evr.seq (Evr.seq (Evr.regionN rfl (Opl.one rfl rfl (by simp only [go_sem]; rfl) ?_)))))
 by_cases c1 : t = []
 case pos =>
  rw [if_pos c1] at H
  refine Opl.eqnil (by exact h2 c1) K26 rfl rfl (Opl.nil (Evr.condT rfl (Evr.seq (Evr.regionN rfl (Opl.one rfl rfl (by simp only [go_sem]; rfl) (Opl.nil ?_))))))
  obtain rfl := Option.some.inj H
  refine Evr.ret1 Try.func156 rfl ?_
  show (.lit (.int .i64 0) : PV) = _
  first | rfl | (simp only [go_sem]; rfl)
 rw [if_neg c1] at H
 refine Opl.eqsome (by exact h1) c1 K26 rfl rfl (Opl.nil (Evr.condF rfl (Evr.skip (Evr.seq (Evr.regionN rfl (Opl.one rfl rfl (by simp only [go_sem]; rfl) (Opl.one rfl rfl (by simp only [go_sem]; rfl) (Opl.len (xs := t) (by exact h1) K26 rfl rfl rfl rfl (Opl.subi (k := .i64) (a := (t.length : Int)) (b := 1) K3 rfl rfl rfl rfl ?_)))))))))
 obtain ⟨c2, H⟩ := peel H
 obtain ⟨c3, H⟩ := peel H
 refine Opl.idx (M := (cInt .i64)) (xs := t) (j := (wrap64 ((t.length : Int) - 1))) (0 : Int) (by exact h1) rfl (by first | omega | (simp only [List.length_set] at *; omega)) (by first | omega | (simp only [List.length_set] at *; omega)) K26 Z3 rfl rfl ?_
 rintro p1 q1 h3
 obtain rfl : p1 = [.lit (.int .i64 (rd t (wrap64 ((t.length : Int) - 1))))] := h3
 refine Opl.lda (.lit (.int .i64 (rd t (wrap64 ((t.length : Int) - 1))))) rfl T3 rfl rfl rfl rfl (Opl.one (v := .lit (.int .i64 (rd t (wrap64 ((t.length : Int) - 1))))) rfl rfl rfl (Opl.nil ?_))
 obtain rfl := Option.some.inj H
 refine Evr.ret1 Try.func156 rfl ?_
 show (.lit (.int .i64 (rd t (wrap64 ((t.length : Int) - 1)))) : PV) = _
 first | rfl | (simp only [go_sem]; rfl)
theorem impl_ruleOk.ev {k : Nat} {l0_0 : List ITerm} {v0_0 : PV} (hv0_0 : Sl cITerm l0_0 v0_0) {l0_1 : List Int} {v0_1 : PV} (hv0_1 : Sl (cInt .i64) l0_1 v0_1) {l0_2 : List (List ITerm)} {v0_2 : PV} (hv0_2 : Sl (cSl cITerm) l0_2 v0_2) {a1 : Int} {r : Bool} (H : impl_ruleOk.f k l0_0 l0_1 l0_2 a1 = some r) : Ret Try.prog 143 [.agg [v0_0, v0_1, v0_2], .lit (.int .i64 a1)] fun v S => v = .lit (.bool r) := by
 unfold impl_ruleOk.f at H
 refine Ret.intro Try.func143 rfl (Nat.le_of_ble_eq_true rfl) rfl ?_
 rw [tm2]
 refine Evr.seq (Evr.regionN rfl (Opl.box (cs := [v0_0, v0_1, v0_2]) rfl rfl rfl rfl ?_))
 rintro i1 S h1 u1 w1
 refine Opl.one rfl rfl (by simp only [go_sem]; rfl) (Opl.nil (Evr.seq (Evr.seq ?_)))
 refine Evr.join (fun tm S => ∃ (kq1 : Nat) (x20_1 : Bool) (i2 : Abs.Id), impl_ruleOk.j0 kq1 a1 x20_1 l0_0 l0_1 l0_2 = some r ∧ Has tm [(1, .lit (.int .i64 a1)), (2, .ptr i2 0), (20, .lit (.bool x20_1))] ∧ Box (.ptr i2 0) [v0_0, v0_1, v0_2] S) ?_ fun hk1 => ?_
 ·
  rintro tm S ⟨kq1, x20_1, i2, H, hh, h2⟩
  rw [hh.eq]
  obtain _ | k1 := kq1
  · simp [impl_ruleOk.j0] at H
  simp only [impl_ruleOk.j0] at H
  by_cases c1 : x20_1 = true
  case pos =>
   rw [if_pos c1] at H
   obtain rfl : x20_1 = true := by simpa using c1
   refine Evr.condT rfl (Evr.seq (Evr.regionN rfl (Opl.one rfl rfl (by simp only [go_sem]; rfl) (Opl.nil ?_))))
   obtain rfl := Option.some.inj H
   refine Evr.ret1 Try.func143 rfl ?_
   show (.lit (.bool false) : PV) = _
   first | rfl | (simp only [go_sem]; rfl)
  rw [if_neg c1] at H
  obtain rfl : x20_1 = false := by simpa using c1
  refine Evr.condF rfl (Evr.skip (Evr.seq (Evr.seq (Evr.regionN rfl (Opl.one (v := .ptr i2 1) rfl rfl (by simp only [go_sem]; rfl) (Opl.ldb (v := v0_1) h2 rfl T26 rfl rfl rfl rfl (Opl.len (xs := l0_1) (by exact hv0_1) K26 rfl rfl rfl rfl (Opl.one rfl rfl (by simp only [go_sem]; rfl) (Opl.nil (Evr.block ?_))))))))))
  refine Evr.loop (Evr.rounds (n := k1) (Inv := fun n tm S => n ≤ k1 ∧ ∃ (x24_1 : Int) (i3 : Abs.Id), impl_ruleOk.l0 n a1 l0_1 (l0_1.length : Int) x24_1 l0_0 l0_1 l0_2 = some r ∧ Has tm [(1, .lit (.int .i64 a1)), (2, .ptr i3 0), (22, v0_1), (23, .lit (.int .i64 (l0_1.length : Int))), (24, .lit (.int .i64 x24_1))] ∧ Box (.ptr i3 0) [v0_0, v0_1, v0_2] S) ?_ ?_ ?_)
  · exact ⟨Nat.le_refl _, _, _, H, ⟨rfl, rfl, rfl, rfl, rfl, trivial⟩, h2⟩
  ·
   rintro tm S ⟨_, _, _, H, -⟩
   simp [impl_ruleOk.l0] at H
  ·
   rintro n1 ih1 tm S ⟨hle, x24_1, i3, H, hh, h3⟩
   simp only [impl_ruleOk.l0] at H
   rw [hh.eq]
   refine Evr.seq (Evr.regionN rfl (Opl.one rfl rfl (by simp only [go_sem]; rfl) (Opl.nil (Evr.seq ?_))))
   by_cases c2 : x24_1 < (l0_1.length : Int)
   case neg =>
    rw [if_neg c2] at H
    have e8 : (decide (x24_1 < (l0_1.length : Int))) = false := by simpa using c2
    try rw [e8]
    refine Evr.condF rfl (Evr.exit rfl (Evr.seq (Evr.regionN rfl (Opl.one rfl rfl (by simp only [go_sem]; rfl) (Opl.nil ?_)))))
    obtain rfl := Option.some.inj H
    refine Evr.ret1 Try.func143 rfl ?_
    show (.lit (.bool true) : PV) = _
    first | rfl | (simp only [go_sem]; rfl)
   rw [if_pos c2] at H
   have e1 : (decide (x24_1 < (l0_1.length : Int))) = true := by simpa using c2
   try rw [e1]
   refine Evr.condT rfl (Evr.skip (Evr.seq (Evr.block (Evr.seq (Evr.regionN rfl (Opl.one rfl rfl (by simp only [go_sem]; rfl) ?_))))))
   obtain ⟨c3, H⟩ := peel H
   obtain ⟨c4, H⟩ := peel H
   refine Opl.idx (M := (cInt .i64)) (xs := l0_1) (j := x24_1) (0 : Int) (by exact hv0_1) rfl (by first | omega | (simp only [List.length_set] at *; omega)) (by first | omega | (simp only [List.length_set] at *; omega)) K26 Z3 rfl rfl ?_
   rintro p1 q1 h4
   obtain rfl : p1 = [.lit (.int .i64 (rd l0_1 x24_1))] := h4
   refine Opl.lda (.lit (.int .i64 (rd l0_1 x24_1))) rfl T3 rfl rfl rfl rfl (Opl.one rfl rfl (by simp only [go_sem]; rfl) (Opl.one rfl rfl (by simp only [go_sem]; rfl) (Opl.nil (Evr.seq ?_))))
   refine Evr.join (fun tm S => ∃ (kq2 : Nat) (x57_1 : Bool) (i4 : Abs.Id), impl_ruleOk.j2 kq2 a1 l0_1 (l0_1.length : Int) x24_1 x57_1 l0_0 l0_1 l0_2 = some r ∧ kq2 ≤ n1 ∧ Has tm [(1, .lit (.int .i64 a1)), (2, .ptr i4 0), (22, v0_1), (23, .lit (.int .i64 (l0_1.length : Int))), (24, .lit (.int .i64 x24_1)), (57, .lit (.bool x57_1))] ∧ Box (.ptr i4 0) [v0_0, v0_1, v0_2] S) ?_ fun hk2 => ?_
   ·
    rintro tm S ⟨kq2, x57_1, i4, H, hle, hh, h5⟩
    rw [hh.eq]
    obtain _ | k2 := kq2
    · simp [impl_ruleOk.j2] at H
    simp only [impl_ruleOk.j2] at H
    by_cases c5 : x57_1 = true
    case pos =>
     rw [if_pos c5] at H
     obtain rfl : x57_1 = true := by simpa using c5
     refine Evr.condT rfl (Evr.seq (Evr.regionN rfl (Opl.one rfl rfl (by simp only [go_sem]; rfl) (Opl.nil ?_))))
     obtain rfl := Option.some.inj H
     refine Evr.ret1 Try.func143 rfl ?_
     show (.lit (.bool false) : PV) = _
     first | rfl | (simp only [go_sem]; rfl)
    rw [if_neg c5] at H
    obtain rfl : x57_1 = false := by simpa using c5
    refine Evr.condF rfl (Evr.skip (Evr.inBlock (Evr.regionN rfl (Opl.add (k := .i64) (a := x24_1) (b := 1) K3 rfl rfl rfl rfl (Opl.one (v := .lit (.int .i64 (wrap64 (x24_1 + 1)))) rfl rfl rfl (Opl.nil ?_))))))
    exact ih1 _ (by omega) _ _ ⟨by omega, _, _, H, ⟨rfl, rfl, rfl, rfl, rfl, trivial⟩, h5⟩
   ·
    refine Evr.regionN rfl (Opl.one rfl rfl (by simp only [go_sem]; rfl) (Opl.one rfl rfl (by simp only [go_sem]; rfl) (Opl.subi (k := .i64) (a := a1) (b := 1) K3 rfl rfl rfl rfl ?_)))
    obtain ⟨t486, h_t486, H⟩ := Option.bind_eq_some_iff.1 H
    refine Opl.callc (impl_in.ev h_t486) rfl rfl rfl rfl ⟨(.lit _), (.lit _), (.lit _), trivial⟩ (by decide) (Opl.one rfl rfl (by simp only [go_sem]; rfl) (Opl.one (v := .lit (.bool (!t486))) rfl rfl rfl ?_))
    by_cases c6 : t486 = true
    case neg =>
     rw [if_neg c6] at H
     have e7 : (!t486) = true := by simpa using c6
     try rw [e7]
     refine Opl.skp rfl (Opl.skp rfl (Opl.skp rfl (Opl.skp rfl (Opl.skp rfl (Opl.skp rfl (Opl.skp rfl (Opl.skp rfl (Opl.skp rfl (Opl.skp rfl (Opl.skp rfl (Opl.skp rfl (Opl.one rfl rfl (by simp only [go_sem]; rfl) (Opl.one (v := .lit (.bool true)) rfl rfl rfl (Opl.skp rfl (Opl.skp rfl (Opl.skp rfl (Opl.skp rfl (Opl.skp rfl (Opl.skp rfl (Opl.skp rfl (Opl.skp rfl (Opl.one rfl rfl (by simp only [go_sem]; rfl) (Opl.nil ?_)))))))))))))))))))))))
     exact hk2 _ _ ⟨_, _, _, H, by omega, ⟨rfl, rfl, rfl, rfl, rfl, (by first | rfl | (show PV.lit (.bool _) = _; congr 2; simp_all)), trivial⟩, h3⟩
    rw [if_pos c6] at H
    have e2 : (!t486) = false := by simpa using c6
    try rw [e2]
    refine Opl.one (v := .lit (.int .i64 x24_1)) rfl rfl rfl (Opl.one rfl rfl (by simp only [go_sem]; rfl) (Opl.one (v := .lit (.bool (decide (x24_1 > 0)))) rfl rfl rfl ?_))
    by_cases c7 : x24_1 > 0
    case neg =>
     rw [if_neg c7] at H
     have e6 : (decide (x24_1 > 0)) = false := by simpa using c7
     try rw [e6]
     refine Opl.skp rfl (Opl.skp rfl (Opl.skp rfl (Opl.skp rfl (Opl.skp rfl (Opl.skp rfl (Opl.skp rfl (Opl.skp rfl (Opl.one rfl rfl (by simp only [go_sem]; rfl) (Opl.one rfl rfl (by simp only [go_sem]; rfl) (Opl.one (v := .lit (.bool false)) rfl rfl rfl (Opl.one (v := .ptr i3 2) rfl rfl (by simp only [go_sem]; rfl) (Opl.ldb (v := v0_2) h3 rfl T74 rfl rfl rfl rfl (Opl.one (v := .lit (.int .i64 x24_1)) rfl rfl rfl ?_)))))))))))))
     obtain ⟨c12, H⟩ := peel H
     refine Opl.idx (M := (cSl cITerm)) (xs := l0_2) (j := x24_1) ([] : List ITerm) (by exact hv0_2) rfl (by first | omega | (simp only [List.length_set] at *; omega)) (by first | omega | (simp only [List.length_set] at *; omega)) K74 Z60 rfl rfl ?_
     rintro p4 q4 h9
     obtain ⟨pv2, rfl, h10⟩ := h9
     refine Opl.lda (pv2) rfl T60 rfl rfl rfl rfl (Opl.one (v := .lit (.int .i64 a1)) rfl rfl rfl ?_)
     obtain ⟨t491, h_t491, H⟩ := Option.bind_eq_some_iff.1 H
     refine Opl.callc (impl_kindOf.ev h10 h_t491) rfl rfl rfl rfl ⟨h10.plain, (.lit _), trivial⟩ (by decide) (Opl.one rfl rfl (by simp only [go_sem]; rfl) (Opl.one rfl rfl (by simp only [go_sem]; rfl) (Opl.nil ?_)))
     exact hk2 _ _ ⟨_, _, _, H, by omega, ⟨rfl, rfl, rfl, rfl, rfl, (by first | rfl | (show PV.lit (.bool _) = _; congr 2; simp_all)), trivial⟩, h3⟩
    rw [if_pos c7] at H
    have e3 : (decide (x24_1 > 0)) = true := by simpa using c7
    try rw [e3]
    refine Opl.one (v := .ptr i3 1) rfl rfl (by simp only [go_sem]; rfl) (Opl.ldb (v := v0_1) h3 rfl T26 rfl rfl rfl rfl (Opl.one (v := .lit (.int .i64 x24_1)) rfl rfl rfl (Opl.subi (k := .i64) (a := x24_1) (b := 1) K3 rfl rfl rfl rfl ?_)))
    obtain ⟨c8, H⟩ := peel H
    obtain ⟨c9, H⟩ := peel H
    refine Opl.idx (M := (cInt .i64)) (xs := l0_1) (j := (wrap64 (x24_1 - 1))) (0 : Int) (by exact hv0_1) rfl (by first | omega | (simp only [List.length_set] at *; omega)) (by first | omega | (simp only [List.length_set] at *; omega)) K26 Z3 rfl rfl ?_
    rintro p2 q2 h6
    obtain rfl : p2 = [.lit (.int .i64 (rd l0_1 (wrap64 (x24_1 - 1))))] := h6
    refine Opl.lda (.lit (.int .i64 (rd l0_1 (wrap64 (x24_1 - 1))))) rfl T3 rfl rfl rfl rfl (Opl.one (v := .lit (.int .i64 (rd l0_1 x24_1))) rfl rfl rfl (Opl.geq (a := (rd l0_1 (wrap64 (x24_1 - 1)))) (b := (rd l0_1 x24_1)) K3 rfl rfl rfl rfl (Opl.one rfl rfl (by simp only [go_sem]; rfl) (Opl.one rfl rfl (by simp only [go_sem]; rfl) (Opl.one (v := .lit (.bool (decide ((rd l0_1 (wrap64 (x24_1 - 1))) ≥ (rd l0_1 x24_1))))) rfl rfl rfl ?_)))))
    by_cases c10 : (rd l0_1 (wrap64 (x24_1 - 1))) ≥ (rd l0_1 x24_1)
    case pos =>
     rw [if_pos c10] at H
     have e4 : (decide ((rd l0_1 (wrap64 (x24_1 - 1))) ≥ (rd l0_1 x24_1))) = true := by simpa using c10
     try rw [e4]
     refine Opl.skp rfl (Opl.skp rfl (Opl.skp rfl (Opl.skp rfl (Opl.skp rfl (Opl.skp rfl (Opl.skp rfl (Opl.skp rfl (Opl.one rfl rfl (by simp only [go_sem]; rfl) (Opl.nil ?_)))))))))
     exact hk2 _ _ ⟨_, _, _, H, by omega, ⟨rfl, rfl, rfl, rfl, rfl, (by first | rfl | (show PV.lit (.bool _) = _; congr 2; simp_all)), trivial⟩, h3⟩
    rw [if_neg c10] at H
    have e5 : (decide ((rd l0_1 (wrap64 (x24_1 - 1))) ≥ (rd l0_1 x24_1))) = false := by simpa using c10
    try rw [e5]
    refine Opl.one (v := .ptr i3 2) rfl rfl (by simp only [go_sem]; rfl) (Opl.ldb (v := v0_2) h3 rfl T74 rfl rfl rfl rfl (Opl.one (v := .lit (.int .i64 x24_1)) rfl rfl rfl ?_))
    obtain ⟨c11, H⟩ := peel H
    refine Opl.idx (M := (cSl cITerm)) (xs := l0_2) (j := x24_1) ([] : List ITerm) (by exact hv0_2) rfl (by first | omega | (simp only [List.length_set] at *; omega)) (by first | omega | (simp only [List.length_set] at *; omega)) K74 Z60 rfl rfl ?_
    rintro p3 q3 h7
    obtain ⟨pv1, rfl, h8⟩ := h7
    refine Opl.lda (pv1) rfl T60 rfl rfl rfl rfl (Opl.one (v := .lit (.int .i64 a1)) rfl rfl rfl ?_)
    obtain ⟨t489, h_t489, H⟩ := Option.bind_eq_some_iff.1 H
    refine Opl.callc (impl_kindOf.ev h8 h_t489) rfl rfl rfl rfl ⟨h8.plain, (.lit _), trivial⟩ (by decide) (Opl.one rfl rfl (by simp only [go_sem]; rfl) (Opl.one rfl rfl (by simp only [go_sem]; rfl) (Opl.nil ?_)))
    exact hk2 _ _ ⟨_, _, _, H, by omega, ⟨rfl, rfl, rfl, rfl, rfl, (by first | rfl | (show PV.lit (.bool _) = _; congr 2; simp_all)), trivial⟩, h3⟩
 ·
  refine Evr.regionN rfl (Opl.one (v := .ptr i1 0) rfl rfl (by simp only [go_sem]; rfl) (Opl.ldb (v := v0_0) h1 rfl T60 rfl rfl rfl rfl (Opl.one rfl rfl (by simp only [go_sem]; rfl) ?_)))
  obtain ⟨t484, h_t484, H⟩ := Option.bind_eq_some_iff.1 H
  refine Opl.callc (impl_kindOf.ev hv0_0 h_t484) rfl rfl rfl rfl ⟨hv0_0.plain, (.lit _), trivial⟩ (by decide) (Opl.one rfl rfl (by simp only [go_sem]; rfl) (Opl.one rfl rfl (by simp only [go_sem]; rfl) ?_))
  by_cases c13 : t484 = 2
  case neg =>
   rw [if_neg c13] at H
   have e10 : (t484 != 2) = true := by simpa using c13
   try rw [e10]
   refine Opl.skp rfl (Opl.skp rfl (Opl.skp rfl (Opl.skp rfl (Opl.skp rfl (Opl.skp rfl (Opl.skp rfl (Opl.one rfl rfl (by simp only [go_sem]; rfl) (Opl.nil ?_))))))))
   exact hk1 _ _ ⟨_, _, _, H, ⟨rfl, rfl, (by first | rfl | (show PV.lit (.bool _) = _; congr 2; simp_all)), trivial⟩, h1⟩
  rw [if_pos c13] at H
  have e9 : (t484 != 2) = false := by simpa using c13
  try rw [e9]
  refine Opl.one (v := .ptr i1 1) rfl rfl (by simp only [go_sem]; rfl) (Opl.ldb (v := v0_1) h1 rfl T26 rfl rfl rfl rfl (Opl.len (xs := l0_1) (by exact hv0_1) K26 rfl rfl rfl rfl (Opl.one (v := .ptr i1 2) rfl rfl (by simp only [go_sem]; rfl) (Opl.ldb (v := v0_2) h1 rfl T74 rfl rfl rfl rfl (Opl.len (xs := l0_2) (by exact hv0_2) K74 rfl rfl rfl rfl (Opl.one rfl rfl (by simp only [go_sem]; rfl) (Opl.one rfl rfl (by simp only [go_sem]; rfl) (Opl.nil ?_))))))))
  exact hk1 _ _ ⟨_, _, _, H, ⟨rfl, rfl, (by first | rfl | (show PV.lit (.bool _) = _; congr 2; simp_all)), trivial⟩, h1⟩
theorem impl_SystemValid_2.ev {k : Nat} {l0_0 : List ITerm} {v0_0 : PV} (hv0_0 : Sl cITerm l0_0 v0_0) {l0_1 : List Int} {v0_1 : PV} (hv0_1 : Sl (cInt .i64) l0_1 v0_1) {l0_2 : List (List ITerm)} {v0_2 : PV} (hv0_2 : Sl (cSl cITerm) l0_2 v0_2) {l1_0 : List IVar} {v1_0 : PV} (hv1_0 : Sl cIVar l1_0 v1_0) {l1_1 : List IRule} {v1_1 : PV} (hv1_1 : Sl cIRule l1_1 v1_1) {r : Bool} (H : impl_SystemValid_2.f k l0_0 l0_1 l0_2 l1_0 l1_1 = some r) : Ret Try.prog 142 [.agg [v0_0, v0_1, v0_2], .fel (v1_0 :: v1_1 :: [])] fun v S => v = .lit (.bool r) := by
 unfold impl_SystemValid_2.f at H
 refine Ret.intro Try.func142 rfl (Nat.le_of_ble_eq_true rfl) rfl ?_
 rw [tm2]
 refine Evr.seq (Evr.regionN rfl (Opl.box (cs := [v0_0, v0_1, v0_2]) rfl rfl rfl rfl ?_))
 rintro i1 S h1 u1 w1
 refine Opl.one rfl rfl (by simp only [go_sem]; rfl) (Opl.nil (Evr.seq (Evr.regionN rfl (Opl.ldb (v := .agg [v0_0, v0_1, v0_2]) h1 rfl T125 rfl rfl rfl rfl (Opl.one (v := .fel (v1_0 :: v1_1 :: [])) rfl rfl (by simp only [go_sem]; rfl) (Opl.lda (v1_0) rfl T29 rfl rfl rfl rfl (Opl.len (xs := l1_0) (by exact hv1_0) K29 rfl rfl rfl rfl ?_)))))))
 obtain ⟨t499, h_t499, H⟩ := Option.bind_eq_some_iff.1 H
 refine Opl.callc (impl_ruleOk.ev hv0_0 hv0_1 hv0_2 h_t499) rfl rfl rfl rfl ⟨(.aggL ⟨hv0_0.plain, hv0_1.plain, hv0_2.plain, trivial⟩), (.lit _), trivial⟩ (by decide) (Opl.one rfl rfl (by simp only [go_sem]; rfl) (Opl.one rfl rfl (by simp only [go_sem]; rfl) (Opl.nil ?_)))
 obtain rfl := Option.some.inj H
 refine Evr.ret1 Try.func142 rfl ?_
 show (.lit (.bool (!t499)) : PV) = _
 first | rfl | (simp only [go_sem]; rfl)
theorem slices_IndexFunc_at_impl_SystemValid_2.ev {k : Nat} {l0 : List IRule} {v0 : PV} (hv0 : Sl cIRule l0 v0) {l2_0 : List IVar} {v2_0 : PV} (hv2_0 : Sl cIVar l2_0 v2_0) {l2_1 : List IRule} {v2_1 : PV} (hv2_1 : Sl cIRule l2_1 v2_1) {r : Int} (H : slices_IndexFunc_at_impl_SystemValid_2.f k l0 l2_0 l2_1 = some r) : Ret Try.prog 171 [v0, .fn 142 [.fel (v2_0 :: v2_1 :: [])]] fun v S => v = .lit (.int .i64 r) := by
 unfold slices_IndexFunc_at_impl_SystemValid_2.f at H
 refine Ret.intro Try.func171 rfl (Nat.le_of_ble_eq_true rfl) rfl ?_
 rw [tm2]
 refine Evr.seq (Evr.regionN rfl (Opl.one rfl rfl (by simp only [go_sem]; rfl) (Opl.nil (Evr.seq (Evr.seq (Evr.regionN rfl (Opl.one rfl rfl (by simp only [go_sem]; rfl) (Opl.len (xs := l0) (by exact hv0) K30 rfl rfl rfl rfl (Opl.one rfl rfl (by simp only [go_sem]; rfl) (Opl.nil (Evr.block ?_)))))))))))
 refine Evr.loop (Evr.rounds (n := k) (Inv := fun n tm S => n ≤ k ∧ ∃ (x8_1 : Int), slices_IndexFunc_at_impl_SystemValid_2.l0 n l0 (l0.length : Int) x8_1 l2_0 l2_1 = some r ∧ Has tm [(0, v0), (1, .fn 142 [.fel (v2_0 :: v2_1 :: [])]), (7, .lit (.int .i64 (l0.length : Int))), (8, .lit (.int .i64 x8_1))]) ?_ ?_ ?_)
 · exact ⟨Nat.le_refl _, _, H, ⟨rfl, rfl, rfl, rfl, trivial⟩⟩
 ·
  rintro tm S ⟨_, _, H, -⟩
  simp [slices_IndexFunc_at_impl_SystemValid_2.l0] at H
 ·
  rintro n1 ih1 tm S ⟨hle, x8_1, H, hh⟩
  simp only [slices_IndexFunc_at_impl_SystemValid_2.l0] at H
  rw [hh.eq]
  refine Evr.seq (Evr.regionN rfl (Opl.one rfl rfl (by simp only [go_sem]; rfl) (Opl.nil (Evr.seq ?_))))
  by_cases c1 : x8_1 < (l0.length : Int)
  case neg =>
   rw [if_neg c1] at H
   have e2 : (decide (x8_1 < (l0.length : Int))) = false := by simpa using c1
   try rw [e2]
   refine Evr.condF rfl (Evr.exit rfl (Evr.seq (Evr.regionN rfl (Opl.one rfl rfl (by simp only [go_sem]; rfl) (Opl.nil ?_)))))
   obtain rfl := Option.some.inj H
   refine Evr.ret1 Try.func171 rfl ?_
   show (.lit (.int .i64 (-1)) : PV) = _
   first | rfl | (simp only [go_sem]; rfl)
  rw [if_pos c1] at H
  have e1 : (decide (x8_1 < (l0.length : Int))) = true := by simpa using c1
  try rw [e1]
  refine Evr.condT rfl (Evr.skip (Evr.seq (Evr.block (Evr.seq (Evr.regionN rfl (Opl.one rfl rfl (by simp only [go_sem]; rfl) (Opl.one rfl rfl (by simp only [go_sem]; rfl) (Opl.nil (Evr.seq (Evr.regionN rfl (Opl.one rfl rfl (by simp only [go_sem]; rfl) (Opl.one rfl rfl (by simp only [go_sem]; rfl) (Opl.one rfl rfl (by simp only [go_sem]; rfl) ?_)))))))))))))
  obtain ⟨c2, H⟩ := peel H
  obtain ⟨c3, H⟩ := peel H
  refine Opl.idx (M := cIRule) (xs := l0) (j := x8_1) zIRule (by exact hv0) rfl (by first | omega | (simp only [List.length_set] at *; omega)) (by first | omega | (simp only [List.length_set] at *; omega)) K30 Z125 rfl rfl ?_
  rintro p1 q1 h1
  obtain ⟨pv1, pv2, pv3, rfl, h2, h3, h4⟩ := cIRule_R (x := (rd_IRule l0 x8_1)) h1
  refine Opl.lda (.agg [pv1, pv2, pv3]) rfl T125 rfl rfl rfl rfl ?_
  obtain ⟨t502, h_t502, H⟩ := Option.bind_eq_some_iff.1 H
  refine Opl.callc (impl_SystemValid_2.ev h2 h3 h4 hv2_0 hv2_1 h_t502) rfl rfl rfl rfl ⟨(.aggL ⟨h2.plain, h3.plain, h4.plain, trivial⟩), (.felL ⟨hv2_0.plain, hv2_1.plain, trivial⟩), trivial⟩ (by decide) (Opl.nil ?_)
  by_cases c4 : t502 = true
  case neg =>
   rw [if_neg c4] at H
   obtain rfl : t502 = false := by simpa using c4
   refine Evr.condF rfl (Evr.skip (Evr.inBlock (Evr.regionN rfl (Opl.add (k := .i64) (a := x8_1) (b := 1) K3 rfl rfl rfl rfl (Opl.one (v := .lit (.int .i64 (wrap64 (x8_1 + 1)))) rfl rfl rfl (Opl.nil ?_))))))
   exact ih1 _ (by omega) _ _ ⟨by omega, _, H, ⟨rfl, rfl, rfl, rfl, trivial⟩⟩
  rw [if_pos c4] at H
  obtain rfl : t502 = true := by simpa using c4
  refine Evr.condT rfl (Evr.seq (Evr.regionN rfl (Opl.one rfl rfl (by simp only [go_sem]; rfl) (Opl.one rfl rfl (by simp only [go_sem]; rfl) (Opl.nil ?_)))))
  obtain rfl := Option.some.inj H
  refine Evr.ret1 Try.func171 rfl ?_
  show (.lit (.int .i64 x8_1) : PV) = _
  first | rfl | (simp only [go_sem]; rfl)
theorem slices_ContainsFunc_at_impl_SystemValid_2.ev {k : Nat} {l0 : List IRule} {v0 : PV} (hv0 : Sl cIRule l0 v0) {l2_0 : List IVar} {v2_0 : PV} (hv2_0 : Sl cIVar l2_0 v2_0) {l2_1 : List IRule} {v2_1 : PV} (hv2_1 : Sl cIRule l2_1 v2_1) {r : Bool} (H : slices_ContainsFunc_at_impl_SystemValid_2.f k l0 l2_0 l2_1 = some r) : Ret Try.prog 141 [v0, .fn 142 [.fel (v2_0 :: v2_1 :: [])]] fun v S => v = .lit (.bool r) := by
 unfold slices_ContainsFunc_at_impl_SystemValid_2.f at H
 refine Ret.intro Try.func141 rfl (Nat.le_of_ble_eq_true rfl) rfl ?_
 rw [tm2]
 refine Evr.seq (Evr.regionN rfl (Opl.one rfl rfl (by simp only [go_sem]; rfl) (Opl.nil (Evr.seq (Evr.regionN rfl (Opl.one rfl rfl (by simp only [go_sem]; rfl) (Opl.one rfl rfl (by simp only [go_sem]; rfl) ?_)))))))
 obtain ⟨t504, h_t504, H⟩ := Option.bind_eq_some_iff.1 H
 refine Opl.callc (slices_IndexFunc_at_impl_SystemValid_2.ev hv0 hv2_0 hv2_1 h_t504) rfl rfl rfl rfl ⟨hv0.plain, (.fnL ⟨(.felL ⟨hv2_0.plain, hv2_1.plain, trivial⟩), trivial⟩), trivial⟩ (by decide) (Opl.one rfl rfl (by simp only [go_sem]; rfl) (Opl.one rfl rfl (by simp only [go_sem]; rfl) (Opl.nil ?_)))
 obtain rfl := Option.some.inj H
 refine Evr.ret1 Try.func141 rfl ?_
 show (.lit (.bool (decide (t504 ≥ 0))) : PV) = _
 first | rfl | (simp only [go_sem]; rfl)
theorem impl_SystemValid.ev {k : Nat} {l0_0 : List IVar} {v0_0 : PV} (hv0_0 : Sl cIVar l0_0 v0_0) {l0_1 : List IRule} {v0_1 : PV} (hv0_1 : Sl cIRule l0_1 v0_1) {r : Bool} (H : impl_SystemValid.f k l0_0 l0_1 = some r) : Ret Try.prog 80 [.agg [v0_0, v0_1]] fun v S => v = .lit (.bool r) := by
 unfold impl_SystemValid.f at H
 refine Ret.intro Try.func80 rfl (Nat.le_of_ble_eq_true rfl) rfl ?_
 rw [tm1]
 refine Evr.seq (Evr.regionN rfl (Opl.box (cs := [v0_0, v0_1]) rfl rfl rfl rfl ?_))
 rintro i1 S h1 u1 w1
 refine Opl.one rfl rfl (by simp only [go_sem]; rfl) (Opl.nil (Evr.seq (Evr.seq ?_)))
 refine Evr.join (fun tm S => ∃ (kq1 : Nat) (x24_1 : Bool) (i2 : Abs.Id), impl_SystemValid.j0 kq1 x24_1 l0_0 l0_1 = some r ∧ Has tm [(1, .ptr i2 0), (24, .lit (.bool x24_1))] ∧ Box (.ptr i2 0) [v0_0, v0_1] S) ?_ fun hk1 => ?_
 ·
  rintro tm S ⟨kq1, x24_1, i2, H, hh, h2⟩
  rw [hh.eq]
  obtain _ | k1 := kq1
  · simp [impl_SystemValid.j0] at H
  simp only [impl_SystemValid.j0] at H
  by_cases c1 : x24_1 = true
  case pos =>
   rw [if_pos c1] at H
   obtain rfl : x24_1 = true := by simpa using c1
   refine Evr.condT rfl (Evr.seq (Evr.regionN rfl (Opl.one rfl rfl (by simp only [go_sem]; rfl) (Opl.nil ?_))))
   obtain rfl := Option.some.inj H
   refine Evr.ret1 Try.func80 rfl ?_
   show (.lit (.bool false) : PV) = _
   first | rfl | (simp only [go_sem]; rfl)
  rw [if_neg c1] at H
  obtain rfl : x24_1 = false := by simpa using c1
  refine Evr.condF rfl (Evr.skip (Evr.seq (Evr.regionN rfl (Opl.one (v := .ptr i2 1) rfl rfl (by simp only [go_sem]; rfl) (Opl.ldb (v := v0_1) h2 rfl T30 rfl rfl rfl rfl (Opl.one rfl rfl (by simp only [go_sem]; rfl) ?_))))))
  obtain ⟨t509, h_t509, H⟩ := Option.bind_eq_some_iff.1 H
  refine Opl.callw (slices_ContainsFunc_at_impl_SystemValid_2.ev hv0_1 hv0_0 hv0_1 h_t509) rfl rfl rfl (.cons (.refl _) (.cons (View.fnV (.cons (View.boxV h2 (.cons (.refl _) (.cons (.refl _) .nil))) .nil)) .nil)) ⟨hv0_1.plain, (.fnL ⟨(.felL ⟨hv0_0.plain, hv0_1.plain, trivial⟩), trivial⟩), trivial⟩ (by decide) (Opl.one rfl rfl (by simp only [go_sem]; rfl) (Opl.one rfl rfl (by simp only [go_sem]; rfl) (Opl.nil ?_)))
  obtain rfl := Option.some.inj H
  refine Evr.ret1 Try.func80 rfl ?_
  show (.lit (.bool (!t509)) : PV) = _
  first | rfl | (simp only [go_sem]; rfl)
 ·
  refine Evr.regionN rfl (Opl.one (v := .ptr i1 0) rfl rfl (by simp only [go_sem]; rfl) (Opl.ldb (v := v0_0) h1 rfl T29 rfl rfl rfl rfl (Opl.len (xs := l0_0) (by exact hv0_0) K29 rfl rfl rfl rfl ?_)))
  obtain ⟨t506, h_t506, H⟩ := Option.bind_eq_some_iff.1 H
  refine Opl.callc (impl_in.ev h_t506) rfl rfl rfl rfl ⟨(.lit _), (.lit _), (.lit _), trivial⟩ (by decide) (Opl.one rfl rfl (by simp only [go_sem]; rfl) (Opl.one rfl rfl (by simp only [go_sem]; rfl) ?_))
  by_cases c2 : t506 = true
  case neg =>
   rw [if_neg c2] at H
   have e4 : (!t506) = true := by simpa using c2
   try rw [e4]
   refine Opl.skp rfl (Opl.skp rfl (Opl.skp rfl (Opl.skp rfl (Opl.one rfl rfl (by simp only [go_sem]; rfl) (Opl.one rfl rfl (by simp only [go_sem]; rfl) (Opl.skp rfl (Opl.skp rfl (Opl.skp rfl (Opl.one rfl rfl (by simp only [go_sem]; rfl) (Opl.one rfl rfl (by simp only [go_sem]; rfl) (Opl.skp rfl (Opl.skp rfl (Opl.skp rfl (Opl.skp rfl (Opl.one rfl rfl (by simp only [go_sem]; rfl) (Opl.nil ?_))))))))))))))))
   exact hk1 _ _ ⟨_, _, _, H, ⟨rfl, (by first | rfl | (show PV.lit (.bool _) = _; congr 2; simp_all)), trivial⟩, h1⟩
  rw [if_pos c2] at H
  have e1 : (!t506) = false := by simpa using c2
  try rw [e1]
  refine Opl.one (v := .ptr i1 1) rfl rfl (by simp only [go_sem]; rfl) (Opl.ldb (v := v0_1) h1 rfl T30 rfl rfl rfl rfl (Opl.len (xs := l0_1) (by exact hv0_1) K30 rfl rfl rfl rfl (Opl.one rfl rfl (by simp only [go_sem]; rfl) (Opl.one rfl rfl (by simp only [go_sem]; rfl) (Opl.one rfl rfl (by simp only [go_sem]; rfl) ?_)))))
  by_cases c3 : (l0_1.length : Int) > 8
  case pos =>
   rw [if_pos c3] at H
   have e2 : (decide ((l0_1.length : Int) > 8)) = true := by simpa using c3
   try rw [e2]
   refine Opl.skp rfl (Opl.skp rfl (Opl.skp rfl (Opl.one rfl rfl (by simp only [go_sem]; rfl) (Opl.one rfl rfl (by simp only [go_sem]; rfl) (Opl.skp rfl (Opl.skp rfl (Opl.skp rfl (Opl.skp rfl (Opl.one rfl rfl (by simp only [go_sem]; rfl) (Opl.nil ?_))))))))))
   exact hk1 _ _ ⟨_, _, _, H, ⟨rfl, (by first | rfl | (show PV.lit (.bool _) = _; congr 2; simp_all)), trivial⟩, h1⟩
  rw [if_neg c3] at H
  have e3 : (decide ((l0_1.length : Int) > 8)) = false := by simpa using c3
  try rw [e3]
  refine Opl.one (v := .ptr i1 0) rfl rfl (by simp only [go_sem]; rfl) (Opl.ldb (v := v0_0) h1 rfl T29 rfl rfl rfl rfl ?_)
  obtain ⟨t507, h_t507, H⟩ := Option.bind_eq_some_iff.1 H
  refine Opl.callc (slices_ContainsFunc_at_impl_SystemValid_1.ev hv0_0 h_t507) rfl rfl rfl rfl ⟨hv0_0.plain, (.lit _), trivial⟩ (by decide) (Opl.one rfl rfl (by simp only [go_sem]; rfl) (Opl.one rfl rfl (by simp only [go_sem]; rfl) ?_))
  by_cases c4 : t507 = true
  case pos =>
   rw [if_pos c4] at H
   obtain rfl : t507 = true := by simpa using c4
   refine Opl.skp rfl (Opl.skp rfl (Opl.skp rfl (Opl.skp rfl (Opl.one rfl rfl (by simp only [go_sem]; rfl) (Opl.nil ?_)))))
   exact hk1 _ _ ⟨_, _, _, H, ⟨rfl, (by first | rfl | (show PV.lit (.bool _) = _; congr 2; simp_all)), trivial⟩, h1⟩
  rw [if_neg c4] at H
  obtain rfl : t507 = false := by simpa using c4
  refine Opl.one (v := .ptr i1 0) rfl rfl (by simp only [go_sem]; rfl) (Opl.ldb (v := v0_0) h1 rfl T29 rfl rfl rfl rfl ?_)
  obtain ⟨t508, h_t508, H⟩ := Option.bind_eq_some_iff.1 H
  refine Opl.callc (impl_size.ev hv0_0 h_t508) rfl rfl rfl rfl ⟨hv0_0.plain, trivial⟩ (by decide) (Opl.one rfl rfl (by simp only [go_sem]; rfl) (Opl.one rfl rfl (by simp only [go_sem]; rfl) (Opl.nil ?_)))
  exact hk1 _ _ ⟨_, _, _, H, ⟨rfl, (by first | rfl | (show PV.lit (.bool _) = _; congr 2; simp_all)), trivial⟩, h1⟩
theorem impl_setOk.ev {k : Nat} {l0 : List Int} {v0 : PV} (hv0 : Sl (cInt .i64) l0 v0) {a1 : Int} {r : Bool} (H : impl_setOk.f k l0 a1 = some r) : Ret Try.prog 151 [v0, .lit (.int .i64 a1)] fun v S => v = .lit (.bool r) := by
 unfold impl_setOk.f at H
 refine Ret.intro Try.func151 rfl (Nat.le_of_ble_eq_true rfl) rfl ?_
 rw [tm2]
 refine Evr.seq (Evr.regionN rfl (Opl.one rfl rfl (by simp only [go_sem]; rfl) (Opl.nil (Evr.seq (Evr.seq (Evr.regionN rfl (Opl.one rfl rfl (by simp only [go_sem]; rfl) (Opl.len (xs := l0) (by exact hv0) K26 rfl rfl rfl rfl (Opl.one rfl rfl (by simp only [go_sem]; rfl) (Opl.nil (Evr.block ?_)))))))))))
 refine Evr.loop (Evr.rounds (n := k) (Inv := fun n tm S => n ≤ k ∧ ∃ (x9_1 : Int), impl_setOk.l0 n l0 a1 l0 (l0.length : Int) x9_1 = some r ∧ Has tm [(0, v0), (1, .lit (.int .i64 a1)), (7, v0), (8, .lit (.int .i64 (l0.length : Int))), (9, .lit (.int .i64 x9_1))]) ?_ ?_ ?_)
 · exact ⟨Nat.le_refl _, _, H, ⟨rfl, rfl, rfl, rfl, rfl, trivial⟩⟩
 ·
  rintro tm S ⟨_, _, H, -⟩
  simp [impl_setOk.l0] at H
 ·
  rintro n1 ih1 tm S ⟨hle, x9_1, H, hh⟩
  simp only [impl_setOk.l0] at H
  rw [hh.eq]
  refine Evr.seq (Evr.regionN rfl (Opl.one rfl rfl (by simp only [go_sem]; rfl) (Opl.nil (Evr.seq ?_))))
  by_cases c1 : x9_1 < (l0.length : Int)
  case neg =>
   rw [if_neg c1] at H
   have e8 : (decide (x9_1 < (l0.length : Int))) = false := by simpa using c1
   try rw [e8]
   refine Evr.condF rfl (Evr.exit rfl (Evr.seq (Evr.regionN rfl (Opl.one rfl rfl (by simp only [go_sem]; rfl) (Opl.nil ?_)))))
   obtain rfl := Option.some.inj H
   refine Evr.ret1 Try.func151 rfl ?_
   show (.lit (.bool true) : PV) = _
   first | rfl | (simp only [go_sem]; rfl)
  rw [if_pos c1] at H
  have e1 : (decide (x9_1 < (l0.length : Int))) = true := by simpa using c1
  try rw [e1]
  refine Evr.condT rfl (Evr.skip (Evr.seq (Evr.block (Evr.seq (Evr.regionN rfl (Opl.one rfl rfl (by simp only [go_sem]; rfl) ?_))))))
  obtain ⟨c2, H⟩ := peel H
  obtain ⟨c3, H⟩ := peel H
  refine Opl.idx (M := (cInt .i64)) (xs := l0) (j := x9_1) (0 : Int) (by exact hv0) rfl (by first | omega | (simp only [List.length_set] at *; omega)) (by first | omega | (simp only [List.length_set] at *; omega)) K26 Z3 rfl rfl ?_
  rintro p1 q1 h1
  obtain rfl : p1 = [.lit (.int .i64 (rd l0 x9_1))] := h1
  refine Opl.lda (.lit (.int .i64 (rd l0 x9_1))) rfl T3 rfl rfl rfl rfl (Opl.one rfl rfl (by simp only [go_sem]; rfl) (Opl.one rfl rfl (by simp only [go_sem]; rfl) (Opl.nil (Evr.seq (Evr.regionN rfl (Opl.one rfl rfl (by simp only [go_sem]; rfl) (Opl.one rfl rfl (by simp only [go_sem]; rfl) (Opl.subi (k := .i64) (a := a1) (b := 1) K3 rfl rfl rfl rfl ?_))))))))
  obtain ⟨t841, h_t841, H⟩ := Option.bind_eq_some_iff.1 H
  refine Opl.callc (impl_in.ev h_t841) rfl rfl rfl rfl ⟨(.lit _), (.lit _), (.lit _), trivial⟩ (by decide) (Opl.one rfl rfl (by simp only [go_sem]; rfl) (Opl.one (v := .lit (.bool (!t841))) rfl rfl rfl ?_))
  by_cases c4 : t841 = true
  case neg =>
   rw [if_neg c4] at H
   have e7 : (!t841) = true := by simpa using c4
   try rw [e7]
   refine Opl.skp rfl (Opl.skp rfl (Opl.skp rfl (Opl.skp rfl (Opl.skp rfl (Opl.skp rfl (Opl.skp rfl (Opl.skp rfl (Opl.skp rfl (Opl.skp rfl (Opl.skp rfl (Opl.one rfl rfl (by simp only [go_sem]; rfl) (Opl.nil (Evr.condT rfl (Evr.seq (Evr.regionN rfl (Opl.one (v := .lit (.bool false)) rfl rfl rfl (Opl.nil ?_)))))))))))))))))
   obtain _ | k3 := n1
   · simp [impl_setOk.j1] at H
   simp only [impl_setOk.j1] at H
   rw [if_pos (by first | rfl | trivial)] at H
   obtain rfl := Option.some.inj H
   refine Evr.ret1 Try.func151 rfl ?_
   show (.lit (.bool false) : PV) = _
   first | rfl | (simp only [go_sem]; rfl)
  rw [if_pos c4] at H
  have e2 : (!t841) = false := by simpa using c4
  try rw [e2]
  refine Opl.one (v := .lit (.int .i64 x9_1)) rfl rfl rfl (Opl.one rfl rfl (by simp only [go_sem]; rfl) (Opl.one (v := .lit (.bool (decide (x9_1 > 0)))) rfl rfl rfl ?_))
  by_cases c5 : x9_1 > 0
  case neg =>
   rw [if_neg c5] at H
   have e6 : (decide (x9_1 > 0)) = false := by simpa using c5
   try rw [e6]
   refine Opl.skp rfl (Opl.skp rfl (Opl.skp rfl (Opl.skp rfl (Opl.skp rfl (Opl.skp rfl (Opl.skp rfl (Opl.one rfl rfl (by simp only [go_sem]; rfl) (Opl.one rfl rfl (by simp only [go_sem]; rfl) (Opl.nil (Evr.condF rfl (Evr.skip (Evr.inBlock (Evr.regionN rfl (Opl.add (k := .i64) (a := x9_1) (b := 1) K3 rfl rfl rfl rfl (Opl.one (v := .lit (.int .i64 (wrap64 (x9_1 + 1)))) rfl rfl rfl (Opl.nil ?_))))))))))))))))
   obtain _ | k2 := n1
   · simp [impl_setOk.j1] at H
   simp only [impl_setOk.j1] at H
   rw [if_neg (by first | decide | exact id)] at H
   exact ih1 _ (by omega) _ _ ⟨by omega, _, H, ⟨rfl, rfl, rfl, rfl, rfl, trivial⟩⟩
  rw [if_pos c5] at H
  have e3 : (decide (x9_1 > 0)) = true := by simpa using c5
  try rw [e3]
  refine Opl.one (v := v0) rfl rfl rfl (Opl.one (v := .lit (.int .i64 x9_1)) rfl rfl rfl (Opl.subi (k := .i64) (a := x9_1) (b := 1) K3 rfl rfl rfl rfl ?_))
  obtain ⟨c6, H⟩ := peel H
  obtain ⟨c7, H⟩ := peel H
  obtain _ | k1 := n1
  · simp [impl_setOk.j1] at H
  simp only [impl_setOk.j1] at H
  refine Opl.idx (M := (cInt .i64)) (xs := l0) (j := (wrap64 (x9_1 - 1))) (0 : Int) (by exact hv0) rfl (by first | omega | (simp only [List.length_set] at *; omega)) (by first | omega | (simp only [List.length_set] at *; omega)) K26 Z3 rfl rfl ?_
  rintro p2 q2 h2
  obtain rfl : p2 = [.lit (.int .i64 (rd l0 (wrap64 (x9_1 - 1))))] := h2
  refine Opl.lda (.lit (.int .i64 (rd l0 (wrap64 (x9_1 - 1))))) rfl T3 rfl rfl rfl rfl (Opl.one (v := .lit (.int .i64 (rd l0 x9_1))) rfl rfl rfl (Opl.geq (a := (rd l0 (wrap64 (x9_1 - 1)))) (b := (rd l0 x9_1)) K3 rfl rfl rfl rfl (Opl.one rfl rfl (by simp only [go_sem]; rfl) (Opl.one rfl rfl (by simp only [go_sem]; rfl) (Opl.nil ?_)))))
  by_cases c8 : (decide ((rd l0 (wrap64 (x9_1 - 1))) ≥ (rd l0 x9_1))) = true
  case pos =>
   rw [if_pos c8] at H
   have e4 : (decide ((rd l0 (wrap64 (x9_1 - 1))) ≥ (rd l0 x9_1))) = true := by simpa using c8
   try rw [e4]
   refine Evr.condT rfl (Evr.seq (Evr.regionN rfl (Opl.one (v := .lit (.bool false)) rfl rfl rfl (Opl.nil ?_))))
   obtain rfl := Option.some.inj H
   refine Evr.ret1 Try.func151 rfl ?_
   show (.lit (.bool false) : PV) = _
   first | rfl | (simp only [go_sem]; rfl)
  rw [if_neg c8] at H
  have e5 : (decide ((rd l0 (wrap64 (x9_1 - 1))) ≥ (rd l0 x9_1))) = false := by simpa using c8
  try rw [e5]
  refine Evr.condF rfl (Evr.skip (Evr.inBlock (Evr.regionN rfl (Opl.add (k := .i64) (a := x9_1) (b := 1) K3 rfl rfl rfl rfl (Opl.one (v := .lit (.int .i64 (wrap64 (x9_1 + 1)))) rfl rfl rfl (Opl.nil ?_))))))
  exact ih1 _ (by omega) _ _ ⟨by omega, _, H, ⟨rfl, rfl, rfl, rfl, rfl, trivial⟩⟩
theorem impl_SetValid.ev {k : Nat} {l0_0 : List IVar} {v0_0 : PV} (hv0_0 : Sl cIVar l0_0 v0_0) {l0_1 : List IRule} {v0_1 : PV} (hv0_1 : Sl cIRule l0_1 v0_1) {l1 : List Int} {v1 : PV} (hv1 : Sl (cInt .i64) l1 v1) {r : Bool} (H : impl_SetValid.f k l0_0 l0_1 l1 = some r) : Ret Try.prog 98 [.agg [v0_0, v0_1], v1] fun v S => v = .lit (.bool r) := by
 unfold impl_SetValid.f at H
 refine Ret.intro Try.func98 rfl (Nat.le_of_ble_eq_true rfl) rfl ?_
 rw [tm2]
 refine Evr.seq (Evr.regionN rfl (Opl.box (cs := [v0_0, v0_1]) rfl rfl rfl rfl ?_))
 rintro i1 S h1 u1 w1
 refine Opl.one rfl rfl (by simp only [go_sem]; rfl) (Opl.nil (Evr.seq (Evr.regionN rfl (Opl.ldb (v := .agg [v0_0, v0_1]) h1 rfl T32 rfl rfl rfl rfl ?_))))
 obtain ⟨t844, h_t844, H⟩ := Option.bind_eq_some_iff.1 H
 refine Opl.callc (impl_SystemValid.ev hv0_0 hv0_1 h_t844) rfl rfl rfl rfl ⟨(.aggL ⟨hv0_0.plain, hv0_1.plain, trivial⟩), trivial⟩ (by decide) (Opl.one rfl rfl (by simp only [go_sem]; rfl) ?_)
 by_cases c1 : t844 = true
 case neg =>
  rw [if_neg c1] at H
  obtain rfl : t844 = false := by simpa using c1
  refine Opl.skp rfl (Opl.skp rfl (Opl.skp rfl (Opl.skp rfl (Opl.skp rfl (Opl.one rfl rfl (by simp only [go_sem]; rfl) (Opl.one rfl rfl (by simp only [go_sem]; rfl) (Opl.nil ?_)))))))
  obtain rfl := Option.some.inj H
  refine Evr.ret1 Try.func98 rfl ?_
  show (.lit (.bool false) : PV) = _
  first | rfl | (simp only [go_sem]; rfl)
 rw [if_pos c1] at H
 obtain rfl : t844 = true := by simpa using c1
 refine Opl.one rfl rfl (by simp only [go_sem]; rfl) (Opl.one (v := .ptr i1 0) rfl rfl (by simp only [go_sem]; rfl) (Opl.ldb (v := v0_0) h1 rfl T29 rfl rfl rfl rfl ?_))
 obtain ⟨t845, h_t845, H⟩ := Option.bind_eq_some_iff.1 H
 refine Opl.callc (impl_size.ev hv0_0 h_t845) rfl rfl rfl rfl ⟨hv0_0.plain, trivial⟩ (by decide) ?_
 obtain ⟨t846, h_t846, H⟩ := Option.bind_eq_some_iff.1 H
 refine Opl.callc (impl_setOk.ev hv1 h_t846) rfl rfl rfl rfl ⟨hv1.plain, (.lit _), trivial⟩ (by decide) (Opl.one rfl rfl (by simp only [go_sem]; rfl) (Opl.one rfl rfl (by simp only [go_sem]; rfl) (Opl.nil ?_)))
 obtain rfl := Option.some.inj H
 refine Evr.ret1 Try.func98 rfl ?_
 show (.lit (.bool t846) : PV) = _
 first | rfl | (simp only [go_sem]; rfl)
theorem impl_clone_Lint.ev {l0 : List (List Int)} {v0 : PV} (hv0 : Sl (cSl (cInt .i64)) l0 v0) {r : List (List Int)} (H : impl_clone_Lint.f l0 = some r) : Ret Try.prog 118 [v0] fun v S => Vec (cSl (cInt .i64)) r v S := by
 unfold impl_clone_Lint.f at H
 refine Ret.intro Try.func118 rfl (Nat.le_of_ble_eq_true rfl) rfl ?_
 rw [tm1]
 obtain ⟨c1, H⟩ := peel H
 obtain rfl := Option.some.inj H
 refine Evr.seq (Evr.regionN rfl (Opl.one rfl rfl (by simp only [go_sem]; rfl) (Opl.nil (Evr.seq (Evr.seq (Evr.regionN rfl (Opl.one rfl rfl (by simp only [go_sem]; rfl) (Opl.len (by exact hv0) K38 rfl rfl rfl rfl (Opl.one rfl rfl (by simp only [go_sem]; rfl) (Opl.nil ?_))))))))))
 by_cases c2 : (l0.length : Int) = 0
 · have e1 : ((l0.length : Int) == 0) = true := by simpa using c2
   try rw [e1]
   refine Evr.condT rfl (Evr.seq (Evr.regionN rfl (Opl.one rfl rfl (by simp only [go_sem]; rfl) (Opl.nil ?_))))
   obtain rfl : l0 = [] := List.eq_nil_of_length_eq_zero (by omega)
   refine Evr.ret1 Try.func118 rfl ?_
   exact .nil
 · have e1 : ((l0.length : Int) == 0) = false := by simpa using c2
   try rw [e1]
   refine Evr.condF rfl (Evr.skip (Evr.seq (Evr.regionN rfl (Opl.one rfl rfl (by simp only [go_sem]; rfl) (Opl.len (by exact hv0) K38 rfl rfl rfl rfl ?_)))))
   refine Opl.make (M := (cSl (cInt .i64))) (m := (l0.length : Int)) ([] : List Int) (by exact ⟨_, rfl, .nil⟩) rfl rfl K38 T26 rfl (by omega) (by show (_ : Nat) * 24 ≤ 281474976710656; omega) (by omega) rfl rfl rfl ?_
   rintro pv1 S h1 u1 w1
   refine Opl.one rfl rfl (by simp only [go_sem]; rfl) (Opl.nil (Evr.seq (Evr.regionN rfl (Opl.one rfl rfl (by simp only [go_sem]; rfl) (Opl.one rfl rfl (by simp only [go_sem]; rfl) ?_)))))
   refine Opl.copy (M := (cSl (cInt .i64))) (ys := l0) h1 (by exact hv0) (oSl (cInt .i64)) rfl (by simp) (by simp; omega) K38 Z26 rfl rfl rfl rfl rfl ?_
   rintro S h2 u2
   refine Opl.nil (Evr.seq (Evr.regionN rfl (Opl.one rfl rfl (by simp only [go_sem]; rfl) (Opl.one rfl rfl (by simp only [go_sem]; rfl) (Opl.nil ?_)))))
   refine Evr.ret1 Try.func118 rfl ?_
   exact h2
theorem impl_stateAt.ev {k : Nat} {l0_0 : List IVar} {v0_0 : PV} (hv0_0 : Sl cIVar l0_0 v0_0) {l0_1 : List IRule} {v0_1 : PV} (hv0_1 : Sl cIRule l0_1 v0_1) {a1 : Int} {r : (List Int)} (H : impl_stateAt.f k l0_0 l0_1 a1 = some r) : Ret Try.prog 153 [.agg [v0_0, v0_1], .lit (.int .i64 a1)] fun v S => Vec (cInt .i64) r v S := by
 unfold impl_stateAt.f at H
 refine Ret.intro Try.func153 rfl (Nat.le_of_ble_eq_true rfl) rfl ?_
 rw [tm2]
 refine Evr.seq (Evr.regionN rfl (Opl.box (cs := [v0_0, v0_1]) rfl rfl rfl rfl ?_))
 rintro i1 S h1 u1 w1
 refine Opl.one rfl rfl (by simp only [go_sem]; rfl) (Opl.nil (Evr.seq (Evr.regionN rfl (Opl.one (v := .ptr i1 0) rfl rfl (by simp only [go_sem]; rfl) (Opl.ldb (v := v0_0) h1 rfl T29 rfl rfl rfl rfl (Opl.len (xs := l0_0) (by exact hv0_0) K29 rfl rfl rfl rfl ?_))))))
 obtain ⟨c1, H⟩ := peel H
 obtain ⟨c2, H⟩ := peel H
 obtain ⟨y878, hy_, H⟩ := Option.bind_eq_some_iff.1 H
 obtain rfl := Option.some.inj hy_
 refine Opl.make (M := (cInt .i64)) (m := (l0_0.length : Int)) (0 : Int) (by exact rfl) rfl rfl K26 T3 rfl (by omega) (by show ((l0_0.length : Int)).toNat * 8 ≤ 281474976710656; omega) (by omega) rfl rfl rfl ?_
 rintro pv1 S h2 u2 w2
 have ap1 := w2.box h1
 have h3 := u2.box h1 ap1
 refine Opl.one rfl rfl (by simp only [go_sem]; rfl) (Opl.nil (Evr.seq (Evr.seq (Evr.regionN rfl (Opl.one rfl rfl (by simp only [go_sem]; rfl) (Opl.lenv (xs := (List.replicate (l0_0.length : Int).toNat (0 : Int))) (by exact h2) K26 rfl rfl rfl rfl (Opl.subi (k := .i64) (a := ((List.replicate (l0_0.length : Int).toNat (0 : Int)).length : Int)) (b := 1) K3 rfl rfl rfl rfl (Opl.one (v := .lit (.int .i64 (wrap64 (((List.replicate (l0_0.length : Int).toNat (0 : Int)).length : Int) - 1)))) rfl rfl rfl (Opl.nil (Evr.block ?_))))))))))
 refine Evr.loop (Evr.rounds (n := k) (Inv := fun n tm S => n ≤ k ∧ ∃ (x1_1 : Int) (x5_1 : List Int) (x6_1 : Int) (i2 : Abs.Id) (pv2 : PV), impl_stateAt.l0 n x1_1 x5_1 x6_1 l0_0 l0_1 = some r ∧ Has tm [(1, .lit (.int .i64 x1_1)), (2, .ptr i2 0), (5, pv2), (6, .lit (.int .i64 x6_1))] ∧ Box (.ptr i2 0) [v0_0, v0_1] S ∧ Vec (cInt .i64) x5_1 pv2 S ∧ Ap (.ptr i2 0) pv2) ?_ ?_ ?_)
 · exact ⟨Nat.le_refl _, _, _, _, _, _, H, ⟨rfl, rfl, rfl, rfl, trivial⟩, h3, h2, ap1⟩
 ·
  rintro tm S ⟨_, _, _, _, _, _, H, -⟩
  simp [impl_stateAt.l0] at H
 ·
  rintro n1 ih1 tm S ⟨hle, x1_1, x5_1, x6_1, i2, pv2, H, hh, h4, h5, ap2⟩
  simp only [impl_stateAt.l0] at H
  rw [hh.eq]
  refine Evr.seq (Evr.seq (Evr.regionN rfl (Opl.one rfl rfl (by simp only [go_sem]; rfl) (Opl.one rfl rfl (by simp only [go_sem]; rfl) (Opl.nil ?_)))))
  by_cases c3 : x6_1 ≥ 0
  case neg =>
   rw [if_neg c3] at H
   have e2 : (decide (x6_1 ≥ 0)) = false := by simpa using c3
   try rw [e2]
   refine Evr.condF rfl (Evr.exit rfl (Evr.seq (Evr.regionN rfl (Opl.one rfl rfl (by simp only [go_sem]; rfl) (Opl.one rfl rfl (by simp only [go_sem]; rfl) (Opl.nil ?_))))))
   obtain rfl := Option.some.inj H
   refine Evr.ret1 Try.func153 rfl ?_
   show Vec _ _ pv2 _
   exact h5
  rw [if_pos c3] at H
  have e1 : (decide (x6_1 ≥ 0)) = true := by simpa using c3
  try rw [e1]
  refine Evr.condT rfl (Evr.skip (Evr.seq (Evr.block (Evr.seq (Evr.regionN rfl (Opl.one (v := .ptr i2 0) rfl rfl (by simp only [go_sem]; rfl) (Opl.ldb (v := v0_0) h4 rfl T29 rfl rfl rfl rfl (Opl.one rfl rfl (by simp only [go_sem]; rfl) ?_))))))))
  obtain ⟨c4, H⟩ := peel H
  obtain ⟨c5, H⟩ := peel H
  obtain ⟨c6, H⟩ := peelN H
  obtain ⟨c7, H⟩ := peel H
  refine Opl.idx (M := cIVar) (xs := l0_0) (j := x6_1) zIVar (by exact hv0_0) rfl (by first | omega | (simp only [List.length_set] at *; omega)) (by first | omega | (simp only [List.length_set] at *; omega)) K29 Z97 rfl rfl ?_
  rintro p1 q1 h6
  obtain rfl := cIVar_R (x := (rd_IVar l0_0 x6_1)) h6
  refine Opl.lda (.agg [.lit (.int .i64 ((rd_IVar l0_0 x6_1).f0)), .lit (.int .i64 ((rd_IVar l0_0 x6_1).f1)), .lit (.int .i64 ((rd_IVar l0_0 x6_1).f2))]) rfl T97 rfl rfl rfl rfl (Opl.alloc T97 rfl rfl rfl ?_)
  rintro i3 S h7 u3 w3
  have ap3 := w3.box h4
  have h8 := u3.box h4 ap3
  have ap4 := w3.vec h5
  have h9 := u3.vec h5 ap4
  refine Opl.stb (vs := [.lit (.int .i64 ((rd_IVar l0_0 x6_1).f0)), .lit (.int .i64 ((rd_IVar l0_0 x6_1).f1)), .lit (.int .i64 ((rd_IVar l0_0 x6_1).f2))]) h7 rfl rfl Z97 rfl (Nat.le_of_ble_eq_true rfl) rfl rfl rfl rfl ?_
  rintro S (h10 : Box (.ptr i3 0) [.lit (.int .i64 ((rd_IVar l0_0 x6_1).f0)), .lit (.int .i64 ((rd_IVar l0_0 x6_1).f1)), .lit (.int .i64 ((rd_IVar l0_0 x6_1).f2))] _) u4
  have h11 := u4.box h8 ap3
  have h12 := u4.vec h9 ap4
  refine Opl.nil (Evr.seq (Evr.regionN rfl (Opl.one (v := .ptr i3 1) rfl rfl (by simp only [go_sem]; rfl) (Opl.ldb (v := .lit (.int .i64 ((rd_IVar l0_0 x6_1).f1))) h10 rfl T3 rfl rfl rfl rfl (Opl.one (v := .ptr i3 0) rfl rfl (by simp only [go_sem]; rfl) (Opl.ldb (v := .lit (.int .i64 ((rd_IVar l0_0 x6_1).f0))) h10 rfl T3 rfl rfl rfl rfl (Opl.subi (k := .i64) (a := ((rd_IVar l0_0 x6_1).f1)) (b := ((rd_IVar l0_0 x6_1).f0)) K3 rfl rfl rfl rfl (Opl.add (k := .i64) (a := (wrap64 (((rd_IVar l0_0 x6_1).f1) - ((rd_IVar l0_0 x6_1).f0)))) (b := 1) K3 rfl rfl rfl rfl (Opl.one (v := .lit (.int .i64 (wrap64 ((wrap64 (((rd_IVar l0_0 x6_1).f1) - ((rd_IVar l0_0 x6_1).f0))) + 1)))) rfl rfl rfl (Opl.nil (Evr.seq (Evr.regionD rfl (by kernel_rfl) (Opl.one (v := pv2) rfl rfl rfl (Opl.one (v := .lit (.int .i64 x6_1)) rfl rfl rfl (Opl.one (v := .ptr i3 0) rfl rfl (by simp only [go_sem]; rfl) (Opl.ldb (v := .lit (.int .i64 ((rd_IVar l0_0 x6_1).f0))) h10 rfl T3 rfl rfl rfl rfl (Opl.one (v := .lit (.int .i64 x1_1)) rfl rfl rfl (Opl.one (v := .lit (.int .i64 (wrap64 ((wrap64 (((rd_IVar l0_0 x6_1).f1) - ((rd_IVar l0_0 x6_1).f0))) + 1)))) rfl rfl rfl (Opl.one (v := .lit (.int .i64 (Int.tmod x1_1 (wrap64 ((wrap64 (((rd_IVar l0_0 x6_1).f1) - ((rd_IVar l0_0 x6_1).f0))) + 1))))) rfl rfl (by simp only [go_sem]; rw [if_neg (by first | assumption | decide | omega)]; rfl) (Opl.add (k := .i64) (a := ((rd_IVar l0_0 x6_1).f0)) (b := (Int.tmod x1_1 (wrap64 ((wrap64 (((rd_IVar l0_0 x6_1).f1) - ((rd_IVar l0_0 x6_1).f0))) + 1)))) K3 rfl rfl rfl rfl (Opl.idv (M := (cInt .i64)) (xs := x5_1) (j := x6_1) (v := pv2) h12 rfl rfl (by first | omega | (simp only [List.length_set] at *; omega)) (by first | omega | (simp only [List.length_set] at *; omega)) K26 Z3 rfl rfl ?_)))))))))))))))))))))
  rintro d1 z1 q2 h13 h14
  refine Opl.stv (M := (cInt .i64)) (xs := x5_1) (j := x6_1) (y := (wrap64 (((rd_IVar l0_0 x6_1).f0) + (Int.tmod x1_1 (wrap64 ((wrap64 (((rd_IVar l0_0 x6_1).f1) - ((rd_IVar l0_0 x6_1).f0))) + 1)))))) (vs := [.lit (.int .i64 (wrap64 (((rd_IVar l0_0 x6_1).f0) + (Int.tmod x1_1 (wrap64 ((wrap64 (((rd_IVar l0_0 x6_1).f1) - ((rd_IVar l0_0 x6_1).f0))) + 1))))))]) h13 h14 (by first | omega | (simp only [List.length_set] at *; omega)) (by first | omega | (simp only [List.length_set] at *; omega)) rfl rfl (by exact rfl) Z3 rfl rfl rfl rfl ?_
  rw [← q2]
  rintro S h15 u5
  have h16 := u5.box h11 ap2
  have h17 := u5.box h10 ap4.symm
  refine Opl.nil (Evr.regionN rfl (Opl.one (v := .lit (.int .i64 x1_1)) rfl rfl rfl (Opl.one (v := .lit (.int .i64 (wrap64 ((wrap64 (((rd_IVar l0_0 x6_1).f1) - ((rd_IVar l0_0 x6_1).f0))) + 1)))) rfl rfl rfl (Opl.one (v := .lit (.int .i64 (wrap64 (Int.tdiv x1_1 (wrap64 ((wrap64 (((rd_IVar l0_0 x6_1).f1) - ((rd_IVar l0_0 x6_1).f0))) + 1)))))) rfl rfl (by simp only [go_sem]; rw [if_neg (by first | assumption | decide | omega)]; rfl) (Opl.one (v := .lit (.int .i64 (wrap64 (Int.tdiv x1_1 (wrap64 ((wrap64 (((rd_IVar l0_0 x6_1).f1) - ((rd_IVar l0_0 x6_1).f0))) + 1)))))) rfl rfl rfl (Opl.nil (Evr.inBlock (Evr.regionN rfl (Opl.one (v := .lit (.int .i64 x6_1)) rfl rfl rfl (Opl.subi (k := .i64) (a := x6_1) (b := 1) K3 rfl rfl rfl rfl (Opl.one (v := .lit (.int .i64 (wrap64 (x6_1 - 1)))) rfl rfl rfl (Opl.nil ?_))))))))))))
  exact ih1 _ (by omega) _ _ ⟨by omega, _, _, _, _, _, H, ⟨rfl, rfl, rfl, rfl, trivial⟩, h16, h15, ap2⟩
theorem impl_bitsFor.ev {k : Nat} {a0 : Int} {r : Int} (H : impl_bitsFor.f k a0 = some r) : Ret Try.prog 173 [.lit (.int .i64 a0)] fun v S => v = .lit (.int .i64 r) := by
 unfold impl_bitsFor.f at H
 refine Ret.intro Try.func173 rfl (Nat.le_of_ble_eq_true rfl) rfl ?_
 rw [tm1]
 refine Evr.seq (Evr.regionN rfl (Opl.one rfl rfl (by simp only [go_sem]; rfl) (Opl.nil (Evr.seq (Evr.regionN rfl (Opl.one rfl rfl (by simp only [go_sem]; rfl) (Opl.nil (Evr.seq (Evr.block ?_)))))))))
 refine Evr.loop (Evr.rounds (n := k) (Inv := fun n tm S => n ≤ k ∧ ∃ (x3_1 : Int), impl_bitsFor.l0 n a0 x3_1 = some r ∧ Has tm [(0, .lit (.int .i64 a0)), (3, .lit (.int .i64 x3_1))]) ?_ ?_ ?_)
 · exact ⟨Nat.le_refl _, _, H, ⟨rfl, rfl, trivial⟩⟩
 ·
  rintro tm S ⟨_, _, H, -⟩
  simp [impl_bitsFor.l0] at H
 ·
  rintro n1 ih1 tm S ⟨hle, x3_1, H, hh⟩
  simp only [impl_bitsFor.l0] at H
  rw [hh.eq]
  refine Evr.seq (Evr.seq (Evr.regionN rfl (Opl.one rfl rfl (by simp only [go_sem]; rfl) ?_)))
  obtain ⟨c1, H⟩ := peel H
  refine Opl.one (v := .lit (.int .i64 (shl .i64 1 x3_1))) rfl rfl (by simp only [go_sem]; rw [if_neg (by omega)]; simp only [shl, w64, IntKind.bits]; rfl) (Opl.one rfl rfl (by simp only [go_sem]; rfl) (Opl.one rfl rfl (by simp only [go_sem]; rfl) (Opl.nil ?_)))
  by_cases c2 : (shl .i64 1 x3_1) < a0
  case neg =>
   rw [if_neg c2] at H
   have e2 : (decide ((shl .i64 1 x3_1) < a0)) = false := by simpa using c2
   try rw [e2]
   refine Evr.condF rfl (Evr.exit rfl (Evr.seq (Evr.regionN rfl (Opl.one rfl rfl (by simp only [go_sem]; rfl) (Opl.one rfl rfl (by simp only [go_sem]; rfl) (Opl.nil ?_))))))
   obtain rfl := Option.some.inj H
   refine Evr.ret1 Try.func173 rfl ?_
   show (.lit (.int .i64 x3_1) : PV) = _
   first | rfl | (simp only [go_sem]; rfl)
  rw [if_pos c2] at H
  have e1 : (decide ((shl .i64 1 x3_1) < a0)) = true := by simpa using c2
  try rw [e1]
  refine Evr.condT rfl (Evr.skip (Evr.block (Evr.regionN rfl (Opl.one rfl rfl (by simp only [go_sem]; rfl) (Opl.add (k := .i64) (a := x3_1) (b := 1) K3 rfl rfl rfl rfl (Opl.one (v := .lit (.int .i64 (wrap64 (x3_1 + 1)))) rfl rfl rfl (Opl.nil (Evr.inBlock ?_))))))))
  exact ih1 _ (by omega) _ _ ⟨by omega, _, H, ⟨rfl, rfl, trivial⟩⟩
theorem impl_clone_int.ev {l0 : List Int} {v0 : PV} (hv0 : Sl (cInt .i64) l0 v0) {r : List Int} (H : impl_clone_int.f l0 = some r) : Ret Try.prog 119 [v0] fun v S => Vec (cInt .i64) r v S := by
 unfold impl_clone_int.f at H
 refine Ret.intro Try.func119 rfl (Nat.le_of_ble_eq_true rfl) rfl ?_
 rw [tm1]
 obtain ⟨c1, H⟩ := peel H
 obtain rfl := Option.some.inj H
 refine Evr.seq (Evr.regionN rfl (Opl.one rfl rfl (by simp only [go_sem]; rfl) (Opl.nil (Evr.seq (Evr.seq (Evr.regionN rfl (Opl.one rfl rfl (by simp only [go_sem]; rfl) (Opl.len (by exact hv0) K26 rfl rfl rfl rfl (Opl.one rfl rfl (by simp only [go_sem]; rfl) (Opl.nil ?_))))))))))
 by_cases c2 : (l0.length : Int) = 0
 · have e1 : ((l0.length : Int) == 0) = true := by simpa using c2
   try rw [e1]
   refine Evr.condT rfl (Evr.seq (Evr.regionN rfl (Opl.one rfl rfl (by simp only [go_sem]; rfl) (Opl.nil ?_))))
   obtain rfl : l0 = [] := List.eq_nil_of_length_eq_zero (by omega)
   refine Evr.ret1 Try.func119 rfl ?_
   exact .nil
 · have e1 : ((l0.length : Int) == 0) = false := by simpa using c2
   try rw [e1]
   refine Evr.condF rfl (Evr.skip (Evr.seq (Evr.regionN rfl (Opl.one rfl rfl (by simp only [go_sem]; rfl) (Opl.len (by exact hv0) K26 rfl rfl rfl rfl ?_)))))
   refine Opl.make (M := (cInt .i64)) (m := (l0.length : Int)) (0 : Int) (by exact rfl) rfl rfl K26 T3 rfl (by omega) (by show (_ : Nat) * 8 ≤ 281474976710656; omega) (by omega) rfl rfl rfl ?_
   rintro pv1 S h1 u1 w1
   refine Opl.one rfl rfl (by simp only [go_sem]; rfl) (Opl.nil (Evr.seq (Evr.regionN rfl (Opl.one rfl rfl (by simp only [go_sem]; rfl) (Opl.one rfl rfl (by simp only [go_sem]; rfl) ?_)))))
   refine Opl.copy (M := (cInt .i64)) (ys := l0) h1 (by exact hv0) (oInt .i64) rfl (by simp) (by simp; omega) K26 Z3 rfl rfl rfl rfl rfl ?_
   rintro S h2 u2
   refine Opl.nil (Evr.seq (Evr.regionN rfl (Opl.one rfl rfl (by simp only [go_sem]; rfl) (Opl.one rfl rfl (by simp only [go_sem]; rfl) (Opl.nil ?_)))))
   refine Evr.ret1 Try.func119 rfl ?_
   exact h2
theorem impl_bitsOf.ev {k : Nat} {l0_0 : List IVar} {v0_0 : PV} (hv0_0 : Sl cIVar l0_0 v0_0) {l0_1 : List IRule} {v0_1 : PV} (hv0_1 : Sl cIRule l0_1 v0_1) {r : (List Int)} (H : impl_bitsOf.f k l0_0 l0_1 = some r) : Ret Try.prog 147 [.agg [v0_0, v0_1]] fun v S => Vec (cInt .i64) r v S := by
 unfold impl_bitsOf.f at H
 refine Ret.intro Try.func147 rfl (Nat.le_of_ble_eq_true rfl) rfl ?_
 rw [tm1]
 refine Evr.seq (Evr.regionN rfl (Opl.box (cs := [v0_0, v0_1]) rfl rfl rfl rfl ?_))
 rintro i1 S h1 u1 w1
 refine Opl.one rfl rfl (by simp only [go_sem]; rfl) (Opl.nil (Evr.seq (Evr.regionN rfl (Opl.one rfl rfl (by simp only [go_sem]; rfl) (Opl.nil (Evr.seq (Evr.seq (Evr.regionN rfl (Opl.one (v := .ptr i1 0) rfl rfl (by simp only [go_sem]; rfl) (Opl.ldb (v := v0_0) h1 rfl T29 rfl rfl rfl rfl (Opl.len (xs := l0_0) (by exact hv0_0) K29 rfl rfl rfl rfl (Opl.one rfl rfl (by simp only [go_sem]; rfl) (Opl.nil (Evr.block ?_))))))))))))))
 refine Evr.loop (Evr.rounds (n := k) (Inv := fun n tm S => n ≤ k ∧ ∃ (x3_1 : List Int) (x9_1 : Int) (pv1 : PV), impl_bitsOf.l0 n x3_1 l0_0 (l0_0.length : Int) x9_1 = some r ∧ Has tm [(3, pv1), (7, v0_0), (8, .lit (.int .i64 (l0_0.length : Int))), (9, .lit (.int .i64 x9_1))] ∧ Vec (cInt .i64) x3_1 pv1 S) ?_ ?_ ?_)
 · exact ⟨Nat.le_refl _, _, _, _, H, ⟨rfl, rfl, rfl, rfl, trivial⟩, .nil⟩
 ·
  rintro tm S ⟨_, _, _, _, H, -⟩
  simp [impl_bitsOf.l0] at H
 ·
  rintro n1 ih1 tm S ⟨hle, x3_1, x9_1, pv1, H, hh, h2⟩
  simp only [impl_bitsOf.l0] at H
  rw [hh.eq]
  refine Evr.seq (Evr.regionN rfl (Opl.one rfl rfl (by simp only [go_sem]; rfl) (Opl.nil (Evr.seq ?_))))
  by_cases c1 : x9_1 < (l0_0.length : Int)
  case neg =>
   rw [if_neg c1] at H
   have e2 : (decide (x9_1 < (l0_0.length : Int))) = false := by simpa using c1
   try rw [e2]
   refine Evr.condF rfl (Evr.exit rfl (Evr.seq (Evr.regionN rfl (Opl.one rfl rfl (by simp only [go_sem]; rfl) ?_))))
   obtain ⟨t854, h_t854, H⟩ := Option.bind_eq_some_iff.1 H
   obtain ⟨pv4, h14, -, h15⟩ := Out.vec h2
   refine Opl.callav (sInt .i64) (impl_clone_int.ev h15 h_t854) rfl rfl rfl (.cons h14 .nil) ⟨h15.plain, trivial⟩ rfl ?_
   rintro pv5 S h16 u6 w6
   have ap6 := w6.vec h2
   have h17 := u6.vec h2 ap6
   refine Opl.one rfl rfl (by simp only [go_sem]; rfl) (Opl.nil ?_)
   obtain rfl := Option.some.inj H
   refine Evr.ret1 Try.func147 rfl ?_
   show Vec _ _ pv5 _
   exact h16
  rw [if_pos c1] at H
  have e1 : (decide (x9_1 < (l0_0.length : Int))) = true := by simpa using c1
  try rw [e1]
  refine Evr.condT rfl (Evr.skip (Evr.seq (Evr.block (Evr.seq (Evr.regionN rfl ?_)))))
  obtain ⟨c2, H⟩ := peel H
  obtain ⟨c3, H⟩ := peel H
  refine Opl.idx (M := cIVar) (xs := l0_0) (j := x9_1) zIVar (by exact hv0_0) rfl (by first | omega | (simp only [List.length_set] at *; omega)) (by first | omega | (simp only [List.length_set] at *; omega)) K29 Z97 rfl rfl ?_
  rintro p1 q1 h3
  obtain rfl := cIVar_R (x := (rd_IVar l0_0 x9_1)) h3
  refine Opl.lda (.agg [.lit (.int .i64 ((rd_IVar l0_0 x9_1).f0)), .lit (.int .i64 ((rd_IVar l0_0 x9_1).f1)), .lit (.int .i64 ((rd_IVar l0_0 x9_1).f2))]) rfl T97 rfl rfl rfl rfl (Opl.alloc T97 rfl rfl rfl ?_)
  rintro i2 S h4 u2 w2
  have ap1 := w2.vec h2
  have h5 := u2.vec h2 ap1
  refine Opl.stb (vs := [.lit (.int .i64 ((rd_IVar l0_0 x9_1).f0)), .lit (.int .i64 ((rd_IVar l0_0 x9_1).f1)), .lit (.int .i64 ((rd_IVar l0_0 x9_1).f2))]) h4 rfl rfl Z97 rfl (Nat.le_of_ble_eq_true rfl) rfl rfl rfl rfl ?_
  rintro S (h6 : Box (.ptr i2 0) [.lit (.int .i64 ((rd_IVar l0_0 x9_1).f0)), .lit (.int .i64 ((rd_IVar l0_0 x9_1).f1)), .lit (.int .i64 ((rd_IVar l0_0 x9_1).f2))] _) u3
  have h7 := u3.vec h5 ap1
  refine Opl.nil (Evr.regionN rfl (Opl.one rfl rfl (by simp only [go_sem]; rfl) (Opl.one (v := .ptr i2 1) rfl rfl (by simp only [go_sem]; rfl) (Opl.ldb (v := .lit (.int .i64 ((rd_IVar l0_0 x9_1).f1))) h6 rfl T3 rfl rfl rfl rfl (Opl.one (v := .ptr i2 0) rfl rfl (by simp only [go_sem]; rfl) (Opl.ldb (v := .lit (.int .i64 ((rd_IVar l0_0 x9_1).f0))) h6 rfl T3 rfl rfl rfl rfl (Opl.subi (k := .i64) (a := ((rd_IVar l0_0 x9_1).f1)) (b := ((rd_IVar l0_0 x9_1).f0)) K3 rfl rfl rfl rfl (Opl.add (k := .i64) (a := (wrap64 (((rd_IVar l0_0 x9_1).f1) - ((rd_IVar l0_0 x9_1).f0)))) (b := 1) K3 rfl rfl rfl rfl ?_))))))))
  obtain ⟨t850, h_t850, H⟩ := Option.bind_eq_some_iff.1 H
  refine Opl.callc (impl_bitsFor.ev h_t850) rfl rfl rfl rfl ⟨(.lit _), trivial⟩ (by decide) (Opl.lits (M := (cInt .i64)) (ys := [t850]) [.tmp 20] K26 T3 rfl rfl rfl (by exact ⟨rfl, trivial⟩) rfl (by decide) rfl rfl rfl ?_)
  rintro pv2 S h8 u4 w4
  have ap2 := w4.vec h7
  have h9 := u4.vec h7 ap2
  have ap3 := w4.box h6
  have h10 := u4.box h6 ap3
  obtain ⟨c4, H⟩ := peel H
  refine Opl.app (M := (cInt .i64)) (xs := x3_1) (ys := [t850]) (v := pv1) h9 (.vec h8) (oInt .i64) rfl rfl K26 T3 rfl rfl (by (try simp only [List.length_cons, List.length_nil]); omega) (by show (_ + _) * 8 ≤ 140737488355328; (try simp only [List.length_cons, List.length_nil]); omega) rfl rfl rfl rfl rfl ?_
  rintro pv3 S h11 u5 w5
  have ap4 := w5.box h10
  have h12 := u5.box h10 ap1.symm
  have ap5 := w5.vec h8
  have h13 := u5.vec h8 ap2.symm
  refine Opl.one (v := pv3) rfl rfl rfl (Opl.nil (Evr.inBlock (Evr.regionN rfl (Opl.add (k := .i64) (a := x9_1) (b := 1) K3 rfl rfl rfl rfl (Opl.one (v := .lit (.int .i64 (wrap64 (x9_1 + 1)))) rfl rfl rfl (Opl.nil ?_))))))
  exact ih1 _ (by omega) _ _ ⟨by omega, _, _, _, H, ⟨rfl, rfl, rfl, rfl, trivial⟩, h11⟩
theorem impl_valueBits.ev {k : Nat} {a0 : Int} {a1 : Int} {r : (List Int)} (H : impl_valueBits.f k a0 a1 = some r) : Ret Try.prog 174 [.lit (.int .i64 a0), .lit (.int .i64 a1)] fun v S => Vec (cInt .i64) r v S := by
 unfold impl_valueBits.f at H
 refine Ret.intro Try.func174 rfl (Nat.le_of_ble_eq_true rfl) rfl ?_
 rw [tm2]
 refine Evr.seq (Evr.regionN rfl (Opl.one rfl rfl (by simp only [go_sem]; rfl) (Opl.nil (Evr.seq (Evr.regionN rfl (Opl.one rfl rfl (by simp only [go_sem]; rfl) ?_))))))
 obtain ⟨c1, H⟩ := peel H
 obtain ⟨c2, H⟩ := peel H
 obtain ⟨y857, hy_, H⟩ := Option.bind_eq_some_iff.1 H
 obtain rfl := Option.some.inj hy_
 refine Opl.make (M := (cInt .i64)) (m := a1) (0 : Int) (by exact rfl) rfl rfl K26 T3 rfl (by omega) (by show (a1).toNat * 8 ≤ 281474976710656; omega) (by omega) rfl rfl rfl ?_
 rintro pv1 S h1 u1 w1
 refine Opl.one rfl rfl (by simp only [go_sem]; rfl) (Opl.nil (Evr.seq (Evr.seq (Evr.regionN rfl (Opl.one rfl rfl (by simp only [go_sem]; rfl) (Opl.lenv (xs := (List.replicate a1.toNat (0 : Int))) (by exact h1) K26 rfl rfl rfl rfl (Opl.one rfl rfl (by simp only [go_sem]; rfl) (Opl.nil (Evr.block ?_)))))))))
 refine Evr.loop (Evr.rounds (n := k) (Inv := fun n tm S => n ≤ k ∧ ∃ (x5_1 : List Int) (x11_1 : Int) (pv2 : PV), impl_valueBits.l0 n a0 a1 x5_1 ((List.replicate (a1 : Int).toNat 0 : List Int).length : Int) x11_1 = some r ∧ Has tm [(0, .lit (.int .i64 a0)), (1, .lit (.int .i64 a1)), (5, pv2), (10, .lit (.int .i64 ((List.replicate a1.toNat (0 : Int)).length : Int))), (11, .lit (.int .i64 x11_1))] ∧ Vec (cInt .i64) x5_1 pv2 S) ?_ ?_ ?_)
 · exact ⟨Nat.le_refl _, _, _, _, H, ⟨rfl, rfl, rfl, rfl, rfl, trivial⟩, h1⟩
 ·
  rintro tm S ⟨_, _, _, _, H, -⟩
  simp [impl_valueBits.l0] at H
 ·
  rintro n1 ih1 tm S ⟨hle, x5_1, x11_1, pv2, H, hh, h2⟩
  simp only [impl_valueBits.l0] at H
  rw [hh.eq]
  refine Evr.seq (Evr.regionN rfl (Opl.one rfl rfl (by simp only [go_sem]; rfl) (Opl.nil (Evr.seq ?_))))
  by_cases c3 : x11_1 < ((List.replicate (a1 : Int).toNat 0 : List Int).length : Int)
  case neg =>
   rw [if_neg c3] at H
   have e2 : (decide (x11_1 < ((List.replicate a1.toNat (0 : Int)).length : Int))) = false := by simpa using c3
   try rw [e2]
   refine Evr.condF rfl (Evr.exit rfl (Evr.seq (Evr.regionN rfl (Opl.one rfl rfl (by simp only [go_sem]; rfl) (Opl.one rfl rfl (by simp only [go_sem]; rfl) (Opl.nil ?_))))))
   obtain rfl := Option.some.inj H
   refine Evr.ret1 Try.func174 rfl ?_
   show Vec _ _ pv2 _
   exact h2
  rw [if_pos c3] at H
  have e1 : (decide (x11_1 < ((List.replicate a1.toNat (0 : Int)).length : Int))) = true := by simpa using c3
  try rw [e1]
  refine Evr.condT rfl (Evr.skip (Evr.seq (Evr.block (Evr.seq (Evr.regionN rfl (Opl.one rfl rfl (by simp only [go_sem]; rfl) (Opl.one rfl rfl (by simp only [go_sem]; rfl) (Opl.nil (Evr.regionN rfl (Opl.one rfl rfl (by simp only [go_sem]; rfl) (Opl.one rfl rfl (by simp only [go_sem]; rfl) (Opl.one rfl rfl (by simp only [go_sem]; rfl) (Opl.one rfl rfl (by simp only [go_sem]; rfl) (Opl.subi (k := .i64) (a := a1) (b := 1) K3 rfl rfl rfl rfl (Opl.one (v := .lit (.int .i64 x11_1)) rfl rfl rfl (Opl.subi (k := .i64) (a := (wrap64 (a1 - 1))) (b := x11_1) K3 rfl rfl rfl rfl ?_))))))))))))))))
  obtain ⟨c4, H⟩ := peel H
  obtain ⟨c5, H⟩ := peel H
  obtain ⟨c6, H⟩ := peel H
  refine Opl.one (v := .lit (.int .i64 (shr .i64 a0 (wrap64 ((wrap64 (a1 - 1)) - x11_1))))) rfl rfl (by simp only [go_sem]; rw [if_neg (by omega), fdiv_pow]; simp only [shr, w64, IntKind.bits]; rfl) (Opl.one (v := .lit (.int .i64 (Go.bits .and .i64 (shr .i64 a0 (wrap64 ((wrap64 (a1 - 1)) - x11_1))) 1))) rfl rfl (by simp only [go_sem]; simp only [Go.bits, w64]; rfl) (Opl.idv (M := (cInt .i64)) (xs := x5_1) (j := x11_1) (v := pv2) h2 rfl rfl (by first | omega | (simp only [List.length_set] at *; omega)) (by first | omega | (simp only [List.length_set] at *; omega)) K26 Z3 rfl rfl ?_))
  rintro d1 z1 q1 h3 h4
  refine Opl.stv (M := (cInt .i64)) (xs := x5_1) (j := x11_1) (y := (Go.bits .and .i64 (shr .i64 a0 (wrap64 ((wrap64 (a1 - 1)) - x11_1))) 1)) (vs := [.lit (.int .i64 (Go.bits .and .i64 (shr .i64 a0 (wrap64 ((wrap64 (a1 - 1)) - x11_1))) 1))]) h3 h4 (by first | omega | (simp only [List.length_set] at *; omega)) (by first | omega | (simp only [List.length_set] at *; omega)) rfl rfl (by exact rfl) Z3 rfl rfl rfl rfl ?_
  rw [← q1]
  rintro S h5 u2
  refine Opl.nil (Evr.inBlock (Evr.regionN rfl (Opl.add (k := .i64) (a := x11_1) (b := 1) K3 rfl rfl rfl rfl (Opl.one (v := .lit (.int .i64 (wrap64 (x11_1 + 1)))) rfl rfl rfl (Opl.nil ?_)))))
  exact ih1 _ (by omega) _ _ ⟨by omega, _, _, _, H, ⟨rfl, rfl, rfl, rfl, rfl, trivial⟩, h5⟩
theorem impl_stateBits.ev {k : Nat} {l0_0 : List IVar} {v0_0 : PV} (hv0_0 : Sl cIVar l0_0 v0_0) {l0_1 : List IRule} {v0_1 : PV} (hv0_1 : Sl cIRule l0_1 v0_1) {l1 : List Int} {v1 : PV} (hv1 : Sl (cInt .i64) l1 v1) {r : (List Int)} (H : impl_stateBits.f k l0_0 l0_1 l1 = some r) : Ret Try.prog 152 [.agg [v0_0, v0_1], v1] fun v S => Vec (cInt .i64) r v S := by
 unfold impl_stateBits.f at H
 refine Ret.intro Try.func152 rfl (Nat.le_of_ble_eq_true rfl) rfl ?_
 rw [tm2]
 refine Evr.seq (Evr.regionN rfl (Opl.box (cs := [v0_0, v0_1]) rfl rfl rfl rfl ?_))
 rintro i1 S h1 u1 w1
 refine Opl.one rfl rfl (by simp only [go_sem]; rfl) (Opl.nil (Evr.seq (Evr.regionN rfl (Opl.one rfl rfl (by simp only [go_sem]; rfl) (Opl.nil (Evr.seq (Evr.seq (Evr.regionN rfl (Opl.ldb (v := .agg [v0_0, v0_1]) h1 rfl T32 rfl rfl rfl rfl ?_)))))))))
 obtain ⟨t862, h_t862, H⟩ := Option.bind_eq_some_iff.1 H
 refine Opl.call ((impl_bitsOf.ev hv0_0 hv0_1 h_t862).mono fun _ _ h => Out.vec h) rfl rfl rfl rfl ⟨(.aggL ⟨hv0_0.plain, hv0_1.plain, trivial⟩), trivial⟩ (by decide) ?_
 rintro pv1 h2
 refine Opl.len (xs := t862) (by exact h2) K26 rfl rfl rfl rfl (Opl.one rfl rfl (by simp only [go_sem]; rfl) (Opl.nil (Evr.block ?_)))
 refine Evr.loop (Evr.rounds (n := k) (Inv := fun n tm S => n ≤ k ∧ ∃ (x5_1 : List Int) (x11_1 : Int) (i2 : Abs.Id) (pv2 : PV), impl_stateBits.l0 n l1 x5_1 t862 (t862.length : Int) x11_1 l0_0 l0_1 = some r ∧ Has tm [(1, v1), (2, .ptr i2 0), (5, pv2), (9, pv1), (10, .lit (.int .i64 (t862.length : Int))), (11, .lit (.int .i64 x11_1))] ∧ Box (.ptr i2 0) [v0_0, v0_1] S ∧ Vec (cInt .i64) x5_1 pv2 S ∧ Ap (.ptr i2 0) pv2) ?_ ?_ ?_)
 · exact ⟨Nat.le_refl _, _, _, _, _, H, ⟨rfl, rfl, rfl, rfl, rfl, rfl, trivial⟩, h1, .nil, Ap.nil.symm⟩
 ·
  rintro tm S ⟨_, _, _, _, _, H, -⟩
  simp [impl_stateBits.l0] at H
 ·
  rintro n1 ih1 tm S ⟨hle, x5_1, x11_1, i2, pv2, H, hh, h3, h4, ap1⟩
  simp only [impl_stateBits.l0] at H
  rw [hh.eq]
  refine Evr.seq (Evr.regionN rfl (Opl.one rfl rfl (by simp only [go_sem]; rfl) (Opl.nil (Evr.seq ?_))))
  by_cases c1 : x11_1 < (t862.length : Int)
  case neg =>
   rw [if_neg c1] at H
   have e2 : (decide (x11_1 < (t862.length : Int))) = false := by simpa using c1
   try rw [e2]
   refine Evr.condF rfl (Evr.exit rfl (Evr.seq (Evr.regionN rfl (Opl.one rfl rfl (by simp only [go_sem]; rfl) ?_))))
   obtain ⟨t874, h_t874, H⟩ := Option.bind_eq_some_iff.1 H
   obtain ⟨pv5, h11, -, h12⟩ := Out.vec h4
   refine Opl.callav (sInt .i64) (impl_clone_int.ev h12 h_t874) rfl rfl rfl (.cons h11 .nil) ⟨h12.plain, trivial⟩ rfl ?_
   rintro pv6 S h13 u3 w3
   have ap3 := w3.box h3
   have h14 := u3.box h3 ap3
   have ap4 := w3.vec h4
   have h15 := u3.vec h4 ap4
   refine Opl.one rfl rfl (by simp only [go_sem]; rfl) (Opl.nil ?_)
   obtain rfl := Option.some.inj H
   refine Evr.ret1 Try.func152 rfl ?_
   show Vec _ _ pv6 _
   exact h13
  rw [if_pos c1] at H
  have e1 : (decide (x11_1 < (t862.length : Int))) = true := by simpa using c1
  try rw [e1]
  refine Evr.condT rfl (Evr.skip (Evr.seq (Evr.block (Evr.seq (Evr.regionN rfl (Opl.one rfl rfl (by simp only [go_sem]; rfl) ?_))))))
  obtain ⟨c2, H⟩ := peel H
  obtain ⟨c3, H⟩ := peel H
  obtain ⟨c4, H⟩ := peel H
  obtain ⟨c5, H⟩ := peel H
  refine Opl.idx (M := (cInt .i64)) (xs := t862) (j := x11_1) (0 : Int) (by exact h2) rfl (by first | omega | (simp only [List.length_set] at *; omega)) (by first | omega | (simp only [List.length_set] at *; omega)) K26 Z3 rfl rfl ?_
  rintro p1 q1 h5
  obtain rfl : p1 = [.lit (.int .i64 (rd t862 x11_1))] := h5
  refine Opl.lda (.lit (.int .i64 (rd t862 x11_1))) rfl T3 rfl rfl rfl rfl (Opl.one rfl rfl (by simp only [go_sem]; rfl) (Opl.one rfl rfl (by simp only [go_sem]; rfl) (Opl.nil (Evr.regionD rfl (by kernel_rfl) (Opl.one rfl rfl (by simp only [go_sem]; rfl) (Opl.one rfl rfl (by simp only [go_sem]; rfl) (Opl.one rfl rfl (by simp only [go_sem]; rfl) (Opl.idx (M := (cInt .i64)) (xs := l1) (j := x11_1) (0 : Int) (by exact hv1) rfl (by first | omega | (simp only [List.length_set] at *; omega)) (by first | omega | (simp only [List.length_set] at *; omega)) K26 Z3 rfl rfl ?_))))))))
  rintro p2 q2 h6
  obtain rfl : p2 = [.lit (.int .i64 (rd l1 x11_1))] := h6
  refine Opl.lda (.lit (.int .i64 (rd l1 x11_1))) rfl T3 rfl rfl rfl rfl (Opl.one (v := .ptr i2 0) rfl rfl (by simp only [go_sem]; rfl) (Opl.ldb (v := v0_0) h3 rfl T29 rfl rfl rfl rfl (Opl.one rfl rfl (by simp only [go_sem]; rfl) (Opl.idx (M := cIVar) (xs := l0_0) (j := x11_1) zIVar (by exact hv0_0) rfl (by first | omega | (simp only [List.length_set] at *; omega)) (by first | omega | (simp only [List.length_set] at *; omega)) K29 Z97 rfl rfl ?_))))
  rintro p3 q3 h7
  obtain rfl := cIVar_R (x := (rd_IVar l0_0 x11_1)) h7
  refine Opl.one (v := .fel ((.lit (.int .i64 ((rd_IVar l0_0 x11_1).f0))) :: (.lit (.int .i64 ((rd_IVar l0_0 x11_1).f1))) :: (.lit (.int .i64 ((rd_IVar l0_0 x11_1).f2))) :: q3)) rfl rfl (by simp only [go_sem]; rfl) (Opl.lda (.lit (.int .i64 ((rd_IVar l0_0 x11_1).f0))) rfl T3 rfl rfl rfl rfl (Opl.subi (k := .i64) (a := (rd l1 x11_1)) (b := ((rd_IVar l0_0 x11_1).f0)) K3 rfl rfl rfl rfl (Opl.one (v := .lit (.int .i64 (rd t862 x11_1))) rfl rfl rfl ?_)))
  obtain ⟨t868, h_t868, H⟩ := Option.bind_eq_some_iff.1 H
  refine Opl.call ((impl_valueBits.ev h_t868).mono fun _ _ h => Out.vec h) rfl rfl rfl rfl ⟨(.lit _), (.lit _), trivial⟩ (by decide) ?_
  rintro pv3 h8
  obtain ⟨c6, H⟩ := peel H
  refine Opl.app (M := (cInt .i64)) (xs := x5_1) (ys := t868) (v := pv2) h4 (.sl h8) (oInt .i64) rfl rfl K26 T3 rfl rfl (by (try simp only [List.length_cons, List.length_nil]); omega) (by show (_ + _) * 8 ≤ 140737488355328; (try simp only [List.length_cons, List.length_nil]); omega) rfl rfl rfl rfl rfl ?_
  rintro pv4 S h9 u2 w2
  have ap2 := w2.box h3
  have h10 := u2.box h3 ap1
  refine Opl.one (v := pv4) rfl rfl rfl (Opl.nil (Evr.inBlock (Evr.regionN rfl (Opl.add (k := .i64) (a := x11_1) (b := 1) K3 rfl rfl rfl rfl (Opl.one (v := .lit (.int .i64 (wrap64 (x11_1 + 1)))) rfl rfl rfl (Opl.nil ?_))))))
  exact ih1 _ (by omega) _ _ ⟨by omega, _, _, _, _, H, ⟨rfl, rfl, rfl, rfl, rfl, rfl, trivial⟩, h10, h9, ap2⟩
theorem impl_allBits.ev {k : Nat} {l0_0 : List IVar} {v0_0 : PV} (hv0_0 : Sl cIVar l0_0 v0_0) {l0_1 : List IRule} {v0_1 : PV} (hv0_1 : Sl cIRule l0_1 v0_1) {l1 : List Int} {v1 : PV} (hv1 : Sl (cInt .i64) l1 v1) {r : (List (List Int))} (H : impl_allBits.f k l0_0 l0_1 l1 = some r) : Ret Try.prog 99 [.agg [v0_0, v0_1], v1] fun v S => Vec (cSl (cInt .i64)) r v S := by
 unfold impl_allBits.f at H
 refine Ret.intro Try.func99 rfl (Nat.le_of_ble_eq_true rfl) rfl ?_
 rw [tm2]
 refine Evr.seq (Evr.regionN rfl (Opl.box (cs := [v0_0, v0_1]) rfl rfl rfl rfl ?_))
 rintro i1 S h1 u1 w1
 refine Opl.one rfl rfl (by simp only [go_sem]; rfl) (Opl.nil (Evr.seq (Evr.regionN rfl (Opl.one rfl rfl (by simp only [go_sem]; rfl) (Opl.nil (Evr.seq (Evr.seq (Evr.regionN rfl (Opl.one rfl rfl (by simp only [go_sem]; rfl) (Opl.len (xs := l1) (by exact hv1) K26 rfl rfl rfl rfl (Opl.one rfl rfl (by simp only [go_sem]; rfl) (Opl.nil (Evr.block ?_)))))))))))))
 refine Evr.loop (Evr.rounds (n := k) (Inv := fun n tm S => n ≤ k ∧ ∃ (x5_1 : List (List Int)) (x10_1 : Int) (i2 : Abs.Id) (pv1 : PV), impl_allBits.l0 n x5_1 l1 (l1.length : Int) x10_1 l0_0 l0_1 = some r ∧ Has tm [(2, .ptr i2 0), (5, pv1), (8, v1), (9, .lit (.int .i64 (l1.length : Int))), (10, .lit (.int .i64 x10_1))] ∧ Box (.ptr i2 0) [v0_0, v0_1] S ∧ Vec (cSl (cInt .i64)) x5_1 pv1 S ∧ Ap (.ptr i2 0) pv1) ?_ ?_ ?_)
 · exact ⟨Nat.le_refl _, _, _, _, _, H, ⟨rfl, rfl, rfl, rfl, rfl, trivial⟩, h1, .nil, Ap.nil.symm⟩
 ·
  rintro tm S ⟨_, _, _, _, _, H, -⟩
  simp [impl_allBits.l0] at H
 ·
  rintro n1 ih1 tm S ⟨hle, x5_1, x10_1, i2, pv1, H, hh, h2, h3, ap1⟩
  simp only [impl_allBits.l0] at H
  rw [hh.eq]
  refine Evr.seq (Evr.regionN rfl (Opl.one rfl rfl (by simp only [go_sem]; rfl) (Opl.nil (Evr.seq ?_))))
  by_cases c1 : x10_1 < (l1.length : Int)
  case neg =>
   rw [if_neg c1] at H
   have e2 : (decide (x10_1 < (l1.length : Int))) = false := by simpa using c1
   try rw [e2]
   refine Evr.condF rfl (Evr.exit rfl (Evr.seq (Evr.frz 5 h3 rfl ?_)))
   rintro pv6 S h13 u4
   have h14 := u4.box h2 ap1
   refine Evr.regionN rfl (Opl.one rfl rfl (by simp only [go_sem]; rfl) ?_)
   obtain ⟨t895, h_t895, H⟩ := Option.bind_eq_some_iff.1 H
   refine Opl.calla (impl_clone_Lint.ev h13 h_t895) rfl rfl rfl rfl ⟨h13.plain, trivial⟩ rfl ?_
   rintro pv7 S h15 u5 w4
   have ap6 := w4.box h14
   have h16 := u5.box h14 ap6
   refine Opl.one rfl rfl (by simp only [go_sem]; rfl) (Opl.nil ?_)
   obtain rfl := Option.some.inj H
   refine Evr.ret1 Try.func99 rfl ?_
   show Vec _ _ pv7 _
   exact h15
  rw [if_pos c1] at H
  have e1 : (decide (x10_1 < (l1.length : Int))) = true := by simpa using c1
  try rw [e1]
  refine Evr.condT rfl (Evr.skip (Evr.seq (Evr.block (Evr.seq (Evr.regionN rfl ?_)))))
  obtain ⟨c2, H⟩ := peel H
  obtain ⟨c3, H⟩ := peel H
  refine Opl.idx (M := (cInt .i64)) (xs := l1) (j := x10_1) (0 : Int) (by exact hv1) rfl (by first | omega | (simp only [List.length_set] at *; omega)) (by first | omega | (simp only [List.length_set] at *; omega)) K26 Z3 rfl rfl ?_
  rintro p1 q1 h4
  obtain rfl : p1 = [.lit (.int .i64 (rd l1 x10_1))] := h4
  refine Opl.lda (.lit (.int .i64 (rd l1 x10_1))) rfl T3 rfl rfl rfl rfl (Opl.one rfl rfl (by simp only [go_sem]; rfl) (Opl.nil (Evr.regionD rfl (by kernel_rfl) (Opl.one rfl rfl (by simp only [go_sem]; rfl) (Opl.ldb (v := .agg [v0_0, v0_1]) h2 rfl T32 rfl rfl rfl rfl (Opl.ldb (v := .agg [v0_0, v0_1]) h2 rfl T32 rfl rfl rfl rfl (Opl.one rfl rfl (by simp only [go_sem]; rfl) ?_)))))))
  obtain ⟨t886, h_t886, H⟩ := Option.bind_eq_some_iff.1 H
  refine Opl.call ((impl_stateAt.ev hv0_0 hv0_1 h_t886).mono fun _ _ h => Out.vec h) rfl rfl rfl rfl ⟨(.aggL ⟨hv0_0.plain, hv0_1.plain, trivial⟩), (.lit _), trivial⟩ (by decide) ?_
  rintro pv2 h5
  obtain ⟨t889, h_t889, H⟩ := Option.bind_eq_some_iff.1 H
  refine Opl.call ((impl_stateBits.ev hv0_0 hv0_1 h5 h_t889).mono fun _ _ h => Out.vec h) rfl rfl rfl rfl ⟨(.aggL ⟨hv0_0.plain, hv0_1.plain, trivial⟩), h5.plain, trivial⟩ (by decide) ?_
  rintro pv3 h6
  refine Opl.lits (M := (cSl (cInt .i64))) (ys := [t889]) [.tmp 19] K38 T26 rfl rfl rfl (by exact ⟨⟨_, by first | rfl | exact h6.cells, h6⟩, trivial⟩) rfl (by decide) rfl rfl rfl ?_
  rintro pv4 S h7 u2 w2
  have ap2 := w2.box h2
  have h8 := u2.box h2 ap2
  have ap3 := w2.vec h3
  have h9 := u2.vec h3 ap3
  obtain ⟨c4, H⟩ := peel H
  refine Opl.app (M := (cSl (cInt .i64))) (xs := x5_1) (ys := [t889]) (v := pv1) h9 (.vec h7) (oSl (cInt .i64)) rfl rfl K38 T26 rfl rfl (by (try simp only [List.length_cons, List.length_nil]); omega) (by show (_ + _) * 24 ≤ 140737488355328; (try simp only [List.length_cons, List.length_nil]); omega) rfl rfl rfl rfl rfl ?_
  rintro pv5 S h10 u3 w3
  have ap4 := w3.box h8
  have h11 := u3.box h8 ap1
  have ap5 := w3.vec h7
  have h12 := u3.vec h7 ap3.symm
  refine Opl.one rfl rfl (by simp only [go_sem]; rfl) (Opl.nil (Evr.inBlock (Evr.regionN rfl (Opl.add (k := .i64) (a := x10_1) (b := 1) K3 rfl rfl rfl rfl (Opl.one (v := .lit (.int .i64 (wrap64 (x10_1 + 1)))) rfl rfl rfl (Opl.nil ?_))))))
  exact ih1 _ (by omega) _ _ ⟨by omega, _, _, _, _, H, ⟨rfl, rfl, rfl, rfl, rfl, trivial⟩, h11, h10, ap4⟩
theorem impl_bitCount.ev {k : Nat} {l0_0 : List IVar} {v0_0 : PV} (hv0_0 : Sl cIVar l0_0 v0_0) {l0_1 : List IRule} {v0_1 : PV} (hv0_1 : Sl cIRule l0_1 v0_1) {r : Int} (H : impl_bitCount.f k l0_0 l0_1 = some r) : Ret Try.prog 111 [.agg [v0_0, v0_1]] fun v S => v = .lit (.int .i64 r) := by
 unfold impl_bitCount.f at H
 refine Ret.intro Try.func111 rfl (Nat.le_of_ble_eq_true rfl) rfl ?_
 rw [tm1]
 refine Evr.seq (Evr.regionN rfl (Opl.box (cs := [v0_0, v0_1]) rfl rfl rfl rfl ?_))
 rintro i1 S h1 u1 w1
 refine Opl.one rfl rfl (by simp only [go_sem]; rfl) (Opl.nil (Evr.seq (Evr.regionN rfl (Opl.one rfl rfl (by simp only [go_sem]; rfl) (Opl.nil (Evr.seq (Evr.seq (Evr.regionN rfl (Opl.ldb (v := .agg [v0_0, v0_1]) h1 rfl T32 rfl rfl rfl rfl ?_)))))))))
 obtain ⟨t905, h_t905, H⟩ := Option.bind_eq_some_iff.1 H
 refine Opl.call ((impl_bitsOf.ev hv0_0 hv0_1 h_t905).mono fun _ _ h => Out.vec h) rfl rfl rfl rfl ⟨(.aggL ⟨hv0_0.plain, hv0_1.plain, trivial⟩), trivial⟩ (by decide) ?_
 rintro pv1 h2
 refine Opl.len (xs := t905) (by exact h2) K26 rfl rfl rfl rfl (Opl.one rfl rfl (by simp only [go_sem]; rfl) (Opl.nil (Evr.block ?_)))
 refine Evr.loop (Evr.rounds (n := k) (Inv := fun n tm S => n ≤ k ∧ ∃ (x3_1 : Int) (x9_1 : Int), impl_bitCount.l0 n x3_1 t905 (t905.length : Int) x9_1 = some r ∧ Has tm [(3, .lit (.int .i64 x3_1)), (7, pv1), (8, .lit (.int .i64 (t905.length : Int))), (9, .lit (.int .i64 x9_1))]) ?_ ?_ ?_)
 · exact ⟨Nat.le_refl _, _, _, H, ⟨rfl, rfl, rfl, rfl, trivial⟩⟩
 ·
  rintro tm S ⟨_, _, _, H, -⟩
  simp [impl_bitCount.l0] at H
 ·
  rintro n1 ih1 tm S ⟨hle, x3_1, x9_1, H, hh⟩
  simp only [impl_bitCount.l0] at H
  rw [hh.eq]
  refine Evr.seq (Evr.regionN rfl (Opl.one rfl rfl (by simp only [go_sem]; rfl) (Opl.nil (Evr.seq ?_))))
  by_cases c1 : x9_1 < (t905.length : Int)
  case neg =>
   rw [if_neg c1] at H
   have e2 : (decide (x9_1 < (t905.length : Int))) = false := by simpa using c1
   try rw [e2]
   refine Evr.condF rfl (Evr.exit rfl (Evr.seq (Evr.regionN rfl (Opl.one rfl rfl (by simp only [go_sem]; rfl) (Opl.one rfl rfl (by simp only [go_sem]; rfl) (Opl.nil ?_))))))
   obtain rfl := Option.some.inj H
   refine Evr.ret1 Try.func111 rfl ?_
   show (.lit (.int .i64 x3_1) : PV) = _
   first | rfl | (simp only [go_sem]; rfl)
  rw [if_pos c1] at H
  have e1 : (decide (x9_1 < (t905.length : Int))) = true := by simpa using c1
  try rw [e1]
  refine Evr.condT rfl (Evr.skip (Evr.seq (Evr.block (Evr.seq (Evr.regionN rfl ?_)))))
  obtain ⟨c2, H⟩ := peel H
  obtain ⟨c3, H⟩ := peel H
  refine Opl.idx (M := (cInt .i64)) (xs := t905) (j := x9_1) (0 : Int) (by exact h2) rfl (by first | omega | (simp only [List.length_set] at *; omega)) (by first | omega | (simp only [List.length_set] at *; omega)) K26 Z3 rfl rfl ?_
  rintro p1 q1 h3
  obtain rfl : p1 = [.lit (.int .i64 (rd t905 x9_1))] := h3
  refine Opl.lda (.lit (.int .i64 (rd t905 x9_1))) rfl T3 rfl rfl rfl rfl (Opl.one rfl rfl (by simp only [go_sem]; rfl) (Opl.nil (Evr.regionN rfl (Opl.one rfl rfl (by simp only [go_sem]; rfl) (Opl.one rfl rfl (by simp only [go_sem]; rfl) (Opl.add (k := .i64) (a := x3_1) (b := (rd t905 x9_1)) K3 rfl rfl rfl rfl (Opl.one (v := .lit (.int .i64 (wrap64 (x3_1 + (rd t905 x9_1))))) rfl rfl rfl (Opl.nil (Evr.inBlock (Evr.regionN rfl (Opl.add (k := .i64) (a := x9_1) (b := 1) K3 rfl rfl rfl rfl (Opl.one (v := .lit (.int .i64 (wrap64 (x9_1 + 1)))) rfl rfl rfl (Opl.nil ?_)))))))))))))
  exact ih1 _ (by omega) _ _ ⟨by omega, _, _, H, ⟨rfl, rfl, rfl, rfl, trivial⟩⟩
theorem impl_hasNone.ev {k : Nat} {l0 : List (List Int)} {v0 : PV} (hv0 : Sl (cSl (cInt .i64)) l0 v0) {r : (List (List Int))} (H : impl_hasNone.f k l0 = some r) : Ret Try.prog 122 [v0] fun v S => Out (fun q => ∃ q1, q = .fn 164 [.fel [q1]] ∧ Sl (cSl (cInt .i64)) r q1) v S := by
 unfold impl_hasNone.f at H
 refine Ret.intro Try.func122 rfl (Nat.le_of_ble_eq_true rfl) rfl ?_
 rw [tm1]
 refine Evr.seq (Evr.regionN rfl (Opl.box (cs := [v0]) (by exact hv0.cells) rfl rfl rfl ?_))
 rintro i1 S h1 u1 w1
 refine Opl.one rfl rfl (by simp only [go_sem]; rfl) (Opl.nil (Evr.seq (Evr.regionN rfl (Opl.one rfl rfl (by simp only [go_sem]; rfl) (Opl.one rfl rfl (by simp only [go_sem]; rfl) (Opl.nil ?_))))))
 obtain rfl := Option.some.inj H
 refine Evr.ret1 Try.func122 rfl ?_
 show Out _ (.fn 164 [.ptr i1 0]) _
 exact (.fn1 h1 (.sl hv0))
theorem impl_cubeHas.ev {k : Nat} {l0 : List Int} {v0 : PV} (hv0 : Sl (cInt .i64) l0 v0) {l1 : List Int} {v1 : PV} (hv1 : Sl (cInt .i64) l1 v1) {r : Bool} (H : impl_cubeHas.f k l0 l1 = some r) : Ret Try.prog 161 [v0, v1] fun v S => v = .lit (.bool r) := by
 unfold impl_cubeHas.f at H
 refine Ret.intro Try.func161 rfl (Nat.le_of_ble_eq_true rfl) rfl ?_
 rw [tm2]
 refine Evr.seq (Evr.regionN rfl (Opl.one rfl rfl (by simp only [go_sem]; rfl) (Opl.nil (Evr.seq (Evr.seq (Evr.regionN rfl (Opl.one rfl rfl (by simp only [go_sem]; rfl) (Opl.len (xs := l0) (by exact hv0) K26 rfl rfl rfl rfl (Opl.one rfl rfl (by simp only [go_sem]; rfl) (Opl.nil (Evr.block ?_)))))))))))
 refine Evr.loop (Evr.rounds (n := k) (Inv := fun n tm S => n ≤ k ∧ ∃ (x9_1 : Int), impl_cubeHas.l0 n l1 l0 (l0.length : Int) x9_1 = some r ∧ Has tm [(1, v1), (7, v0), (8, .lit (.int .i64 (l0.length : Int))), (9, .lit (.int .i64 x9_1))]) ?_ ?_ ?_)
 · exact ⟨Nat.le_refl _, _, H, ⟨rfl, rfl, rfl, rfl, trivial⟩⟩
 ·
  rintro tm S ⟨_, _, H, -⟩
  simp [impl_cubeHas.l0] at H
 ·
  rintro n1 ih1 tm S ⟨hle, x9_1, H, hh⟩
  simp only [impl_cubeHas.l0] at H
  rw [hh.eq]
  refine Evr.seq (Evr.regionN rfl (Opl.one rfl rfl (by simp only [go_sem]; rfl) (Opl.nil (Evr.seq ?_))))
  by_cases c1 : x9_1 < (l0.length : Int)
  case neg =>
   rw [if_neg c1] at H
   have e6 : (decide (x9_1 < (l0.length : Int))) = false := by simpa using c1
   try rw [e6]
   refine Evr.condF rfl (Evr.exit rfl (Evr.seq (Evr.regionN rfl (Opl.one rfl rfl (by simp only [go_sem]; rfl) (Opl.nil ?_)))))
   obtain rfl := Option.some.inj H
   refine Evr.ret1 Try.func161 rfl ?_
   show (.lit (.bool true) : PV) = _
   first | rfl | (simp only [go_sem]; rfl)
  rw [if_pos c1] at H
  have e1 : (decide (x9_1 < (l0.length : Int))) = true := by simpa using c1
  try rw [e1]
  refine Evr.condT rfl (Evr.skip (Evr.seq (Evr.block (Evr.seq (Evr.regionN rfl (Opl.one rfl rfl (by simp only [go_sem]; rfl) ?_))))))
  obtain ⟨c2, H⟩ := peel H
  obtain ⟨c3, H⟩ := peel H
  refine Opl.idx (M := (cInt .i64)) (xs := l0) (j := x9_1) (0 : Int) (by exact hv0) rfl (by first | omega | (simp only [List.length_set] at *; omega)) (by first | omega | (simp only [List.length_set] at *; omega)) K26 Z3 rfl rfl ?_
  rintro p1 q1 h1
  obtain rfl : p1 = [.lit (.int .i64 (rd l0 x9_1))] := h1
  refine Opl.lda (.lit (.int .i64 (rd l0 x9_1))) rfl T3 rfl rfl rfl rfl (Opl.one rfl rfl (by simp only [go_sem]; rfl) (Opl.one rfl rfl (by simp only [go_sem]; rfl) (Opl.nil (Evr.seq (Evr.regionN rfl (Opl.one rfl rfl (by simp only [go_sem]; rfl) (Opl.one rfl rfl (by simp only [go_sem]; rfl) (Opl.one rfl rfl (by simp only [go_sem]; rfl) ?_))))))))
  by_cases c4 : (rd l0 x9_1) = 2
  case pos =>
   rw [if_pos c4] at H
   have e2 : ((rd l0 x9_1) != 2) = false := by simpa using c4
   try rw [e2]
   refine Opl.skp rfl (Opl.skp rfl (Opl.skp rfl (Opl.skp rfl (Opl.skp rfl (Opl.skp rfl (Opl.one rfl rfl (by simp only [go_sem]; rfl) (Opl.nil (Evr.condF rfl (Evr.skip (Evr.inBlock (Evr.regionN rfl (Opl.add (k := .i64) (a := x9_1) (b := 1) K3 rfl rfl rfl rfl (Opl.one (v := .lit (.int .i64 (wrap64 (x9_1 + 1)))) rfl rfl rfl (Opl.nil ?_))))))))))))))
   exact ih1 _ (by omega) _ _ ⟨by omega, _, H, ⟨rfl, rfl, rfl, rfl, trivial⟩⟩
  rw [if_neg c4] at H
  have e3 : ((rd l0 x9_1) != 2) = true := by simpa using c4
  try rw [e3]
  refine Opl.one rfl rfl (by simp only [go_sem]; rfl) (Opl.one rfl rfl (by simp only [go_sem]; rfl) (Opl.one rfl rfl (by simp only [go_sem]; rfl) ?_))
  obtain ⟨c5, H⟩ := peel H
  refine Opl.idx (M := (cInt .i64)) (xs := l1) (j := x9_1) (0 : Int) (by exact hv1) rfl (by first | omega | (simp only [List.length_set] at *; omega)) (by first | omega | (simp only [List.length_set] at *; omega)) K26 Z3 rfl rfl ?_
  rintro p2 q2 h2
  obtain rfl : p2 = [.lit (.int .i64 (rd l1 x9_1))] := h2
  refine Opl.lda (.lit (.int .i64 (rd l1 x9_1))) rfl T3 rfl rfl rfl rfl (Opl.one rfl rfl (by simp only [go_sem]; rfl) (Opl.one rfl rfl (by simp only [go_sem]; rfl) (Opl.nil ?_)))
  by_cases c6 : (rd l0 x9_1) = (rd l1 x9_1)
  case neg =>
   rw [if_neg c6] at H
   have e5 : ((rd l0 x9_1) != (rd l1 x9_1)) = true := by simpa using c6
   try rw [e5]
   refine Evr.condT rfl (Evr.seq (Evr.regionN rfl (Opl.one rfl rfl (by simp only [go_sem]; rfl) (Opl.nil ?_))))
   obtain rfl := Option.some.inj H
   refine Evr.ret1 Try.func161 rfl ?_
   show (.lit (.bool false) : PV) = _
   first | rfl | (simp only [go_sem]; rfl)
  rw [if_pos c6] at H
  have e4 : ((rd l0 x9_1) != (rd l1 x9_1)) = false := by simpa using c6
  try rw [e4]
  refine Evr.condF rfl (Evr.skip (Evr.inBlock (Evr.regionN rfl (Opl.add (k := .i64) (a := x9_1) (b := 1) K3 rfl rfl rfl rfl (Opl.one (v := .lit (.int .i64 (wrap64 (x9_1 + 1)))) rfl rfl rfl (Opl.nil ?_))))))
  exact ih1 _ (by omega) _ _ ⟨by omega, _, H, ⟨rfl, rfl, rfl, rfl, trivial⟩⟩
theorem impl_hasNone_1_1.ev {k : Nat} {l0 : List Int} {v0 : PV} (hv0 : Sl (cInt .i64) l0 v0) {l1 : List Int} {v1 : PV} (hv1 : Sl (cInt .i64) l1 v1) {r : Bool} (H : impl_hasNone_1_1.f k l0 l1 = some r) : Ret Try.prog 166 [v0, .fel (v1 :: [])] fun v S => v = .lit (.bool r) := by
 unfold impl_hasNone_1_1.f at H
 refine Ret.intro Try.func166 rfl (Nat.le_of_ble_eq_true rfl) rfl ?_
 rw [tm2]
 refine Evr.seq (Evr.regionN rfl (Opl.one rfl rfl (by simp only [go_sem]; rfl) (Opl.nil (Evr.seq (Evr.regionN rfl (Opl.lda (v1) rfl T26 rfl rfl rfl rfl (Opl.one rfl rfl (by simp only [go_sem]; rfl) ?_)))))))
 obtain ⟨r1, h_r1, H⟩ := Option.bind_eq_some_iff.1 H
 refine Opl.callc (impl_cubeHas.ev hv1 hv0 h_r1) rfl rfl rfl rfl ⟨hv1.plain, hv0.plain, trivial⟩ (by decide) (Opl.one rfl rfl (by simp only [go_sem]; rfl) (Opl.nil ?_))
 obtain rfl := Option.some.inj H
 refine Evr.ret1 Try.func166 rfl ?_
 show (.lit (.bool r1) : PV) = _
 first | rfl | (simp only [go_sem]; rfl)
theorem slices_IndexFunc_int_int_at_impl_hasNone_1_1.ev {k : Nat} {l0 : List (List Int)} {v0 : PV} (hv0 : Sl (cSl (cInt .i64)) l0 v0) {l2 : List Int} {v2 : PV} (hv2 : Sl (cInt .i64) l2 v2) {r : Int} (H : slices_IndexFunc_int_int_at_impl_hasNone_1_1.f k l0 l2 = some r) : Ret Try.prog 180 [v0, .fn 166 [.fel (v2 :: [])]] fun v S => v = .lit (.int .i64 r) := by
 unfold slices_IndexFunc_int_int_at_impl_hasNone_1_1.f at H
 refine Ret.intro Try.func180 rfl (Nat.le_of_ble_eq_true rfl) rfl ?_
 rw [tm2]
 refine Evr.seq (Evr.regionN rfl (Opl.one rfl rfl (by simp only [go_sem]; rfl) (Opl.nil (Evr.seq (Evr.seq (Evr.regionN rfl (Opl.one rfl rfl (by simp only [go_sem]; rfl) (Opl.len (xs := l0) (by exact hv0) K38 rfl rfl rfl rfl (Opl.one rfl rfl (by simp only [go_sem]; rfl) (Opl.nil (Evr.block ?_)))))))))))
 refine Evr.loop (Evr.rounds (n := k) (Inv := fun n tm S => n ≤ k ∧ ∃ (x8_1 : Int), slices_IndexFunc_int_int_at_impl_hasNone_1_1.l1 n x8_1 l0 l2 = some r ∧ Has tm [(0, v0), (1, .fn 166 [.fel (v2 :: [])]), (7, .lit (.int .i64 (l0.length : Int))), (8, .lit (.int .i64 x8_1))]) ?_ ?_ ?_)
 · exact ⟨Nat.le_refl _, _, H, ⟨rfl, rfl, rfl, rfl, trivial⟩⟩
 ·
  rintro tm S ⟨_, _, H, -⟩
  simp [slices_IndexFunc_int_int_at_impl_hasNone_1_1.l1] at H
 ·
  rintro n1 ih1 tm S ⟨hle, x8_1, H, hh⟩
  simp only [slices_IndexFunc_int_int_at_impl_hasNone_1_1.l1] at H
  rw [hh.eq]
  refine Evr.seq (Evr.regionN rfl (Opl.one rfl rfl (by simp only [go_sem]; rfl) (Opl.nil (Evr.seq ?_))))
  by_cases c1 : x8_1 < (l0.length : Int)
  case neg =>
   rw [if_neg c1] at H
   have e2 : (decide (x8_1 < (l0.length : Int))) = false := by simpa using c1
   try rw [e2]
   refine Evr.condF rfl (Evr.exit rfl (Evr.seq (Evr.regionN rfl (Opl.one rfl rfl (by simp only [go_sem]; rfl) (Opl.nil ?_)))))
   obtain rfl := Option.some.inj H
   refine Evr.ret1 Try.func180 rfl ?_
   show (.lit (.int .i64 (-1)) : PV) = _
   first | rfl | (simp only [go_sem]; rfl)
  rw [if_pos c1] at H
  have e1 : (decide (x8_1 < (l0.length : Int))) = true := by simpa using c1
  try rw [e1]
  refine Evr.condT rfl (Evr.skip (Evr.seq (Evr.block (Evr.seq (Evr.regionN rfl (Opl.one rfl rfl (by simp only [go_sem]; rfl) (Opl.one rfl rfl (by simp only [go_sem]; rfl) (Opl.nil (Evr.seq (Evr.regionN rfl (Opl.one rfl rfl (by simp only [go_sem]; rfl) (Opl.one rfl rfl (by simp only [go_sem]; rfl) (Opl.one rfl rfl (by simp only [go_sem]; rfl) ?_)))))))))))))
  obtain ⟨c2, H⟩ := peel H
  obtain ⟨c3, H⟩ := peel H
  refine Opl.idx (M := (cSl (cInt .i64))) (xs := l0) (j := x8_1) ([] : List Int) (by exact hv0) rfl (by first | omega | (simp only [List.length_set] at *; omega)) (by first | omega | (simp only [List.length_set] at *; omega)) K38 Z26 rfl rfl ?_
  rintro p1 q1 h1
  obtain ⟨pv1, rfl, h2⟩ := h1
  refine Opl.lda (pv1) rfl T26 rfl rfl rfl rfl ?_
  obtain ⟨r1, h_r1, H⟩ := Option.bind_eq_some_iff.1 H
  refine Opl.callc (impl_hasNone_1_1.ev h2 hv2 h_r1) rfl rfl rfl rfl ⟨h2.plain, (.felL ⟨hv2.plain, trivial⟩), trivial⟩ (by decide) (Opl.nil ?_)
  by_cases c4 : r1 = true
  case neg =>
   rw [if_neg c4] at H
   obtain rfl : r1 = false := by simpa using c4
   refine Evr.condF rfl (Evr.skip (Evr.inBlock (Evr.regionN rfl (Opl.add (k := .i64) (a := x8_1) (b := 1) K3 rfl rfl rfl rfl (Opl.one (v := .lit (.int .i64 (wrap64 (x8_1 + 1)))) rfl rfl rfl (Opl.nil ?_))))))
   exact ih1 _ (by omega) _ _ ⟨by omega, _, H, ⟨rfl, rfl, rfl, rfl, trivial⟩⟩
  rw [if_pos c4] at H
  obtain rfl : r1 = true := by simpa using c4
  refine Evr.condT rfl (Evr.seq (Evr.regionN rfl (Opl.one rfl rfl (by simp only [go_sem]; rfl) (Opl.one rfl rfl (by simp only [go_sem]; rfl) (Opl.nil ?_)))))
  obtain rfl := Option.some.inj H
  refine Evr.ret1 Try.func180 rfl ?_
  show (.lit (.int .i64 x8_1) : PV) = _
  first | rfl | (simp only [go_sem]; rfl)
theorem slices_ContainsFunc_int_int_at_impl_hasNone_1_1.ev {k : Nat} {l0 : List (List Int)} {v0 : PV} (hv0 : Sl (cSl (cInt .i64)) l0 v0) {l2 : List Int} {v2 : PV} (hv2 : Sl (cInt .i64) l2 v2) {r : Bool} (H : slices_ContainsFunc_int_int_at_impl_hasNone_1_1.f k l0 l2 = some r) : Ret Try.prog 165 [v0, .fn 166 [.fel (v2 :: [])]] fun v S => v = .lit (.bool r) := by
 unfold slices_ContainsFunc_int_int_at_impl_hasNone_1_1.f at H
 refine Ret.intro Try.func165 rfl (Nat.le_of_ble_eq_true rfl) rfl ?_
 rw [tm2]
 refine Evr.seq (Evr.regionN rfl (Opl.one rfl rfl (by simp only [go_sem]; rfl) (Opl.nil (Evr.seq (Evr.regionN rfl (Opl.one rfl rfl (by simp only [go_sem]; rfl) (Opl.one rfl rfl (by simp only [go_sem]; rfl) ?_)))))))
 obtain ⟨r1, h_r1, H⟩ := Option.bind_eq_some_iff.1 H
 refine Opl.callc (slices_IndexFunc_int_int_at_impl_hasNone_1_1.ev hv0 hv2 h_r1) rfl rfl rfl rfl ⟨hv0.plain, (.fnL ⟨(.felL ⟨hv2.plain, trivial⟩), trivial⟩), trivial⟩ (by decide) (Opl.one rfl rfl (by simp only [go_sem]; rfl) (Opl.one rfl rfl (by simp only [go_sem]; rfl) (Opl.nil ?_)))
 obtain rfl := Option.some.inj H
 refine Evr.ret1 Try.func165 rfl ?_
 show (.lit (.bool (decide (r1 ≥ 0))) : PV) = _
 first | rfl | (simp only [go_sem]; rfl)
theorem impl_hasNone_1.ev {k : Nat} {l0 : List Int} {v0 : PV} (hv0 : Sl (cInt .i64) l0 v0) {l1 : List (List Int)} {v1 : PV} (hv1 : Sl (cSl (cInt .i64)) l1 v1) {r : Bool} (H : impl_hasNone_1.f k l0 l1 = some r) : Ret Try.prog 164 [v0, .fel (v1 :: [])] fun v S => v = .lit (.bool r) := by
 unfold impl_hasNone_1.f at H
 refine Ret.intro Try.func164 rfl (Nat.le_of_ble_eq_true rfl) rfl ?_
 rw [tm2]
 refine Evr.seq (Evr.regionN rfl (Opl.box (cs := [v0]) (by exact hv0.cells) rfl rfl rfl ?_))
 rintro i1 S h1 u1 w1
 refine Opl.one rfl rfl (by simp only [go_sem]; rfl) (Opl.nil (Evr.seq (Evr.regionN rfl (Opl.lda (v1) rfl T38 rfl rfl rfl rfl (Opl.one rfl rfl (by simp only [go_sem]; rfl) ?_)))))
 obtain ⟨r1, h_r1, H⟩ := Option.bind_eq_some_iff.1 H
 refine Opl.callw (slices_ContainsFunc_int_int_at_impl_hasNone_1_1.ev hv1 hv0 h_r1) rfl rfl rfl (.cons (.refl _) (.cons (View.fnV (.cons (View.boxV h1 (.cons (.refl _) .nil)) .nil)) .nil)) ⟨hv1.plain, (.fnL ⟨(.felL ⟨hv0.plain, trivial⟩), trivial⟩), trivial⟩ (by decide) (Opl.one rfl rfl (by simp only [go_sem]; rfl) (Opl.one rfl rfl (by simp only [go_sem]; rfl) (Opl.nil ?_)))
 obtain rfl := Option.some.inj H
 refine Evr.ret1 Try.func164 rfl ?_
 show (.lit (.bool (!r1)) : PV) = _
 first | rfl | (simp only [go_sem]; rfl)
theorem impl_widened_at_impl_hasNone_1.ev {k : Nat} {l0 : List Int} {v0 : PV} (hv0 : Sl (cInt .i64) l0 v0) {l2 : List (List Int)} {v2 : PV} (hv2 : Sl (cSl (cInt .i64)) l2 v2) {r : (List Int)} (H : impl_widened_at_impl_hasNone_1.f k l0 l2 = some r) : Ret Try.prog 121 [v0, .fn 164 [.fel (v2 :: [])]] fun v S => Vec (cInt .i64) r v S := by
 unfold impl_widened_at_impl_hasNone_1.f at H
 refine Ret.intro Try.func121 rfl (Nat.le_of_ble_eq_true rfl) rfl ?_
 rw [tm2]
 refine Evr.seq (Evr.regionN rfl (Opl.one rfl rfl (by simp only [go_sem]; rfl) (Opl.nil (Evr.seq (Evr.regionN rfl (Opl.one rfl rfl (by simp only [go_sem]; rfl) ?_))))))
 obtain ⟨r1, h_r1, H⟩ := Option.bind_eq_some_iff.1 H
 refine Opl.calla (impl_clone_int.ev hv0 h_r1) rfl rfl rfl rfl ⟨hv0.plain, trivial⟩ rfl ?_
 rintro pv1 S h1 u1 w1
 refine Opl.one rfl rfl (by simp only [go_sem]; rfl) (Opl.nil (Evr.seq (Evr.seq (Evr.regionN rfl (Opl.one rfl rfl (by simp only [go_sem]; rfl) (Opl.len (xs := l0) (by exact hv0) K26 rfl rfl rfl rfl (Opl.one rfl rfl (by simp only [go_sem]; rfl) (Opl.nil (Evr.block ?_)))))))))
 refine Evr.loop (Evr.rounds (n := k) (Inv := fun n tm S => n ≤ k ∧ ∃ (x5_1 : List Int) (x12_1 : Int) (pv2 : PV), impl_widened_at_impl_hasNone_1.l1 n x5_1 x12_1 l0 l2 = some r ∧ Has tm [(1, .fn 164 [.fel (v2 :: [])]), (5, pv2), (10, v0), (11, .lit (.int .i64 (l0.length : Int))), (12, .lit (.int .i64 x12_1))] ∧ Vec (cInt .i64) x5_1 pv2 S) ?_ ?_ ?_)
 · exact ⟨Nat.le_refl _, _, _, _, H, ⟨rfl, rfl, rfl, rfl, rfl, trivial⟩, h1⟩
 ·
  rintro tm S ⟨_, _, _, _, H, -⟩
  simp [impl_widened_at_impl_hasNone_1.l1] at H
 ·
  rintro n1 ih1 tm S ⟨hle, x5_1, x12_1, pv2, H, hh, h2⟩
  simp only [impl_widened_at_impl_hasNone_1.l1] at H
  rw [hh.eq]
  refine Evr.seq (Evr.regionN rfl (Opl.one rfl rfl (by simp only [go_sem]; rfl) (Opl.nil (Evr.seq ?_))))
  by_cases c1 : x12_1 < (l0.length : Int)
  case neg =>
   rw [if_neg c1] at H
   have e4 : (decide (x12_1 < (l0.length : Int))) = false := by simpa using c1
   try rw [e4]
   refine Evr.condF rfl (Evr.exit rfl (Evr.seq (Evr.regionN rfl (Opl.one rfl rfl (by simp only [go_sem]; rfl) (Opl.one rfl rfl (by simp only [go_sem]; rfl) (Opl.nil ?_))))))
   obtain rfl := Option.some.inj H
   refine Evr.ret1 Try.func121 rfl ?_
   show Vec _ _ pv2 _
   exact h2
  rw [if_pos c1] at H
  have e1 : (decide (x12_1 < (l0.length : Int))) = true := by simpa using c1
  try rw [e1]
  refine Evr.condT rfl (Evr.skip (Evr.seq (Evr.block (Evr.seq (Evr.regionN rfl (Opl.one rfl rfl (by simp only [go_sem]; rfl) ?_))))))
  obtain ⟨c2, H⟩ := peel H
  obtain ⟨c3, H⟩ := peel H
  obtain ⟨c4, H⟩ := peel H
  obtain ⟨c5, H⟩ := peel H
  refine Opl.idx (M := (cInt .i64)) (xs := l0) (j := x12_1) (0 : Int) (by exact hv0) rfl (by first | omega | (simp only [List.length_set] at *; omega)) (by first | omega | (simp only [List.length_set] at *; omega)) K26 Z3 rfl rfl ?_
  rintro p1 q1 h3
  obtain rfl : p1 = [.lit (.int .i64 (rd l0 x12_1))] := h3
  refine Opl.lda (.lit (.int .i64 (rd l0 x12_1))) rfl T3 rfl rfl rfl rfl (Opl.one rfl rfl (by simp only [go_sem]; rfl) (Opl.one rfl rfl (by simp only [go_sem]; rfl) (Opl.nil (Evr.seq (Evr.regionN rfl (Opl.one rfl rfl (by simp only [go_sem]; rfl) (Opl.one rfl rfl (by simp only [go_sem]; rfl) (Opl.idv (M := (cInt .i64)) (xs := x5_1) (j := x12_1) (v := pv2) h2 rfl rfl (by first | omega | (simp only [List.length_set] at *; omega)) (by first | omega | (simp only [List.length_set] at *; omega)) K26 Z3 rfl rfl ?_))))))))
  rintro d1 z1 q2 h4 h5
  refine Opl.stv (M := (cInt .i64)) (xs := x5_1) (j := x12_1) (y := 2) (vs := [.lit (.int .i64 2)]) h4 h5 (by first | omega | (simp only [List.length_set] at *; omega)) (by first | omega | (simp only [List.length_set] at *; omega)) rfl rfl (by exact rfl) Z3 rfl rfl rfl rfl ?_
  rw [← q2]
  rintro S h6 u2
  refine Opl.nil (Evr.seq (Evr.regionN rfl (Opl.one rfl rfl (by simp only [go_sem]; rfl) (Opl.one rfl rfl (by simp only [go_sem]; rfl) ?_))))
  obtain ⟨r2, h_r2, H⟩ := Option.bind_eq_some_iff.1 H
  obtain ⟨pv3, h7, -, h8⟩ := Out.vec h6
  refine Opl.callw (impl_hasNone_1.ev h8 hv2 h_r2) rfl rfl rfl (.cons h7 (.cons (.refl _) .nil)) ⟨h8.plain, (.felL ⟨hv2.plain, trivial⟩), trivial⟩ (by decide) (Opl.one rfl rfl (by simp only [go_sem]; rfl) (Opl.nil ?_))
  refine Evr.join (fun tm S => ∃ (kq1 : Nat) (x5_2 : List Int) (pv4 : PV), impl_widened_at_impl_hasNone_1.l1 kq1 x5_2 (wrap64 (x12_1 + 1)) l0 l2 = some r ∧ kq1 ≤ n1 ∧ Has tm [(1, .fn 164 [.fel (v2 :: [])]), (5, pv4), (10, v0), (11, .lit (.int .i64 (l0.length : Int))), (12, .lit (.int .i64 x12_1))] ∧ Vec (cInt .i64) x5_2 pv4 S) ?_ fun hk1 => ?_
  ·
   rintro tm S ⟨kq1, x5_2, pv4, H, hle, hh, h9⟩
   rw [hh.eq]
   refine Evr.inBlock (Evr.regionN rfl (Opl.add (k := .i64) (a := x12_1) (b := 1) K3 rfl rfl rfl rfl (Opl.one (v := .lit (.int .i64 (wrap64 (x12_1 + 1)))) rfl rfl rfl (Opl.nil ?_))))
   exact ih1 _ (by omega) _ _ ⟨by omega, _, _, _, H, ⟨rfl, rfl, rfl, rfl, rfl, trivial⟩, h9⟩
  ·
   by_cases c6 : r2 = true
   case pos =>
    rw [if_pos c6] at H
    have e2 : (!r2) = false := by simpa using c6
    try rw [e2]
    refine Evr.condF rfl (Evr.skip ?_)
    exact hk1 _ _ ⟨_, _, _, H, by omega, ⟨rfl, rfl, rfl, rfl, rfl, trivial⟩, h6⟩
   rw [if_neg c6] at H
   have e3 : (!r2) = true := by simpa using c6
   try rw [e3]
   refine Evr.condT rfl (Evr.regionN rfl (Opl.one rfl rfl (by simp only [go_sem]; rfl) (Opl.one rfl rfl (by simp only [go_sem]; rfl) (Opl.one rfl rfl (by simp only [go_sem]; rfl) ?_))))
   obtain ⟨c7, H⟩ := peel H
   obtain ⟨c8, H⟩ := peel H
   refine Opl.idv (M := (cInt .i64)) (xs := (x5_1.set x12_1.toNat 2)) (j := x12_1) (v := pv2) h6 rfl rfl (by first | omega | (simp only [List.length_set] at *; omega)) (by first | omega | (simp only [List.length_set] at *; omega)) K26 Z3 rfl rfl ?_
   rintro d2 z2 q3 h10 h11
   refine Opl.stv (M := (cInt .i64)) (xs := (x5_1.set x12_1.toNat 2)) (j := x12_1) (y := (rd l0 x12_1)) (vs := [.lit (.int .i64 (rd l0 x12_1))]) h10 h11 (by first | omega | (simp only [List.length_set] at *; omega)) (by first | omega | (simp only [List.length_set] at *; omega)) rfl rfl (by exact rfl) Z3 rfl rfl rfl rfl ?_
   rw [← q3]
   rintro S h12 u3
   refine Opl.nil ?_
   exact hk1 _ _ ⟨_, _, _, H, by omega, ⟨rfl, rfl, rfl, rfl, rfl, trivial⟩, h12⟩
theorem impl_Widened.ev {k : Nat} {l0_0 : List IVar} {v0_0 : PV} (hv0_0 : Sl cIVar l0_0 v0_0) {l0_1 : List IRule} {v0_1 : PV} (hv0_1 : Sl cIRule l0_1 v0_1) {l1 : List Int} {v1 : PV} (hv1 : Sl (cInt .i64) l1 v1) {l2 : List Int} {v2 : PV} (hv2 : Sl (cInt .i64) l2 v2) {r : (List Int)} (H : impl_Widened.f k l0_0 l0_1 l1 l2 = some r) : Ret Try.prog 55 [.agg [v0_0, v0_1], v1, v2] fun v S => Vec (cInt .i64) r v S := by
 unfold impl_Widened.f at H
 refine Ret.intro Try.func55 rfl (Nat.le_of_ble_eq_true rfl) rfl ?_
 rw [tm3]
 refine Evr.seq (Evr.regionN rfl (Opl.box (cs := [v0_0, v0_1]) rfl rfl rfl rfl ?_))
 rintro i1 S h1 u1 w1
 refine Opl.one rfl rfl (by simp only [go_sem]; rfl) (Opl.nil (Evr.seq (Evr.seq (Evr.regionN rfl (Opl.ldb (v := .agg [v0_0, v0_1]) h1 rfl T32 rfl rfl rfl rfl (Opl.one rfl rfl (by simp only [go_sem]; rfl) ?_))))))
 obtain ⟨r1, h_r1, H⟩ := Option.bind_eq_some_iff.1 H
 refine Opl.callc (impl_SetValid.ev hv0_0 hv0_1 hv2 h_r1) rfl rfl rfl rfl ⟨(.aggL ⟨hv0_0.plain, hv0_1.plain, trivial⟩), hv2.plain, trivial⟩ (by decide) (Opl.one rfl rfl (by simp only [go_sem]; rfl) (Opl.one rfl rfl (by simp only [go_sem]; rfl) ?_))
 by_cases c1 : r1 = true
 case neg =>
  rw [if_neg c1] at H
  have e4 : (!r1) = true := by simpa using c1
  try rw [e4]
  refine Opl.skp rfl (Opl.skp rfl (Opl.skp rfl (Opl.skp rfl (Opl.skp rfl (Opl.one rfl rfl (by simp only [go_sem]; rfl) (Opl.nil (Evr.condT rfl (Evr.seq (Evr.regionN rfl (Opl.one rfl rfl (by simp only [go_sem]; rfl) (Opl.nil ?_)))))))))))
  obtain rfl := Option.some.inj H
  refine Evr.ret1 Try.func55 rfl ?_
  show Vec _ _ (.lit (.slice none 0 0)) _
  exact .nil
 rw [if_pos c1] at H
 have e1 : (!r1) = false := by simpa using c1
 try rw [e1]
 refine Opl.one rfl rfl (by simp only [go_sem]; rfl) (Opl.ldb (v := .agg [v0_0, v0_1]) h1 rfl T32 rfl rfl rfl rfl ?_)
 obtain ⟨r2, h_r2, H⟩ := Option.bind_eq_some_iff.1 H
 refine Opl.callc (impl_bitCount.ev hv0_0 hv0_1 h_r2) rfl rfl rfl rfl ⟨(.aggL ⟨hv0_0.plain, hv0_1.plain, trivial⟩), trivial⟩ (by decide) ?_
 obtain ⟨r3, h_r3, H⟩ := Option.bind_eq_some_iff.1 H
 refine Opl.callc (impl_CubeValid.ev hv1 h_r3) rfl rfl rfl rfl ⟨hv1.plain, (.lit _), trivial⟩ (by decide) (Opl.one rfl rfl (by simp only [go_sem]; rfl) (Opl.one rfl rfl (by simp only [go_sem]; rfl) (Opl.nil ?_)))
 by_cases c2 : r3 = true
 case neg =>
  rw [if_neg c2] at H
  have e3 : (!r3) = true := by simpa using c2
  try rw [e3]
  refine Evr.condT rfl (Evr.seq (Evr.regionN rfl (Opl.one rfl rfl (by simp only [go_sem]; rfl) (Opl.nil ?_))))
  obtain rfl := Option.some.inj H
  refine Evr.ret1 Try.func55 rfl ?_
  show Vec _ _ (.lit (.slice none 0 0)) _
  exact .nil
 rw [if_pos c2] at H
 have e2 : (!r3) = false := by simpa using c2
 try rw [e2]
 refine Evr.condF rfl (Evr.skip (Evr.seq (Evr.regionN rfl (Opl.one rfl rfl (by simp only [go_sem]; rfl) (Opl.ldb (v := .agg [v0_0, v0_1]) h1 rfl T32 rfl rfl rfl rfl (Opl.one rfl rfl (by simp only [go_sem]; rfl) ?_))))))
 obtain ⟨r4, h_r4, H⟩ := Option.bind_eq_some_iff.1 H
 refine Opl.call ((impl_allBits.ev hv0_0 hv0_1 hv2 h_r4).mono fun _ _ h => Out.vec h) rfl rfl rfl rfl ⟨(.aggL ⟨hv0_0.plain, hv0_1.plain, trivial⟩), hv2.plain, trivial⟩ (by decide) ?_
 rintro pv1 h2
 obtain ⟨r5, h_r5, H⟩ := Option.bind_eq_some_iff.1 H
 refine Opl.call (impl_hasNone.ev h2 h_r5) rfl rfl rfl rfl ⟨h2.plain, trivial⟩ (by decide) ?_
 rintro _ ⟨pv3, rfl, h4⟩
 obtain ⟨r6, h_r6, H⟩ := Option.bind_eq_some_iff.1 H
 refine Opl.calla (impl_widened_at_impl_hasNone_1.ev hv1 h4 h_r6) rfl rfl rfl rfl ⟨hv1.plain, (.fnL ⟨(.felL ⟨h4.plain, trivial⟩), trivial⟩), trivial⟩ rfl ?_
 rintro pv4 S h5 u2 w2
 have ap1 := w2.box h1
 have h6 := u2.box h1 ap1
 refine Opl.one rfl rfl (by simp only [go_sem]; rfl) (Opl.nil ?_)
 obtain rfl := Option.some.inj H
 refine Evr.ret1 Try.func55 rfl ?_
 show Vec _ _ pv4 _
 exact h5
end Go.Proofs.Ytblhlpllkpcolaa.PA
end
