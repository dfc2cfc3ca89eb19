/- Walks of Go functions: each is shown to answer as the Lean function beside it tells, under the conditions that its theorem names. -/
import Derived.Test.YtndmhmekmkgccaaProg
import Derived.Below
import Derived.Deep.Draws
import Derived.Deep.AppendLies
import Derived.Maps.AppendAt
import Derived.OwnWalk
import Derived.Laws.BytesArg
import Derived.Laws.MakeOwn
import Derived.Laws.OwnMore
import Derived.Deep.OwnRows
import Derived.Tactics
import Derived.Lib.ConvBytes
import Derived.Laws.Slices
import Derived.WalkKit
import Derived.KernelRfl
import Derived.RowKit3
import Derived.Deep.LoopGhost
import Derived.Deep.QuietTactic
import Derived.BigQuiet
import Derived.WideLaws
import Derived.Deep.DeepCutAuto
import Derived.Deep.CutBlock
import Derived.Deep.RegionHeld3
import Derived.Laws.Rows
import Derived.Lib.AppendStr
import Derived.ArgAppend
import Derived.Laws.IdiomCopy
import Derived.OrdersHeld
import Derived.Laws.BitsLemmas
import Derived.RowKit
import Derived.Laws.StructEq
import Derived.Test.YtndmhmekmkgccaaKW4d027f6008
section
namespace Go.Proofs.Ytndmhmekmkgccaa.PFnExactInRange
open Go.RowKit Go.Proofs.YtndmhmekmkgccaaW.PrintWords Go.Proofs.YtndmhmekmkgccaaW.PrintLast Go.Proofs.YtndmhmekmkgccaaW.PrintMore
attribute [local go_sem] max2_int min2_int max_two min_two max_three min_three max_four min_four   -- for this text's walks alone
set_option linter.unusedVariables false
set_option linter.unusedSimpArgs false
theorem info3 : (Try.prog.info? 3).map (fun i => (i.zero, i.size, i.bytes)) = some (some (.int .i64 0), 1, 8) := by kernel_rfl
theorem info57 : (Try.prog.info? 57).map (fun i => (i.zero, i.size, i.bytes)) = some (some (.slice none 0 0), 1, 24) := by kernel_rfl
theorem info107 : (Try.prog.info? 107).map (fun i => (i.zero, i.size, i.bytes)) = some (some (.agg #[(.int .i64 0), (.int .i64 0), (.int .i64 0), (.int .i64 0)]), 4, 32) := by kernel_rfl
theorem info141 : (Try.prog.info? 141).map (fun i => (i.zero, i.size, i.bytes)) = some (some (.agg #[(.int .i64 0), (.int .i64 0), (.int .i64 0)]), 3, 24) := by kernel_rfl
theorem info145 : (Try.prog.info? 145).map (fun i => (i.zero, i.size, i.bytes)) = some (some (.agg #[(.slice none 0 0), (.slice none 0 0), (.slice none 0 0)]), 3, 72) := by kernel_rfl
structure LVar where
  f0 : Int
  f1 : Int
  f2 : Int
def zLVar : LVar := ⟨(0 : Int), (0 : Int), (0 : Int)⟩
def k147 : Kd LVar := Kd.iso (Kd.pair (Kd.int .i64) (Kd.pair (Kd.int .i64) (Kd.int .i64))) (fun x : LVar => (x.f0, x.f1, x.f2))
theorem k147_open {w : World} {x : LVar} {cs : List Value} (h : k147.K w x cs) : cs = [.int .i64 x.f0, .int .i64 x.f1, .int .i64 x.f2] := by
  obtain ⟨_, _, rfl, rfl, ⟨_, _, rfl, rfl, rfl⟩⟩ := h
  exact rfl
def rd_LVar (xs : List LVar) (i : Int) : LVar := xs.getD i.toNat zLVar
theorem at_LVar {w : World} {A : Option Addr} {n : Nat} {xs : List LVar} (h : Kd.C k147 w A n xs) (i : Int) (h0 : 0 ≤ i) (h1 : i < n) : ∃ ad , A = some ad ∧ w.cell? (ad.add (i.toNat * 3)) = some (.int .i64 (rd_LVar xs i).f0) ∧ w.cell? ⟨(ad.add (i.toNat * 3)).block, (ad.add (i.toNat * 3)).off + 1, none⟩ = some (.int .i64 (rd_LVar xs i).f1) ∧ w.cell? ⟨(ad.add (i.toNat * 3)).block, (ad.add (i.toNat * 3)).off + 2, none⟩ = some (.int .i64 (rd_LVar xs i).f2) := by
  obtain ⟨ad, c, e, _, hK, hc0⟩ := Kd.C_get h zLVar i h0 h1
  have hc : ∀ j u, c[j]? = some u → w.cell? (ad.add (i.toNat * 3 + j)) = some u := hc0
  obtain rfl := k147_open hK
  exact ⟨ad, e, hc 0 _ rfl, by rw [← add_field _ _ 1 (by omega)]; exact hc 1 _ rfl, by rw [← add_field _ _ 2 (by omega)]; exact hc 2 _ rfl⟩
structure LTerm where
  f0 : Int
  f1 : Int
  f2 : Int
  f3 : Int
def zLTerm : LTerm := ⟨(0 : Int), (0 : Int), (0 : Int), (0 : Int)⟩
def k180 : Kd LTerm := Kd.iso (Kd.pair (Kd.int .i64) (Kd.pair (Kd.int .i64) (Kd.pair (Kd.int .i64) (Kd.int .i64)))) (fun x : LTerm => (x.f0, x.f1, x.f2, x.f3))
theorem k180_open {w : World} {x : LTerm} {cs : List Value} (h : k180.K w x cs) : cs = [.int .i64 x.f0, .int .i64 x.f1, .int .i64 x.f2, .int .i64 x.f3] := by
  obtain ⟨_, _, rfl, rfl, ⟨_, _, rfl, rfl, ⟨_, _, rfl, rfl, rfl⟩⟩⟩ := h
  exact rfl
def rd_LTerm (xs : List LTerm) (i : Int) : LTerm := xs.getD i.toNat zLTerm
theorem at_LTerm {w : World} {A : Option Addr} {n : Nat} {xs : List LTerm} (h : Kd.C k180 w A n xs) (i : Int) (h0 : 0 ≤ i) (h1 : i < n) : ∃ ad , A = some ad ∧ w.cell? (ad.add (i.toNat * 4)) = some (.int .i64 (rd_LTerm xs i).f0) ∧ w.cell? ⟨(ad.add (i.toNat * 4)).block, (ad.add (i.toNat * 4)).off + 1, none⟩ = some (.int .i64 (rd_LTerm xs i).f1) ∧ w.cell? ⟨(ad.add (i.toNat * 4)).block, (ad.add (i.toNat * 4)).off + 2, none⟩ = some (.int .i64 (rd_LTerm xs i).f2) ∧ w.cell? ⟨(ad.add (i.toNat * 4)).block, (ad.add (i.toNat * 4)).off + 3, none⟩ = some (.int .i64 (rd_LTerm xs i).f3) := by
  obtain ⟨ad, c, e, _, hK, hc0⟩ := Kd.C_get h zLTerm i h0 h1
  have hc : ∀ j u, c[j]? = some u → w.cell? (ad.add (i.toNat * 4 + j)) = some u := hc0
  obtain rfl := k180_open hK
  exact ⟨ad, e, hc 0 _ rfl, by rw [← add_field _ _ 1 (by omega)]; exact hc 1 _ rfl, by rw [← add_field _ _ 2 (by omega)]; exact hc 2 _ rfl, by rw [← add_field _ _ 3 (by omega)]; exact hc 3 _ rfl⟩
def rd_LLTerm (xs : List (List LTerm)) (i : Int) : (List LTerm) := xs.getD i.toNat ([] : List LTerm)
theorem at_LLTerm {w : World} {A : Option Addr} {n : Nat} {xs : List (List LTerm)} (h : Kd.C (Kd.slice 180 k180) w A n xs) (i : Int) (h0 : 0 ≤ i) (h1 : i < n) : ∃ ad A0 c0, A = some ad ∧ w.cell? (ad.add i.toNat) = some (.slice A0 (rd_LLTerm xs i).length c0) ∧ (rd_LLTerm xs i).length ≤ c0 ∧ k180.C w A0 (rd_LLTerm xs i).length (rd_LLTerm xs i) := by
  obtain ⟨ad, c, e, _, hK, hc0⟩ := Kd.C_get h ([] : List LTerm) i h0 h1
  have hc : ∀ j u, c[j]? = some u → w.cell? (ad.add (i.toNat * 1 + j)) = some u := hc0
  obtain ⟨A0, c0, rfl, l0, g0⟩ := hK
  exact ⟨ad, A0, c0, e, by have hq := hc 0 _ rfl; rwa [Nat.mul_one, Nat.add_zero] at hq, l0, g0⟩
structure LRule where
  f0 : (List LTerm)
  f1 : (List Int)
  f2 : (List (List LTerm))
def zLRule : LRule := ⟨([] : List LTerm), ([] : List Int), ([] : List (List LTerm))⟩
def k138 : Kd LRule := Kd.iso (Kd.pair (Kd.slice 180 k180) (Kd.pair (Kd.slice 3 (Kd.int .i64)) (Kd.slice 135 (Kd.slice 180 k180)))) (fun x : LRule => (x.f0, x.f1, x.f2))
theorem k138_open {w : World} {x : LRule} {cs : List Value} (h : k138.K w x cs) : ∃ A0 c0 A1 c1 A2 c2, cs = [.slice A0 x.f0.length c0, .slice A1 x.f1.length c1, .slice A2 x.f2.length c2] ∧ x.f0.length ≤ c0 ∧ k180.C w A0 x.f0.length x.f0 ∧ x.f1.length ≤ c1 ∧ (Kd.int .i64).C w A1 x.f1.length x.f1 ∧ x.f2.length ≤ c2 ∧ (Kd.slice 180 k180).C w A2 x.f2.length x.f2 := by
  obtain ⟨_, _, rfl, ⟨A0, c0, rfl, l0, g0⟩, ⟨_, _, rfl, ⟨A1, c1, rfl, l1, g1⟩, ⟨A2, c2, rfl, l2, g2⟩⟩⟩ := h
  exact ⟨A0, c0, A1, c1, A2, c2, rfl, l0, g0, l1, g1, l2, g2⟩
def rd_LRule (xs : List LRule) (i : Int) : LRule := xs.getD i.toNat zLRule
theorem at_LRule {w : World} {A : Option Addr} {n : Nat} {xs : List LRule} (h : Kd.C k138 w A n xs) (i : Int) (h0 : 0 ≤ i) (h1 : i < n) : ∃ ad A0 c0 A1 c1 A2 c2, A = some ad ∧ w.cell? (ad.add (i.toNat * 3)) = some (.slice A0 (rd_LRule xs i).f0.length c0) ∧ w.cell? ⟨(ad.add (i.toNat * 3)).block, (ad.add (i.toNat * 3)).off + 1, none⟩ = some (.slice A1 (rd_LRule xs i).f1.length c1) ∧ w.cell? ⟨(ad.add (i.toNat * 3)).block, (ad.add (i.toNat * 3)).off + 2, none⟩ = some (.slice A2 (rd_LRule xs i).f2.length c2) ∧ (rd_LRule xs i).f0.length ≤ c0 ∧ k180.C w A0 (rd_LRule xs i).f0.length (rd_LRule xs i).f0 ∧ (rd_LRule xs i).f1.length ≤ c1 ∧ (Kd.int .i64).C w A1 (rd_LRule xs i).f1.length (rd_LRule xs i).f1 ∧ (rd_LRule xs i).f2.length ≤ c2 ∧ (Kd.slice 180 k180).C w A2 (rd_LRule xs i).f2.length (rd_LRule xs i).f2 := by
  obtain ⟨ad, c, e, _, hK, hc0⟩ := Kd.C_get h zLRule i h0 h1
  have hc : ∀ j u, c[j]? = some u → w.cell? (ad.add (i.toNat * 3 + j)) = some u := hc0
  obtain ⟨A0, c0, A1, c1, A2, c2, rfl, l0, g0, l1, g1, l2, g2⟩ := k138_open hK
  exact ⟨ad, A0, c0, A1, c1, A2, c2, e, hc 0 _ rfl, by rw [← add_field _ _ 1 (by omega)]; exact hc 1 _ rfl, by rw [← add_field _ _ 2 (by omega)]; exact hc 2 _ rfl, l0, g0, l1, g1, l2, g2⟩
structure LSystem where
  f0 : (List LVar)
  f1 : (List LRule)
def zLSystem : LSystem := ⟨([] : List LVar), ([] : List LRule)⟩
def k37 : Kd LSystem := Kd.iso (Kd.pair (Kd.slice 147 k147) (Kd.slice 138 k138)) (fun x : LSystem => (x.f0, x.f1))
theorem k37_open {w : World} {x : LSystem} {cs : List Value} (h : k37.K w x cs) : ∃ A0 c0 A1 c1, cs = [.slice A0 x.f0.length c0, .slice A1 x.f1.length c1] ∧ x.f0.length ≤ c0 ∧ k147.C w A0 x.f0.length x.f0 ∧ x.f1.length ≤ c1 ∧ k138.C w A1 x.f1.length x.f1 := by
  obtain ⟨_, _, rfl, ⟨A0, c0, rfl, l0, g0⟩, ⟨A1, c1, rfl, l1, g1⟩⟩ := h
  exact ⟨A0, c0, A1, c1, rfl, l0, g0, l1, g1⟩
structure ITerm where
  f0 : Int
  f1 : Int
  f2 : Int
  f3 : Int
def zITerm : ITerm := ⟨(0 : Int), (0 : Int), (0 : Int), (0 : Int)⟩
def k107 : Kd ITerm := Kd.iso (Kd.pair (Kd.int .i64) (Kd.pair (Kd.int .i64) (Kd.pair (Kd.int .i64) (Kd.int .i64)))) (fun x : ITerm => (x.f0, x.f1, x.f2, x.f3))
theorem k107_open {w : World} {x : ITerm} {cs : List Value} (h : k107.K w x cs) : cs = [.int .i64 x.f0, .int .i64 x.f1, .int .i64 x.f2, .int .i64 x.f3] := by
  obtain ⟨_, _, rfl, rfl, ⟨_, _, rfl, rfl, ⟨_, _, rfl, rfl, rfl⟩⟩⟩ := h
  exact rfl
theorem k107_openM {w : World} {base : Nat} {ok : Nat → Prop} {x : ITerm} {cs : List Value} (h : k107.M w base ok x cs) : cs = [.int .i64 x.f0, .int .i64 x.f1, .int .i64 x.f2, .int .i64 x.f3] := by
  obtain ⟨_, _, rfl, rfl, ⟨_, _, rfl, rfl, ⟨_, _, rfl, rfl, rfl⟩⟩⟩ := h
  exact rfl
theorem k107_mkM (w : World) (base : Nat) (ok : Nat → Prop) (x : ITerm)  : k107.M w base ok x [.int .i64 x.f0, .int .i64 x.f1, .int .i64 x.f2, .int .i64 x.f3] := ⟨[.int .i64 x.f0], [.int .i64 x.f1, .int .i64 x.f2, .int .i64 x.f3], rfl, rfl, ⟨[.int .i64 x.f1], [.int .i64 x.f2, .int .i64 x.f3], rfl, rfl, ⟨[.int .i64 x.f2], [.int .i64 x.f3], rfl, rfl, rfl⟩⟩⟩
def rd_ITerm (xs : List ITerm) (i : Int) : ITerm := xs.getD i.toNat zITerm
theorem at_ITerm {w : World} {A : Option Addr} {n : Nat} {xs : List ITerm} (h : Kd.C k107 w A n xs) (i : Int) (h0 : 0 ≤ i) (h1 : i < n) : ∃ ad , A = some ad ∧ w.cell? (ad.add (i.toNat * 4)) = some (.int .i64 (rd_ITerm xs i).f0) ∧ w.cell? ⟨(ad.add (i.toNat * 4)).block, (ad.add (i.toNat * 4)).off + 1, none⟩ = some (.int .i64 (rd_ITerm xs i).f1) ∧ w.cell? ⟨(ad.add (i.toNat * 4)).block, (ad.add (i.toNat * 4)).off + 2, none⟩ = some (.int .i64 (rd_ITerm xs i).f2) ∧ w.cell? ⟨(ad.add (i.toNat * 4)).block, (ad.add (i.toNat * 4)).off + 3, none⟩ = some (.int .i64 (rd_ITerm xs i).f3) := by
  obtain ⟨ad, c, e, _, hK, hc0⟩ := Kd.C_get h zITerm i h0 h1
  have hc : ∀ j u, c[j]? = some u → w.cell? (ad.add (i.toNat * 4 + j)) = some u := hc0
  obtain rfl := k107_open hK
  exact ⟨ad, e, hc 0 _ rfl, by rw [← add_field _ _ 1 (by omega)]; exact hc 1 _ rfl, by rw [← add_field _ _ 2 (by omega)]; exact hc 2 _ rfl, by rw [← add_field _ _ 3 (by omega)]; exact hc 3 _ rfl⟩
def rd_LITerm (xs : List (List ITerm)) (i : Int) : (List ITerm) := xs.getD i.toNat ([] : List ITerm)
theorem at_LITerm {w : World} {A : Option Addr} {n : Nat} {xs : List (List ITerm)} (h : Kd.C (Kd.slice 107 k107) w A n xs) (i : Int) (h0 : 0 ≤ i) (h1 : i < n) : ∃ ad A0 c0, A = some ad ∧ w.cell? (ad.add i.toNat) = some (.slice A0 (rd_LITerm xs i).length c0) ∧ (rd_LITerm xs i).length ≤ c0 ∧ k107.C w A0 (rd_LITerm xs i).length (rd_LITerm xs i) := by
  obtain ⟨ad, c, e, _, hK, hc0⟩ := Kd.C_get h ([] : List ITerm) i h0 h1
  have hc : ∀ j u, c[j]? = some u → w.cell? (ad.add (i.toNat * 1 + j)) = some u := hc0
  obtain ⟨A0, c0, rfl, l0, g0⟩ := hK
  exact ⟨ad, A0, c0, e, by have hq := hc 0 _ rfl; rwa [Nat.mul_one, Nat.add_zero] at hq, l0, g0⟩
structure IVar where
  f0 : Int
  f1 : Int
  f2 : Int
def zIVar : IVar := ⟨(0 : Int), (0 : Int), (0 : Int)⟩
def k141 : Kd IVar := Kd.iso (Kd.pair (Kd.int .i64) (Kd.pair (Kd.int .i64) (Kd.int .i64))) (fun x : IVar => (x.f0, x.f1, x.f2))
theorem k141_open {w : World} {x : IVar} {cs : List Value} (h : k141.K w x cs) : cs = [.int .i64 x.f0, .int .i64 x.f1, .int .i64 x.f2] := by
  obtain ⟨_, _, rfl, rfl, ⟨_, _, rfl, rfl, rfl⟩⟩ := h
  exact rfl
theorem k141_openM {w : World} {base : Nat} {ok : Nat → Prop} {x : IVar} {cs : List Value} (h : k141.M w base ok x cs) : cs = [.int .i64 x.f0, .int .i64 x.f1, .int .i64 x.f2] := by
  obtain ⟨_, _, rfl, rfl, ⟨_, _, rfl, rfl, rfl⟩⟩ := h
  exact rfl
theorem k141_mkM (w : World) (base : Nat) (ok : Nat → Prop) (x : IVar)  : k141.M w base ok x [.int .i64 x.f0, .int .i64 x.f1, .int .i64 x.f2] := ⟨[.int .i64 x.f0], [.int .i64 x.f1, .int .i64 x.f2], rfl, rfl, ⟨[.int .i64 x.f1], [.int .i64 x.f2], rfl, rfl, rfl⟩⟩
def rd_IVar (xs : List IVar) (i : Int) : IVar := xs.getD i.toNat zIVar
theorem at_IVar {w : World} {A : Option Addr} {n : Nat} {xs : List IVar} (h : Kd.C k141 w A n xs) (i : Int) (h0 : 0 ≤ i) (h1 : i < n) : ∃ ad , A = some ad ∧ w.cell? (ad.add (i.toNat * 3)) = some (.int .i64 (rd_IVar xs i).f0) ∧ w.cell? ⟨(ad.add (i.toNat * 3)).block, (ad.add (i.toNat * 3)).off + 1, none⟩ = some (.int .i64 (rd_IVar xs i).f1) ∧ w.cell? ⟨(ad.add (i.toNat * 3)).block, (ad.add (i.toNat * 3)).off + 2, none⟩ = some (.int .i64 (rd_IVar xs i).f2) := by
  obtain ⟨ad, c, e, _, hK, hc0⟩ := Kd.C_get h zIVar i h0 h1
  have hc : ∀ j u, c[j]? = some u → w.cell? (ad.add (i.toNat * 3 + j)) = some u := hc0
  obtain rfl := k141_open hK
  exact ⟨ad, e, hc 0 _ rfl, by rw [← add_field _ _ 1 (by omega)]; exact hc 1 _ rfl, by rw [← add_field _ _ 2 (by omega)]; exact hc 2 _ rfl⟩
structure IRule where
  f0 : (List ITerm)
  f1 : (List Int)
  f2 : (List (List ITerm))
def zIRule : IRule := ⟨([] : List ITerm), ([] : List Int), ([] : List (List ITerm))⟩
def k145 : Kd IRule := Kd.iso (Kd.pair (Kd.slice 107 k107) (Kd.pair (Kd.slice 3 (Kd.int .i64)) (Kd.slice 57 (Kd.slice 107 k107)))) (fun x : IRule => (x.f0, x.f1, x.f2))
theorem k145_open {w : World} {x : IRule} {cs : List Value} (h : k145.K w x cs) : ∃ A0 c0 A1 c1 A2 c2, cs = [.slice A0 x.f0.length c0, .slice A1 x.f1.length c1, .slice A2 x.f2.length c2] ∧ x.f0.length ≤ c0 ∧ k107.C w A0 x.f0.length x.f0 ∧ x.f1.length ≤ c1 ∧ (Kd.int .i64).C w A1 x.f1.length x.f1 ∧ x.f2.length ≤ c2 ∧ (Kd.slice 107 k107).C w A2 x.f2.length x.f2 := by
  obtain ⟨_, _, rfl, ⟨A0, c0, rfl, l0, g0⟩, ⟨_, _, rfl, ⟨A1, c1, rfl, l1, g1⟩, ⟨A2, c2, rfl, l2, g2⟩⟩⟩ := h
  exact ⟨A0, c0, A1, c1, A2, c2, rfl, l0, g0, l1, g1, l2, g2⟩
theorem k145_openM {w : World} {base : Nat} {ok : Nat → Prop} {x : IRule} {cs : List Value} (h : k145.M w base ok x cs) : ∃ v0 v1 v2, cs = [v0, v1, v2] ∧ k107.R 107 w base ok v0 x.f0 ∧ (Kd.int .i64).R 3 w base ok v1 x.f1 ∧ (Kd.slice 107 k107).R 57 w base ok v2 x.f2 := by
  obtain ⟨_, _, rfl, ⟨v0, rfl, g0⟩, ⟨_, _, rfl, ⟨v1, rfl, g1⟩, ⟨v2, rfl, g2⟩⟩⟩ := h
  exact ⟨v0, v1, v2, rfl, g0, g1, g2⟩
theorem k145_mkM (w : World) (base : Nat) (ok : Nat → Prop) (x : IRule) {v0 : Value} (g0 : k107.R 107 w base ok v0 x.f0) {v1 : Value} (g1 : (Kd.int .i64).R 3 w base ok v1 x.f1) {v2 : Value} (g2 : (Kd.slice 107 k107).R 57 w base ok v2 x.f2) : k145.M w base ok x [v0, v1, v2] := ⟨[v0], [v1, v2], rfl, ⟨v0, rfl, g0⟩, ⟨[v1], [v2], rfl, ⟨v1, rfl, g1⟩, ⟨v2, rfl, g2⟩⟩⟩
def rd_IRule (xs : List IRule) (i : Int) : IRule := xs.getD i.toNat zIRule
theorem at_IRule {w : World} {A : Option Addr} {n : Nat} {xs : List IRule} (h : Kd.C k145 w A n xs) (i : Int) (h0 : 0 ≤ i) (h1 : i < n) : ∃ ad A0 c0 A1 c1 A2 c2, A = some ad ∧ w.cell? (ad.add (i.toNat * 3)) = some (.slice A0 (rd_IRule xs i).f0.length c0) ∧ w.cell? ⟨(ad.add (i.toNat * 3)).block, (ad.add (i.toNat * 3)).off + 1, none⟩ = some (.slice A1 (rd_IRule xs i).f1.length c1) ∧ w.cell? ⟨(ad.add (i.toNat * 3)).block, (ad.add (i.toNat * 3)).off + 2, none⟩ = some (.slice A2 (rd_IRule xs i).f2.length c2) ∧ (rd_IRule xs i).f0.length ≤ c0 ∧ k107.C w A0 (rd_IRule xs i).f0.length (rd_IRule xs i).f0 ∧ (rd_IRule xs i).f1.length ≤ c1 ∧ (Kd.int .i64).C w A1 (rd_IRule xs i).f1.length (rd_IRule xs i).f1 ∧ (rd_IRule xs i).f2.length ≤ c2 ∧ (Kd.slice 107 k107).C w A2 (rd_IRule xs i).f2.length (rd_IRule xs i).f2 := by
  obtain ⟨ad, c, e, _, hK, hc0⟩ := Kd.C_get h zIRule i h0 h1
  have hc : ∀ j u, c[j]? = some u → w.cell? (ad.add (i.toNat * 3 + j)) = some u := hc0
  obtain ⟨A0, c0, A1, c1, A2, c2, rfl, l0, g0, l1, g1, l2, g2⟩ := k145_open hK
  exact ⟨ad, A0, c0, A1, c1, A2, c2, e, hc 0 _ rfl, by rw [← add_field _ _ 1 (by omega)]; exact hc 1 _ rfl, by rw [← add_field _ _ 2 (by omega)]; exact hc 2 _ rfl, l0, g0, l1, g1, l2, g2⟩
end Go.Proofs.Ytndmhmekmkgccaa.PFnExactInRange
end
section
namespace Go.Proofs.Ytndmhmekmkgccaa.PFnExactInRange
open Go.RowKit Go.Proofs.YtndmhmekmkgccaaW.PrintWords Go.Proofs.YtndmhmekmkgccaaW.PrintLast Go.Proofs.YtndmhmekmkgccaaW.PrintMore
attribute [local go_sem] max2_int min2_int max_two min_two max_three min_three max_four min_four   -- for this text's walks alone
set_option linter.unusedVariables false
set_option linter.unusedSimpArgs false
def laws_szVarS.f (l0 : List (LVar)) (a1 : Int) : Option (Int) := if (wrap64 (a1 - (l0.length : Int))) < 0 then (some (-1)) else (some (wrap64 (a1 - (l0.length : Int))))
def laws_szTermS.f (l0 : List (LTerm)) (a1 : Int) : Option (Int) := if (wrap64 (a1 - (l0.length : Int))) < 0 then (some (-1)) else (some (wrap64 (a1 - (l0.length : Int))))
def laws_szIntS.f (l0 : List Int) (a1 : Int) : Option (Int) := if (wrap64 (a1 - (l0.length : Int))) < 0 then (some (-1)) else (some (wrap64 (a1 - (l0.length : Int))))
def laws_szTermSS.l0 : Nat → List (List (LTerm)) → Int → Int → Option (Int)
  | 0, _, _, _ => none
  | k + 1, x0, x1, x5 => if x5 < (x0.length : Int) then (if 0 ≤ x5 then ((laws_szTermS.f (rd_LLTerm x0 x5) x1).bind fun t102 => (if t102 < 0 then (some (-1)) else (laws_szTermSS.l0 k x0 t102 (wrap64 (x5 + 1))))) else (none)) else (some x1)
def laws_szTermSS.f (k : Nat) (l0 : List (List (LTerm))) (a1 : Int) : Option (Int) := if (wrap64 (a1 - (l0.length : Int))) < 0 then (some (-1)) else (laws_szTermSS.l0 k l0 (wrap64 (a1 - (l0.length : Int))) 0)
def laws_szRule.f (k : Nat) (l0_0 : List (LTerm)) (l0_1 : List Int) (l0_2 : List (List (LTerm))) (a1 : Int) : Option (Int) := (laws_szTermS.f l0_0 a1).bind fun t104 => (if t104 < 0 then (some (-1)) else ((laws_szIntS.f l0_1 t104).bind fun t105 => (if t105 < 0 then (some (-1)) else ((laws_szTermSS.f k l0_2 t105).bind fun t106 => (if t106 < 0 then (some (-1)) else (some t106))))))
def laws_szRuleS.l0 : Nat → List (LRule) → Int → Int → Option (Int)
  | 0, _, _, _ => none
  | k + 1, x0, x1, x5 => if x5 < (x0.length : Int) then (if 0 ≤ x5 then ((laws_szRule.f k ((rd_LRule x0 x5).f0) ((rd_LRule x0 x5).f1) ((rd_LRule x0 x5).f2) x1).bind fun t108 => (if t108 < 0 then (some (-1)) else (laws_szRuleS.l0 k x0 t108 (wrap64 (x5 + 1))))) else (none)) else (some x1)
def laws_szRuleS.f (k : Nat) (l0 : List (LRule)) (a1 : Int) : Option (Int) := if (wrap64 (a1 - (l0.length : Int))) < 0 then (some (-1)) else (laws_szRuleS.l0 k l0 (wrap64 (a1 - (l0.length : Int))) 0)
def laws_szSystem.f (k : Nat) (l0_0 : List (LVar)) (l0_1 : List (LRule)) (a1 : Int) : Option (Int) := (laws_szVarS.f l0_0 a1).bind fun t110 => (if t110 < 0 then (some (-1)) else ((laws_szRuleS.f k l0_1 t110).bind fun t111 => (if t111 < 0 then (some (-1)) else (some t111))))
def spec_l1In.f (a0 : Int) (a1 : Int) (a2 : Int) : Option (Bool) := if a0 ≥ a1 then (some (decide (a0 ≤ a2))) else (some false)
def spec_l2Var.f (a0_0 : Int) (a0_1 : Int) (a0_2 : Int) : Option (Bool) := (spec_l1In.f a0_0 (-9999) 9999).bind fun t113 => (if t113 = true then ((spec_l1In.f a0_1 a0_0 9999).bind fun t114 => (if t114 = true then (if (wrap64 (a0_1 - a0_0)) < 20 then ((spec_l1In.f a0_2 a0_0 a0_1).bind fun t115 => (some t115)) else (some false)) else (some false))) else (some false))
def spec_l1One.f (a0 : Int) : Option (Bool) := some (a0 == 7)
mutual
def spec_l1Kind.j0 : Nat → List Int → Int → Bool → Int → Int → Int → Int → Option (Int)
  | 0, _, _, _, _, _, _, _ => none
  | k + 1, x1, x2, x25, x117000, x117001, x117002, x117003 => if x25 = true then (some 1) else (if x117000 = 1 then ((spec_l1In.f x117001 0 (wrap64 (x2 - 1))).bind fun t118 => (if t118 = true then (if x117002 = 0 then (spec_l1Kind.j1 k x1 (x117003 == 0) x117000 x117001 x117002 x117003) else (spec_l1Kind.j1 k x1 false x117000 x117001 x117002 x117003)) else (spec_l1Kind.j1 k x1 false x117000 x117001 x117002 x117003))) else (spec_l1Kind.j1 k x1 false x117000 x117001 x117002 x117003))
def spec_l1Kind.j1 : Nat → List Int → Bool → Int → Int → Int → Int → Option (Int)
  | 0, _, _, _, _, _, _ => none
  | k + 1, x1, x45, x117000, x117001, x117002, x117003 => if x45 = true then (some 1) else ((spec_l1In.f x117000 2 9).bind fun t119 => (if t119 = true then (if x117001 = 0 then ((spec_l1In.f x117002 0 (wrap64 ((x1.length : Int) - 1))).bind fun t120 => (if t120 = true then ((spec_l1In.f x117003 0 (wrap64 ((x1.length : Int) - 1))).bind fun t121 => (spec_l1Kind.j2 k x1 (!t121) x117000 x117001 x117002 x117003)) else (spec_l1Kind.j2 k x1 true x117000 x117001 x117002 x117003))) else (spec_l1Kind.j2 k x1 true x117000 x117001 x117002 x117003)) else (spec_l1Kind.j2 k x1 true x117000 x117001 x117002 x117003)))
def spec_l1Kind.j2 : Nat → List Int → Bool → Int → Int → Int → Int → Option (Int)
  | 0, _, _, _, _, _, _ => none
  | k + 1, x1, x72, x117000, x117001, x117002, x117003 => if x72 = true then (some 0) else (if x117000 ≥ 7 then (spec_l1Kind.j3 k x1 2 x117000 x117001 x117002 x117003) else (spec_l1Kind.j3 k x1 1 x117000 x117001 x117002 x117003))
def spec_l1Kind.j3 : Nat → List Int → Int → Int → Int → Int → Int → Option (Int)
  | 0, _, _, _, _, _, _ => none
  | k + 1, x1, x7, x117000, x117001, x117002, x117003 => if 0 ≤ x117002 then (if x117002 < (x1.length : Int) then (if (rd x1 x117002) = x7 then (if 0 ≤ x117003 then (if x117003 < (x1.length : Int) then (if (rd x1 x117003) = x7 then ((spec_l1One.f x117000).bind fun t124 => (if t124 = true then (spec_l1Kind.j4 k (x117003 != x117002) x117000 x117001 x117002 x117003) else (spec_l1Kind.j4 k false x117000 x117001 x117002 x117003))) else (spec_l1Kind.j4 k true x117000 x117001 x117002 x117003)) else (none)) else (none)) else (spec_l1Kind.j4 k true x117000 x117001 x117002 x117003)) else (none)) else (none)
def spec_l1Kind.j4 : Nat → Bool → Int → Int → Int → Int → Option (Int)
  | 0, _, _, _, _, _ => none
  | k + 1, x103, x117000, x117001, x117002, x117003 => if x103 = true then (some 0) else (if x117000 ≥ 5 then (some 2) else (some 1))
end
def spec_l1Kind.f (k : Nat) (a0_0 : Int) (a0_1 : Int) (a0_2 : Int) (a0_3 : Int) (l1 : List Int) (a2 : Int) : Option (Int) := if a0_0 = 0 then ((spec_l1In.f a0_1 (-9999) 9999).bind fun t117 => (if t117 = true then (if a0_2 = 0 then (spec_l1Kind.j0 k l1 a2 (a0_3 == 0) a0_0 a0_1 a0_2 a0_3) else (spec_l1Kind.j0 k l1 a2 false a0_0 a0_1 a0_2 a0_3)) else (spec_l1Kind.j0 k l1 a2 false a0_0 a0_1 a0_2 a0_3))) else (spec_l1Kind.j0 k l1 a2 false a0_0 a0_1 a0_2 a0_3)
mutual
def spec_KindsOf.j0 : Nat → List (ITerm) → Int → Bool → Option (List Int)
  | 0, _, _, _ => none
  | k + 1, x0, x1, x16 => if x16 = true then (some ([] : List Int)) else (spec_KindsOf.l0 k x0 x1 (([] : List Int)) 0)
def spec_KindsOf.l0 : Nat → List (ITerm) → Int → List Int → Int → Option (List Int)
  | 0, _, _, _, _ => none
  | k + 1, x0, x1, x5, x6 => if x6 < (x0.length : Int) then (if 0 ≤ x6 then ((spec_l1Kind.f k ((rd_ITerm x0 x6).f0) ((rd_ITerm x0 x6).f1) ((rd_ITerm x0 x6).f2) ((rd_ITerm x0 x6).f3) x5 x1).bind fun t131 => (if t131 = 0 then (some ([] : List Int)) else (if x5.length < 17592186044416 then (spec_KindsOf.l0 k x0 x1 (x5 ++ [t131]) (wrap64 (x6 + 1))) else (none)))) else (none)) else (some x5)
end
def spec_KindsOf.f (k : Nat) (l0 : List (ITerm)) (a1 : Int) : Option (List Int) := (spec_l1In.f a1 0 5).bind fun t125 => (if t125 = true then ((spec_l1In.f (l0.length : Int) 1 40).bind fun t126 => (spec_KindsOf.j0 k l0 a1 (!t126))) else (spec_KindsOf.j0 k l0 a1 true))
def spec_l2Is.f (k : Nat) (l0 : List (ITerm)) (a1 : Int) (a2 : Int) : Option (Bool) := (spec_KindsOf.f k l0 a1).bind fun t135 => (if (t135.length : Int) > 0 then (if 0 ≤ (wrap64 ((t135.length : Int) - 1)) then (if (wrap64 ((t135.length : Int) - 1)) < (t135.length : Int) then (some ((rd t135 (wrap64 ((t135.length : Int) - 1))) == a2)) else (none)) else (none)) else (some false))
mutual
def spec_l2Rule.j0 : Nat → Int → Bool → List (ITerm) → List Int → List (List (ITerm)) → Option (Bool)
  | 0, _, _, _, _, _ => none
  | k + 1, x1, x26, x140000, x140001, x140002 => if x26 = true then (some false) else (spec_l2Rule.l0 k x1 0 x140000 x140001 x140002)
def spec_l2Rule.l0 : Nat → Int → Int → List (ITerm) → List Int → List (List (ITerm)) → Option (Bool)
  | 0, _, _, _, _, _ => none
  | k + 1, x1, x5, x140000, x140001, x140002 => if x5 < (x140001.length : Int) then (if 0 ≤ x5 then ((spec_l1In.f (rd x140001 x5) 0 (wrap64 (x1 - 1))).bind fun t142 => (if t142 = true then (if x5 > 0 then (if 0 ≤ (wrap64 (x5 - 1)) then (if (wrap64 (x5 - 1)) < (x140001.length : Int) then (if (rd x140001 x5) ≤ (rd x140001 (wrap64 (x5 - 1))) then (spec_l2Rule.j2 k x1 x5 true x140000 x140001 x140002) else (if x5 < (x140002.length : Int) then ((spec_l2Is.f k (rd_LITerm x140002 x5) x1 1).bind fun t146 => (spec_l2Rule.j2 k x1 x5 (!t146) x140000 x140001 x140002)) else (none))) else (none)) else (none)) else (if x5 < (x140002.length : Int) then ((spec_l2Is.f k (rd_LITerm x140002 x5) x1 1).bind fun t148 => (spec_l2Rule.j2 k x1 x5 (!t148) x140000 x140001 x140002)) else (none))) else (spec_l2Rule.j2 k x1 x5 true x140000 x140001 x140002))) else (none)) else (some true)
def spec_l2Rule.j2 : Nat → Int → Int → Bool → List (ITerm) → List Int → List (List (ITerm)) → Option (Bool)
  | 0, _, _, _, _, _, _ => none
  | k + 1, x1, x5, x70, x140000, x140001, x140002 => if x70 = true then (some false) else (spec_l2Rule.l0 k x1 (wrap64 (x5 + 1)) x140000 x140001 x140002)
end
def spec_l2Rule.f (k : Nat) (l0_0 : List (ITerm)) (l0_1 : List Int) (l0_2 : List (List (ITerm))) (a1 : Int) : Option (Bool) := (spec_l2Is.f k l0_0 a1 2).bind fun t140 => (if t140 = true then (if (l0_1.length : Int) = (l0_2.length : Int) then (spec_l2Rule.j0 k a1 (decide ((l0_1.length : Int) > a1)) l0_0 l0_1 l0_2) else (spec_l2Rule.j0 k a1 true l0_0 l0_1 l0_2)) else (spec_l2Rule.j0 k a1 true l0_0 l0_1 l0_2))
mutual
def spec_SystemValid.j0 : Nat → Bool → List (IVar) → List (IRule) → Option (Bool)
  | 0, _, _, _ => none
  | k + 1, x16, x150000, x150001 => if x16 = true then (some false) else (spec_SystemValid.l0 k 1 0 x150000 x150001)
def spec_SystemValid.l0 : Nat → Int → Int → List (IVar) → List (IRule) → Option (Bool)
  | 0, _, _, _, _ => none
  | k + 1, x3, x4, x150000, x150001 => if x4 < (x150000.length : Int) then (if 0 ≤ x4 then ((spec_l2Var.f ((rd_IVar x150000 x4).f0) ((rd_IVar x150000 x4).f1) ((rd_IVar x150000 x4).f2)).bind fun t152 => (if t152 = true then (spec_SystemValid.l0 k (wrap64 (x3 * (wrap64 ((wrap64 (((rd_IVar x150000 x4).f1) - ((rd_IVar x150000 x4).f0))) + 1)))) (wrap64 (x4 + 1)) x150000 x150001) else (some false))) else (none)) else (spec_SystemValid.l1 k x3 0 x150000 x150001)
def spec_SystemValid.l1 : Nat → Int → Int → List (IVar) → List (IRule) → Option (Bool)
  | 0, _, _, _, _ => none
  | k + 1, x3, x5, x150000, x150001 => if x5 < (x150001.length : Int) then (if 0 ≤ x5 then ((spec_l2Rule.f k ((rd_IRule x150001 x5).f0) ((rd_IRule x150001 x5).f1) ((rd_IRule x150001 x5).f2) (x150000.length : Int)).bind fun t156 => (if t156 = true then (spec_SystemValid.l1 k x3 (wrap64 (x5 + 1)) x150000 x150001) else (some false))) else (none)) else (some (decide (x3 ≤ 400)))
end
def spec_SystemValid.f (k : Nat) (l0_0 : List (IVar)) (l0_1 : List (IRule)) : Option (Bool) := (spec_l1In.f (l0_0.length : Int) 1 5).bind fun t150 => (if t150 = true then (spec_SystemValid.j0 k (decide ((l0_1.length : Int) > 8)) l0_0 l0_1) else (spec_SystemValid.j0 k true l0_0 l0_1))
def spec_l2In.l0 : Nat → List Int → Int → List (IVar) → List (IRule) → Option (Bool)
  | 0, _, _, _, _ => none
  | k + 1, x1, x5, x158000, x158001 => if x5 < (x1.length : Int) then (if 0 ≤ x5 then (if x5 < (x158000.length : Int) then ((spec_l1In.f (rd x1 x5) ((rd_IVar x158000 x5).f0) ((rd_IVar x158000 x5).f1)).bind fun t161 => (if t161 = true then (spec_l2In.l0 k x1 (wrap64 (x5 + 1)) x158000 x158001) else (some false))) else (none)) else (none)) else (some true)
def spec_l2In.f (k : Nat) (l0_0 : List (IVar)) (l0_1 : List (IRule)) (l1 : List Int) : Option (Bool) := if (l1.length : Int) = (l0_0.length : Int) then (spec_l2In.l0 k l1 0 l0_0 l0_1) else (some false)
def spec_InRange.f (k : Nat) (l0_0 : List (IVar)) (l0_1 : List (IRule)) (l1 : List Int) : Option (Bool) := (spec_SystemValid.f k l0_0 l0_1).bind fun t163 => (if t163 = true then ((spec_l2In.f k l0_0 l0_1 l1).bind fun t164 => (some t164)) else (some false))
def laws_toVar.f (a0_0 : Int) (a0_1 : Int) (a0_2 : Int) : Option (Int × Int × Int) := some (a0_0, a0_1, a0_2)
def laws_toVarS.l0 : Nat → List (LVar) → List (IVar) → Int → Option ((List (IVar)))
  | 0, _, _, _ => none
  | k + 1, x0, x3, x4 => if x4 < (x0.length : Int) then (if 0 ≤ x4 then ((laws_toVar.f ((rd_LVar x0 x4).f0) ((rd_LVar x0 x4).f1) ((rd_LVar x0 x4).f2)).bind fun bt172 => (if x4 < (x3.length : Int) then (laws_toVarS.l0 k x0 (x3.set (x4 : Int).toNat (⟨bt172.1, bt172.2.1, bt172.2.2⟩ : IVar)) (wrap64 (x4 + 1))) else (none))) else (none)) else (some x3)
def laws_toVarS.f (k : Nat) (l0 : List (LVar)) : Option ((List (IVar))) := if 0 ≤ (l0.length : Int) then (if ((l0.length : Int) : Int).toNat ≤ 11728124029610 then (laws_toVarS.l0 k l0 (List.replicate ((l0.length : Int) : Int).toNat zIVar) 0) else (none)) else (none)
def laws_toIntS.l0 : Nat → List Int → List Int → Int → Option (List Int)
  | 0, _, _, _ => none
  | k + 1, x0, x3, x4 => if x4 < (x0.length : Int) then (if 0 ≤ x4 then (if x4 < (x3.length : Int) then (laws_toIntS.l0 k x0 (x3.set (x4 : Int).toNat (rd x0 x4)) (wrap64 (x4 + 1))) else (none)) else (none)) else (some x3)
def laws_toIntS.f (k : Nat) (l0 : List Int) : Option (List Int) := if 0 ≤ (l0.length : Int) then (if ((l0.length : Int) : Int).toNat ≤ 35184372088832 then (laws_toIntS.l0 k l0 (List.replicate ((l0.length : Int) : Int).toNat 0) 0) else (none)) else (none)
def laws_toTerm.f (a0_0 : Int) (a0_1 : Int) (a0_2 : Int) (a0_3 : Int) : Option (Int × Int × Int × Int) := some (a0_0, a0_1, a0_2, a0_3)
def laws_toTermS.l0 : Nat → List (LTerm) → List (ITerm) → Int → Option ((List (ITerm)))
  | 0, _, _, _ => none
  | k + 1, x0, x3, x4 => if x4 < (x0.length : Int) then (if 0 ≤ x4 then ((laws_toTerm.f ((rd_LTerm x0 x4).f0) ((rd_LTerm x0 x4).f1) ((rd_LTerm x0 x4).f2) ((rd_LTerm x0 x4).f3)).bind fun bt188 => (if x4 < (x3.length : Int) then (laws_toTermS.l0 k x0 (x3.set (x4 : Int).toNat (⟨bt188.1, bt188.2.1, bt188.2.2.1, bt188.2.2.2⟩ : ITerm)) (wrap64 (x4 + 1))) else (none))) else (none)) else (some x3)
def laws_toTermS.f (k : Nat) (l0 : List (LTerm)) : Option ((List (ITerm))) := if 0 ≤ (l0.length : Int) then (if ((l0.length : Int) : Int).toNat ≤ 8796093022208 then (laws_toTermS.l0 k l0 (List.replicate ((l0.length : Int) : Int).toNat zITerm) 0) else (none)) else (none)
def laws_toTermSS.l0 : Nat → List (List (LTerm)) → List (List (ITerm)) → Int → Option ((List (List (ITerm))))
  | 0, _, _, _ => none
  | k + 1, x0, x3, x4 => if x4 < (x0.length : Int) then (if 0 ≤ x4 then ((laws_toTermS.f k (rd_LLTerm x0 x4)).bind fun t197 => (if x4 < (x3.length : Int) then (laws_toTermSS.l0 k x0 (x3.set (x4 : Int).toNat t197) (wrap64 (x4 + 1))) else (none))) else (none)) else (some x3)
def laws_toTermSS.f (k : Nat) (l0 : List (List (LTerm))) : Option ((List (List (ITerm)))) := if 0 ≤ (l0.length : Int) then (if ((l0.length : Int) : Int).toNat ≤ 11728124029610 then (laws_toTermSS.l0 k l0 (List.replicate ((l0.length : Int) : Int).toNat []) 0) else (none)) else (none)
def laws_toRule.f (k : Nat) (l0_0 : List (LTerm)) (l0_1 : List Int) (l0_2 : List (List (LTerm))) : Option ((List (ITerm)) × List Int × (List (List (ITerm)))) := (laws_toTermS.f k l0_0).bind fun t204 => ((laws_toIntS.f k l0_1).bind fun t207 => ((laws_toTermSS.f k l0_2).bind fun t210 => (some (t204, t207, t210))))
def laws_toRuleS.l0 : Nat → List (LRule) → List (IRule) → Int → Option ((List (IRule)))
  | 0, _, _, _ => none
  | k + 1, x0, x3, x4 => if x4 < (x0.length : Int) then (if 0 ≤ x4 then ((laws_toRule.f k ((rd_LRule x0 x4).f0) ((rd_LRule x0 x4).f1) ((rd_LRule x0 x4).f2)).bind fun bt217 => (if x4 < (x3.length : Int) then (laws_toRuleS.l0 k x0 (x3.set (x4 : Int).toNat (⟨bt217.1, bt217.2.1, bt217.2.2⟩ : IRule)) (wrap64 (x4 + 1))) else (none))) else (none)) else (some x3)
def laws_toRuleS.f (k : Nat) (l0 : List (LRule)) : Option ((List (IRule))) := if 0 ≤ (l0.length : Int) then (if ((l0.length : Int) : Int).toNat ≤ 3909374676536 then (laws_toRuleS.l0 k l0 (List.replicate ((l0.length : Int) : Int).toNat zIRule) 0) else (none)) else (none)
def laws_toSystem.f (k : Nat) (l0_0 : List (LVar)) (l0_1 : List (LRule)) : Option ((List (IVar)) × (List (IRule))) := (laws_toVarS.f k l0_0).bind fun t230 => ((laws_toRuleS.f k l0_1).bind fun t233 => (some (t230, t233)))
def impl_size.l0 : Nat → Int → List (IVar) → Int → Int → Option (Int)
  | 0, _, _, _, _ => none
  | k + 1, x3, x6, x7, x8 => if x8 < x7 then (if 0 ≤ x8 then (if x8 < (x6.length : Int) then (impl_size.l0 k (wrap64 (x3 * (wrap64 ((wrap64 (((rd_IVar x6 x8).f1) - ((rd_IVar x6 x8).f0))) + 1)))) x6 x7 (wrap64 (x8 + 1))) else (none)) else (none)) else (some x3)
def impl_size.f (k : Nat) (l0 : List (IVar)) : Option (Int) := impl_size.l0 k 1 l0 (l0.length : Int) 0
def impl_in.f (a0 : Int) (a1 : Int) (a2 : Int) : Option (Bool) := if a0 ≥ a1 then (some (decide (a0 ≤ a2))) else (some false)
def impl_varOk.f (a0_0 : Int) (a0_1 : Int) (a0_2 : Int) : Option (Bool) := (impl_in.f a0_0 (-9999) 9999).bind fun t239 => (if t239 = true then ((impl_in.f a0_1 a0_0 9999).bind fun t240 => (if t240 = true then (if (wrap64 (a0_1 - a0_0)) < 20 then ((impl_in.f a0_2 a0_0 a0_1).bind fun t241 => (some t241)) else (some false)) else (some false))) else (some false))
mutual
def impl_parts.j0 : Nat → Int → Bool → Option (Int × Int × Int)
  | 0, _, _ => none
  | k + 1, x5, x6 => if x6 = true then (some (2, 1, 1)) else (if x5 = 5 then (impl_parts.j1 k x5 (x5 == 5)) else (impl_parts.j1 k x5 (x5 == 6)))
def impl_parts.j1 : Nat → Int → Bool → Option (Int × Int × Int)
  | 0, _, _ => none
  | k + 1, x5, x10 => if x10 = true then (some (2, 1, 2)) else (if x5 = 7 then (some (1, 2, 2)) else (if x5 = 8 then (impl_parts.j2 k (x5 == 8)) else (impl_parts.j2 k (x5 == 9))))
def impl_parts.j2 : Nat → Bool → Option (Int × Int × Int)
  | 0, _ => none
  | k + 1, x15 => if x15 = true then (some (2, 2, 2)) else (some (0, 0, 1))
end
def impl_parts.f (k : Nat) (a0 : Int) : Option (Int × Int × Int) := if a0 = 2 then (impl_parts.j0 k a0 (a0 == 2)) else (if a0 = 3 then (impl_parts.j0 k a0 (a0 == 3)) else (impl_parts.j0 k a0 (a0 == 4)))
mutual
def impl_kindsOf.j0 : Nat → List (ITerm) → Int → Bool → Option (List Int)
  | 0, _, _, _ => none
  | k + 1, x0, x1, x20 => if x20 = true then (some ([] : List Int)) else (if 0 ≤ (x0.length : Int) then (if ((x0.length : Int) : Int).toNat ≤ 35184372088832 then (impl_kindsOf.l0 k x1 (([] : List Int)) x0 (x0.length : Int) 0) else (none)) else (none))
def impl_kindsOf.l0 : Nat → Int → List Int → List (ITerm) → Int → Int → Option (List Int)
  | 0, _, _, _, _, _ => none
  | k + 1, x1, x5, x24, x25, x26 => if x26 < x25 then (if 0 ≤ x26 then (if x26 < (x24.length : Int) then ((impl_parts.f k ((rd_ITerm x24 x26).f0)).bind fun bt249 => ((impl_in.f ((rd_ITerm x24 x26).f0) 0 9).bind fun t252 => (if ((rd_ITerm x24 x26).f0) = 0 then ((impl_in.f ((rd_ITerm x24 x26).f1) (-9999) 9999).bind fun t253 => (if t253 = true then (if ((rd_ITerm x24 x26).f2) = 0 then (impl_kindsOf.j2 k x1 x5 bt249.2.2 (((rd_ITerm x24 x26).f3) == 0) x24 x25 x26) else (impl_kindsOf.j2 k x1 x5 bt249.2.2 false x24 x25 x26)) else (impl_kindsOf.j2 k x1 x5 bt249.2.2 false x24 x25 x26))) else (if ((rd_ITerm x24 x26).f0) = 1 then ((impl_in.f ((rd_ITerm x24 x26).f1) 0 (wrap64 (x1 - 1))).bind fun t254 => (if t254 = true then (if ((rd_ITerm x24 x26).f2) = 0 then (impl_kindsOf.j2 k x1 x5 bt249.2.2 (((rd_ITerm x24 x26).f3) == 0) x24 x25 x26) else (impl_kindsOf.j2 k x1 x5 bt249.2.2 false x24 x25 x26)) else (impl_kindsOf.j2 k x1 x5 bt249.2.2 false x24 x25 x26))) else (if t252 = true then (if ((rd_ITerm x24 x26).f1) = 0 then ((impl_in.f ((rd_ITerm x24 x26).f2) 0 (wrap64 (x26 - 1))).bind fun t255 => (if t255 = true then ((impl_in.f ((rd_ITerm x24 x26).f3) 0 (wrap64 (x26 - 1))).bind fun t256 => (if t256 = true then (if 0 ≤ ((rd_ITerm x24 x26).f2) then (if ((rd_ITerm x24 x26).f2) < (x5.length : Int) then (if (rd x5 ((rd_ITerm x24 x26).f2)) = bt249.2.1 then (if 0 ≤ ((rd_ITerm x24 x26).f3) then (if ((rd_ITerm x24 x26).f3) < (x5.length : Int) then (if (rd x5 ((rd_ITerm x24 x26).f3)) = bt249.2.1 then (if bt249.1 = 2 then (impl_kindsOf.j2 k x1 x5 bt249.2.2 true x24 x25 x26) else (impl_kindsOf.j2 k x1 x5 bt249.2.2 (((rd_ITerm x24 x26).f2) == ((rd_ITerm x24 x26).f3)) x24 x25 x26)) else (impl_kindsOf.j2 k x1 x5 bt249.2.2 false x24 x25 x26)) else (none)) else (none)) else (impl_kindsOf.j2 k x1 x5 bt249.2.2 false x24 x25 x26)) else (none)) else (none)) else (impl_kindsOf.j2 k x1 x5 bt249.2.2 false x24 x25 x26))) else (impl_kindsOf.j2 k x1 x5 bt249.2.2 false x24 x25 x26))) else (impl_kindsOf.j2 k x1 x5 bt249.2.2 false x24 x25 x26)) else (impl_kindsOf.j2 k x1 x5 bt249.2.2 t252 x24 x25 x26)))))) else (none)) else (none)) else (if 0 < x5.length then (some x5) else (none))
def impl_kindsOf.j2 : Nat → Int → List Int → Int → Bool → List (ITerm) → Int → Int → Option (List Int)
  | 0, _, _, _, _, _, _, _ => none
  | k + 1, x1, x5, x10, x11, x24, x25, x26 => if x11 = true then (if x5.length < 17592186044416 then (impl_kindsOf.l0 k x1 (x5 ++ [x10]) x24 x25 (wrap64 (x26 + 1))) else (none)) else (some ([] : List Int))
end
def impl_kindsOf.f (k : Nat) (l0 : List (ITerm)) (a1 : Int) : Option (List Int) := (impl_in.f a1 0 5).bind fun t242 => (if t242 = true then ((impl_in.f (l0.length : Int) 1 40).bind fun t243 => (impl_kindsOf.j0 k l0 a1 (!t243))) else (impl_kindsOf.j0 k l0 a1 true))
def impl_kindOf.f (k : Nat) (l0 : List (ITerm)) (a1 : Int) : Option (Int) := (impl_kindsOf.f k l0 a1).bind fun t => if t = [] then some 0 else (if 0 ≤ (wrap64 ((t.length : Int) - 1)) then (if (wrap64 ((t.length : Int) - 1)) < (t.length : Int) then some (rd t (wrap64 ((t.length : Int) - 1))) else none) else none)
mutual
def impl_ruleOk.j0 : Nat → Int → Bool → List (ITerm) → List Int → List (List (ITerm)) → Option (Bool)
  | 0, _, _, _, _, _ => none
  | k + 1, x1, x20, x263000, x263001, x263002 => if x20 = true then (some false) else (impl_ruleOk.l0 k x1 x263001 (x263001.length : Int) 0 x263000 x263001 x263002)
def impl_ruleOk.l0 : Nat → Int → List Int → Int → Int → List (ITerm) → List Int → List (List (ITerm)) → Option (Bool)
  | 0, _, _, _, _, _, _, _ => none
  | k + 1, x1, x22, x23, x24, x263000, x263001, x263002 => if x24 < x23 then (if 0 ≤ x24 then (if x24 < (x22.length : Int) then ((impl_in.f (rd x22 x24) 0 (wrap64 (x1 - 1))).bind fun t265 => (if t265 = true then (if x24 > 0 then (if 0 ≤ (wrap64 (x24 - 1)) then (if (wrap64 (x24 - 1)) < (x263001.length : Int) then (if (rd x263001 (wrap64 (x24 - 1))) ≥ (rd x22 x24) then (impl_ruleOk.j2 k x1 x22 x23 x24 true x263000 x263001 x263002) else (if x24 < (x263002.length : Int) then ((impl_kindOf.f k (rd_LITerm x263002 x24) x1).bind fun t268 => (impl_ruleOk.j2 k x1 x22 x23 x24 (t268 != 1) x263000 x263001 x263002)) else (none))) else (none)) else (none)) else (if x24 < (x263002.length : Int) then ((impl_kindOf.f k (rd_LITerm x263002 x24) x1).bind fun t270 => (impl_ruleOk.j2 k x1 x22 x23 x24 (t270 != 1) x263000 x263001 x263002)) else (none))) else (impl_ruleOk.j2 k x1 x22 x23 x24 true x263000 x263001 x263002))) else (none)) else (none)) else (some true)
def impl_ruleOk.j2 : Nat → Int → List Int → Int → Int → Bool → List (ITerm) → List Int → List (List (ITerm)) → Option (Bool)
  | 0, _, _, _, _, _, _, _, _ => none
  | k + 1, x1, x22, x23, x24, x57, x263000, x263001, x263002 => if x57 = true then (some false) else (impl_ruleOk.l0 k x1 x22 x23 (wrap64 (x24 + 1)) x263000 x263001 x263002)
end
def impl_ruleOk.f (k : Nat) (l0_0 : List (ITerm)) (l0_1 : List Int) (l0_2 : List (List (ITerm))) (a1 : Int) : Option (Bool) := (impl_kindOf.f k l0_0 a1).bind fun t263 => (if t263 = 2 then (impl_ruleOk.j0 k a1 ((l0_1.length : Int) != (l0_2.length : Int)) l0_0 l0_1 l0_2) else (impl_ruleOk.j0 k a1 true l0_0 l0_1 l0_2))
def impl_SystemValid_1.f (a0_0 : Int) (a0_1 : Int) (a0_2 : Int) : Option (Bool) := (impl_varOk.f a0_0 a0_1 a0_2).bind fun t272 => (some (!t272))
def slices_IndexFunc_at_impl_SystemValid_1.l0 : Nat → List (IVar) → Int → Int → Option (Int)
  | 0, _, _, _ => none
  | k + 1, x0, x7, x8 => if x8 < x7 then (if 0 ≤ x8 then (if x8 < (x0.length : Int) then ((impl_SystemValid_1.f ((rd_IVar x0 x8).f0) ((rd_IVar x0 x8).f1) ((rd_IVar x0 x8).f2)).bind fun t274 => (if t274 = true then (some x8) else (slices_IndexFunc_at_impl_SystemValid_1.l0 k x0 x7 (wrap64 (x8 + 1))))) else (none)) else (none)) else (some (-1))
def slices_IndexFunc_at_impl_SystemValid_1.f (k : Nat) (l0 : List (IVar))  : Option (Int) := slices_IndexFunc_at_impl_SystemValid_1.l0 k l0 (l0.length : Int) 0
def slices_ContainsFunc_at_impl_SystemValid_1.f (k : Nat) (l0 : List (IVar))  : Option (Bool) := (slices_IndexFunc_at_impl_SystemValid_1.f k l0).bind fun t275 => (some (decide (t275 ≥ 0)))
def impl_SystemValid_2.f (k : Nat) (l0_0 : List (ITerm)) (l0_1 : List Int) (l0_2 : List (List (ITerm))) (l1_0 : List (IVar)) (l1_1 : List (IRule)) : Option (Bool) := (impl_ruleOk.f k l0_0 l0_1 l0_2 (l1_0.length : Int)).bind fun t278 => (some (!t278))
def slices_IndexFunc_at_impl_SystemValid_2.l0 : Nat → List (IRule) → Int → Int → List (IVar) → List (IRule) → Option (Int)
  | 0, _, _, _, _, _ => none
  | k + 1, x0, x7, x8, x280000, x280001 => if x8 < x7 then (if 0 ≤ x8 then (if x8 < (x0.length : Int) then ((impl_SystemValid_2.f k ((rd_IRule x0 x8).f0) ((rd_IRule x0 x8).f1) ((rd_IRule x0 x8).f2) x280000 x280001).bind fun t281 => (if t281 = true then (some x8) else (slices_IndexFunc_at_impl_SystemValid_2.l0 k x0 x7 (wrap64 (x8 + 1)) x280000 x280001))) else (none)) else (none)) else (some (-1))
def slices_IndexFunc_at_impl_SystemValid_2.f (k : Nat) (l0 : List (IRule))  (l2_0 : List (IVar)) (l2_1 : List (IRule)) : Option (Int) := slices_IndexFunc_at_impl_SystemValid_2.l0 k l0 (l0.length : Int) 0 l2_0 l2_1
def slices_ContainsFunc_at_impl_SystemValid_2.f (k : Nat) (l0 : List (IRule))  (l2_0 : List (IVar)) (l2_1 : List (IRule)) : Option (Bool) := (slices_IndexFunc_at_impl_SystemValid_2.f k l0 l2_0 l2_1).bind fun t283 => (some (decide (t283 ≥ 0)))
def impl_SystemValid.j0 : Nat → Bool → List (IVar) → List (IRule) → Option (Bool)
  | 0, _, _, _ => none
  | k + 1, x24, x285000, x285001 => if x24 = true then (some false) else ((slices_ContainsFunc_at_impl_SystemValid_2.f k x285001 x285000 x285001).bind fun t288 => (some (!t288)))
def impl_SystemValid.f (k : Nat) (l0_0 : List (IVar)) (l0_1 : List (IRule)) : Option (Bool) := (impl_in.f (l0_0.length : Int) 1 5).bind fun t285 => (if t285 = true then (if (l0_1.length : Int) > 8 then (impl_SystemValid.j0 k true l0_0 l0_1) else ((slices_ContainsFunc_at_impl_SystemValid_1.f k l0_0).bind fun t286 => (if t286 = true then (impl_SystemValid.j0 k true l0_0 l0_1) else ((impl_size.f k l0_0).bind fun t287 => (impl_SystemValid.j0 k (decide (t287 > 400)) l0_0 l0_1))))) else (impl_SystemValid.j0 k true l0_0 l0_1))
def impl_inRange.l0 : Nat → List Int → List (IVar) → Int → Int → Option (Bool)
  | 0, _, _, _, _ => none
  | k + 1, x1, x14, x15, x16 => if x16 < x15 then (if 0 ≤ x16 then (if x16 < (x14.length : Int) then (if x16 < (x1.length : Int) then ((impl_in.f (rd x1 x16) ((rd_IVar x14 x16).f0) ((rd_IVar x14 x16).f1)).bind fun t293 => (if t293 = true then (impl_inRange.l0 k x1 x14 x15 (wrap64 (x16 + 1))) else (some false))) else (none)) else (none)) else (none)) else (some true)
def impl_inRange.f (k : Nat) (l0_0 : List (IVar)) (l0_1 : List (IRule)) (l1 : List Int) : Option (Bool) := if (l1.length : Int) = (l0_0.length : Int) then (impl_inRange.l0 k l1 l0_0 (l0_0.length : Int) 0) else (some false)
def impl_InRange.f (k : Nat) (l0_0 : List (IVar)) (l0_1 : List (IRule)) (l1 : List Int) : Option (Bool) := (impl_SystemValid.f k l0_0 l0_1).bind fun t295 => (if t295 = true then ((impl_inRange.f k l0_0 l0_1 l1).bind fun t296 => (some t296)) else (some false))
def laws_eqVar.f (a0_0 : Int) (a0_1 : Int) (a0_2 : Int) (a1_0 : Int) (a1_1 : Int) (a1_2 : Int) : Option (Bool) := if a0_0 = a1_0 then (if a0_1 = a1_1 then (if a0_2 = a1_2 then (some true) else (some false)) else (some false)) else (some false)
def laws_eqVarS.l0 : Nat → List (IVar) → List (IVar) → Int → Option (Bool)
  | 0, _, _, _ => none
  | k + 1, x0, x1, x5 => if x5 < (x0.length : Int) then (if 0 ≤ x5 then (if x5 < (x1.length : Int) then ((laws_eqVar.f ((rd_IVar x0 x5).f0) ((rd_IVar x0 x5).f1) ((rd_IVar x0 x5).f2) ((rd_IVar x1 x5).f0) ((rd_IVar x1 x5).f1) ((rd_IVar x1 x5).f2)).bind fun t301 => (if t301 = true then (laws_eqVarS.l0 k x0 x1 (wrap64 (x5 + 1))) else (some false))) else (none)) else (none)) else (some true)
def laws_eqVarS.f (k : Nat) (l0 : List (IVar)) (l1 : List (IVar)) : Option (Bool) := if (l0.length : Int) = (l1.length : Int) then (laws_eqVarS.l0 k l0 l1 0) else (some false)
def laws_eqIntS.l0 : Nat → List Int → List Int → Int → Option (Bool)
  | 0, _, _, _ => none
  | k + 1, x0, x1, x5 => if x5 < (x0.length : Int) then (if 0 ≤ x5 then (if x5 < (x1.length : Int) then (if (rd x0 x5) = (rd x1 x5) then (laws_eqIntS.l0 k x0 x1 (wrap64 (x5 + 1))) else (some false)) else (none)) else (none)) else (some true)
def laws_eqIntS.f (k : Nat) (l0 : List Int) (l1 : List Int) : Option (Bool) := if (l0.length : Int) = (l1.length : Int) then (laws_eqIntS.l0 k l0 l1 0) else (some false)
def laws_eqTerm.f (a0_0 : Int) (a0_1 : Int) (a0_2 : Int) (a0_3 : Int) (a1_0 : Int) (a1_1 : Int) (a1_2 : Int) (a1_3 : Int) : Option (Bool) := if a0_0 = a1_0 then (if a0_1 = a1_1 then (if a0_2 = a1_2 then (if a0_3 = a1_3 then (some true) else (some false)) else (some false)) else (some false)) else (some false)
def laws_eqTermS.l0 : Nat → List (ITerm) → List (ITerm) → Int → Option (Bool)
  | 0, _, _, _ => none
  | k + 1, x0, x1, x5 => if x5 < (x0.length : Int) then (if 0 ≤ x5 then (if x5 < (x1.length : Int) then ((laws_eqTerm.f ((rd_ITerm x0 x5).f0) ((rd_ITerm x0 x5).f1) ((rd_ITerm x0 x5).f2) ((rd_ITerm x0 x5).f3) ((rd_ITerm x1 x5).f0) ((rd_ITerm x1 x5).f1) ((rd_ITerm x1 x5).f2) ((rd_ITerm x1 x5).f3)).bind fun t308 => (if t308 = true then (laws_eqTermS.l0 k x0 x1 (wrap64 (x5 + 1))) else (some false))) else (none)) else (none)) else (some true)
def laws_eqTermS.f (k : Nat) (l0 : List (ITerm)) (l1 : List (ITerm)) : Option (Bool) := if (l0.length : Int) = (l1.length : Int) then (laws_eqTermS.l0 k l0 l1 0) else (some false)
def laws_eqTermSS.l0 : Nat → List (List (ITerm)) → List (List (ITerm)) → Int → Option (Bool)
  | 0, _, _, _ => none
  | k + 1, x0, x1, x5 => if x5 < (x0.length : Int) then (if 0 ≤ x5 then (if x5 < (x1.length : Int) then ((laws_eqTermS.f k (rd_LITerm x0 x5) (rd_LITerm x1 x5)).bind fun t311 => (if t311 = true then (laws_eqTermSS.l0 k x0 x1 (wrap64 (x5 + 1))) else (some false))) else (none)) else (none)) else (some true)
def laws_eqTermSS.f (k : Nat) (l0 : List (List (ITerm))) (l1 : List (List (ITerm))) : Option (Bool) := if (l0.length : Int) = (l1.length : Int) then (laws_eqTermSS.l0 k l0 l1 0) else (some false)
def laws_eqRule.f (k : Nat) (l0_0 : List (ITerm)) (l0_1 : List Int) (l0_2 : List (List (ITerm))) (l1_0 : List (ITerm)) (l1_1 : List Int) (l1_2 : List (List (ITerm))) : Option (Bool) := (laws_eqTermS.f k l0_0 l1_0).bind fun t314 => (if t314 = true then ((laws_eqIntS.f k l0_1 l1_1).bind fun t315 => (if t315 = true then ((laws_eqTermSS.f k l0_2 l1_2).bind fun t316 => (if t316 = true then (some true) else (some false))) else (some false))) else (some false))
def laws_eqRuleS.l0 : Nat → List (IRule) → List (IRule) → Int → Option (Bool)
  | 0, _, _, _ => none
  | k + 1, x0, x1, x5 => if x5 < (x0.length : Int) then (if 0 ≤ x5 then (if x5 < (x1.length : Int) then ((laws_eqRule.f k ((rd_IRule x0 x5).f0) ((rd_IRule x0 x5).f1) ((rd_IRule x0 x5).f2) ((rd_IRule x1 x5).f0) ((rd_IRule x1 x5).f1) ((rd_IRule x1 x5).f2)).bind fun t319 => (if t319 = true then (laws_eqRuleS.l0 k x0 x1 (wrap64 (x5 + 1))) else (some false))) else (none)) else (none)) else (some true)
def laws_eqRuleS.f (k : Nat) (l0 : List (IRule)) (l1 : List (IRule)) : Option (Bool) := if (l0.length : Int) = (l1.length : Int) then (laws_eqRuleS.l0 k l0 l1 0) else (some false)
def laws_eqSystem.f (k : Nat) (l0_0 : List (IVar)) (l0_1 : List (IRule)) (l1_0 : List (IVar)) (l1_1 : List (IRule)) : Option (Bool) := (laws_eqVarS.f k l0_0 l1_0).bind fun t322 => (if t322 = true then ((laws_eqRuleS.f k l0_1 l1_1).bind fun t323 => (if t323 = true then (some true) else (some false))) else (some false))
def laws_FnExactInRange.f (k : Nat) (l0_0 : List (LVar)) (l0_1 : List (LRule)) (l1 : List Int) : Option (Bool) := if (l1.length : Int) > 1048576 then (some true) else ((laws_szSystem.f k l0_0 l0_1 1048576).bind fun t325 => (if t325 < 0 then (some true) else ((laws_toSystem.f k l0_0 l0_1).bind fun bt326 => ((laws_toIntS.f k l1).bind fun t332 => ((spec_InRange.f k bt326.1 bt326.2 t332).bind fun t335 => ((laws_toSystem.f k l0_0 l0_1).bind fun bt336 => ((laws_toIntS.f k l1).bind fun t343 => ((impl_InRange.f k bt336.1 bt336.2 t343).bind fun t346 => (if (t346 != t335) = true then (some false) else ((laws_toSystem.f k l0_0 l0_1).bind fun bt347 => ((laws_eqSystem.f k bt336.1 bt336.2 bt347.1 bt347.2).bind fun t353 => (if t353 = true then ((laws_toIntS.f k l1).bind fun t354 => ((laws_eqIntS.f k t343 t354).bind fun t357 => (if t357 = true then (some true) else (some false)))) else (some false)))))))))))))
end Go.Proofs.Ytndmhmekmkgccaa.PFnExactInRange
end
section
namespace Go.Proofs.Ytndmhmekmkgccaa.PFnExactInRange
open Go.RowKit Go.Proofs.YtndmhmekmkgccaaW.PrintWords Go.Proofs.YtndmhmekmkgccaaW.PrintLast Go.Proofs.YtndmhmekmkgccaaW.PrintMore
attribute [local go_sem] max2_int min2_int max_two min_two max_three min_three max_four min_four   -- for this text's walks alone
set_option linter.unusedVariables false
set_option linter.unusedSimpArgs false
set_option maxHeartbeats 8000000 in
set_option maxRecDepth 100000 in
theorem laws_szVarS.calls (A0 : Option Addr) (c0 : Nat) (l0 : List (LVar)) (a1 : Int) (r : Int) (w : World) (hr0 : Kd.C k147 w A0 l0.length l0) (hc0 : l0.length ≤ c0) (h : laws_szVarS.f l0 a1 = some r) :
  Calls Try.prog 57 #[.slice A0 l0.length c0, .int .i64 a1] w fun e w' => e = .returned (.int .i64 r) ∧ Drawn0 w w' := by
 have HR0 := Aside0.mk hr0
 have HC0 := Aside0.mk hc0
 clear hr0 hc0
 have H : (if (wrap64 (a1 - (l0.length : Int))) < 0 then (some (-1)) else (some (wrap64 (a1 - (l0.length : Int))))) = some r := h
 clear h
 by_cases c3 : (wrap64 (a1 - (l0.length : Int))) < 0
 ·
  rw [if_pos c3] at H
  have c3b0 : decide ((wrap64 (a1 - (l0.length : Int))) < 0) = true := decide_eq_true c3
  clear c3
  obtain rfl := Option.some.inj H
  go_enter Try.func57, Try.ntmps57
  go_wp2
  go_ret
  exact ⟨by first | rfl | (simp; done) | (simp [*]; done), by repeat (first | exact Drawn0.refl _ | apply Drawn0.step)⟩
 ·
  rw [if_neg c3] at H
  have c3b0 : decide ((wrap64 (a1 - (l0.length : Int))) < 0) = false := decide_eq_false c3
  clear c3
  obtain rfl := Option.some.inj H
  go_enter Try.func57, Try.ntmps57
  go_wp2
  go_ret
  exact ⟨by first | rfl | (simp; done) | (simp [*]; done), by repeat (first | exact Drawn0.refl _ | apply Drawn0.step)⟩
end Go.Proofs.Ytndmhmekmkgccaa.PFnExactInRange
end
section
namespace Go.Proofs.Ytndmhmekmkgccaa.PFnExactInRange
open Go.RowKit Go.Proofs.YtndmhmekmkgccaaW.PrintWords Go.Proofs.YtndmhmekmkgccaaW.PrintLast Go.Proofs.YtndmhmekmkgccaaW.PrintMore
attribute [local go_sem] max2_int min2_int max_two min_two max_three min_three max_four min_four   -- for this text's walks alone
set_option linter.unusedVariables false
set_option linter.unusedSimpArgs false
set_option maxHeartbeats 8000000 in
set_option maxRecDepth 100000 in
theorem laws_szTermS.calls (A0 : Option Addr) (c0 : Nat) (l0 : List (LTerm)) (a1 : Int) (r : Int) (w : World) (hr0 : Kd.C k180 w A0 l0.length l0) (hc0 : l0.length ≤ c0) (h : laws_szTermS.f l0 a1 = some r) :
  Calls Try.prog 153 #[.slice A0 l0.length c0, .int .i64 a1] w fun e w' => e = .returned (.int .i64 r) ∧ Drawn0 w w' := by
 have HR0 := Aside0.mk hr0
 have HC0 := Aside0.mk hc0
 clear hr0 hc0
 have H : (if (wrap64 (a1 - (l0.length : Int))) < 0 then (some (-1)) else (some (wrap64 (a1 - (l0.length : Int))))) = some r := h
 clear h
 by_cases c3 : (wrap64 (a1 - (l0.length : Int))) < 0
 ·
  rw [if_pos c3] at H
  have c3b0 : decide ((wrap64 (a1 - (l0.length : Int))) < 0) = true := decide_eq_true c3
  clear c3
  obtain rfl := Option.some.inj H
  go_enter Try.func153, Try.ntmps153
  go_wp2
  go_ret
  exact ⟨by first | rfl | (simp; done) | (simp [*]; done), by repeat (first | exact Drawn0.refl _ | apply Drawn0.step)⟩
 ·
  rw [if_neg c3] at H
  have c3b0 : decide ((wrap64 (a1 - (l0.length : Int))) < 0) = false := decide_eq_false c3
  clear c3
  obtain rfl := Option.some.inj H
  go_enter Try.func153, Try.ntmps153
  go_wp2
  go_ret
  exact ⟨by first | rfl | (simp; done) | (simp [*]; done), by repeat (first | exact Drawn0.refl _ | apply Drawn0.step)⟩
end Go.Proofs.Ytndmhmekmkgccaa.PFnExactInRange
end
section
namespace Go.Proofs.Ytndmhmekmkgccaa.PFnExactInRange
open Go.RowKit Go.Proofs.YtndmhmekmkgccaaW.PrintWords Go.Proofs.YtndmhmekmkgccaaW.PrintLast Go.Proofs.YtndmhmekmkgccaaW.PrintMore
attribute [local go_sem] max2_int min2_int max_two min_two max_three min_three max_four min_four   -- for this text's walks alone
set_option linter.unusedVariables false
set_option linter.unusedSimpArgs false
set_option maxHeartbeats 8000000 in
set_option maxRecDepth 100000 in
theorem laws_szIntS.calls (A0 : Option Addr) (c0 : Nat) (l0 : List Int) (a1 : Int) (r : Int) (w : World) (hr0 : Kd.C (Kd.int .i64) w A0 l0.length l0) (hc0 : l0.length ≤ c0) (h : laws_szIntS.f l0 a1 = some r) :
  Calls Try.prog 154 #[.slice A0 l0.length c0, .int .i64 a1] w fun e w' => e = .returned (.int .i64 r) ∧ Drawn0 w w' := by
 have HR0 := Aside0.mk hr0
 have HC0 := Aside0.mk hc0
 clear hr0 hc0
 have H : (if (wrap64 (a1 - (l0.length : Int))) < 0 then (some (-1)) else (some (wrap64 (a1 - (l0.length : Int))))) = some r := h
 clear h
 by_cases c3 : (wrap64 (a1 - (l0.length : Int))) < 0
 ·
  rw [if_pos c3] at H
  have c3b0 : decide ((wrap64 (a1 - (l0.length : Int))) < 0) = true := decide_eq_true c3
  clear c3
  obtain rfl := Option.some.inj H
  go_enter Try.func154, Try.ntmps154
  go_wp2
  go_ret
  exact ⟨by first | rfl | (simp; done) | (simp [*]; done), by repeat (first | exact Drawn0.refl _ | apply Drawn0.step)⟩
 ·
  rw [if_neg c3] at H
  have c3b0 : decide ((wrap64 (a1 - (l0.length : Int))) < 0) = false := decide_eq_false c3
  clear c3
  obtain rfl := Option.some.inj H
  go_enter Try.func154, Try.ntmps154
  go_wp2
  go_ret
  exact ⟨by first | rfl | (simp; done) | (simp [*]; done), by repeat (first | exact Drawn0.refl _ | apply Drawn0.step)⟩
end Go.Proofs.Ytndmhmekmkgccaa.PFnExactInRange
end
section
namespace Go.Proofs.Ytndmhmekmkgccaa.PFnExactInRange
open Go.RowKit Go.Proofs.YtndmhmekmkgccaaW.PrintWords Go.Proofs.YtndmhmekmkgccaaW.PrintLast Go.Proofs.YtndmhmekmkgccaaW.PrintMore
attribute [local go_sem] max2_int min2_int max_two min_two max_three min_three max_four min_four   -- for this text's walks alone
set_option linter.unusedVariables false
set_option linter.unusedSimpArgs false
set_option maxHeartbeats 8000000 in
set_option maxRecDepth 100000 in
theorem laws_szTermSS.calls (k : Nat) (A0 : Option Addr) (c0 : Nat) (l0 : List (List (LTerm))) (a1 : Int) (r : Int) (w : World) (hr0 : Kd.C (Kd.slice 180 k180) w A0 l0.length l0) (hc0 : l0.length ≤ c0) (h : laws_szTermSS.f k l0 a1 = some r) :
  Calls Try.prog 155 #[.slice A0 l0.length c0, .int .i64 a1] w fun e w' => e = .returned (.int .i64 r) ∧ Drawn0 w w' := by
 have HR0 := Aside0.mk hr0
 have HC0 := Aside0.mk hc0
 clear hr0 hc0
 have H : (if (wrap64 (a1 - (l0.length : Int))) < 0 then (some (-1)) else (laws_szTermSS.l0 k l0 (wrap64 (a1 - (l0.length : Int))) 0)) = some r := h
 clear h
 by_cases c3 : (wrap64 (a1 - (l0.length : Int))) < 0
 ·
  rw [if_pos c3] at H
  have c3b0 : decide ((wrap64 (a1 - (l0.length : Int))) < 0) = true := decide_eq_true c3
  clear c3
  obtain rfl := Option.some.inj H
  go_enter Try.func155, Try.ntmps155
  go_wp2
  go_ret
  exact ⟨by first | rfl | (simp; done) | (simp [*]; done), by repeat (first | exact Drawn0.refl _ | apply Drawn0.step)⟩
 ·
  rw [if_neg c3] at H
  have c3b0 : decide ((wrap64 (a1 - (l0.length : Int))) < 0) = false := decide_eq_false c3
  clear c3
  have H' := Aside0.mk H
  clear H
  go_enter Try.func155, Try.ntmps155
  go_wp2
  go_loopg [1, 5] k (fun kq v1 v5 w' => ∃ (x1_1 : Int) (x5_1 : Int), v1 = .int .i64 x1_1 ∧ v5 = .int .i64 x5_1 ∧ Aside0 (laws_szTermSS.l0 kq l0 x1_1 x5_1 = some r) ∧ Aside0 (kq ≤ k) ∧ Drawn0 w w')
  case atStart => exact ⟨(wrap64 (a1 - (l0.length : Int))), (0), rq, rq, H', ⟨Nat.le_refl _⟩, by repeat (first | exact Drawn0.refl _ | apply Drawn0.step)⟩
  case round =>
   clear H'
   try clear c1
   try clear p2
   try clear c3
   try clear c3b0
   obtain ⟨x1_1, x5_1, rfl, rfl, HA, HK1, ⟨m1, rfl⟩⟩ := hrel
   cases gk with
   | zero => exact absurd HA.out (by simp [laws_szTermSS.l0])
   | succ k1 =>
    have H := HA.out
    clear HA
    simp only [laws_szTermSS.l0] at H
    by_cases c4 : x5_1 < (l0.length : Int)
    ·
     rw [if_pos c4] at H
     have c4b0 : decide (x5_1 < (l0.length : Int)) = true := decide_eq_true c4
     clear c4
     by_cases c5 : 0 ≤ x5_1
     ·
      rw [if_pos c5] at H
      have c5b0 : decide (0 ≤ x5_1) = true := decide_eq_true c5
      clear c5
      replace H := Option.bind_eq_some_iff.mp H
      obtain ⟨t102, A60, H⟩ := H
      have A6 := Aside0.mk A60
      clear A60
      by_cases c7 : t102 < 0
      ·
       rw [if_pos c7] at H
       have c7b0 : decide (t102 < 0) = true := decide_eq_true c7
       clear c7
       obtain rfl := Option.some.inj H
       have p101 : 0 ≤ (x5_1 : Int) := dz
       have q101 : x5_1 < (l0.length : Int) := dz
       obtain ⟨ad101, A101_0, c101_0, e101, hx101_0, hl101_0, hi101_0⟩ := at_LLTerm HR0.out x5_1 p101 q101
       cases e101
       have HR101_0 := Aside0.mk hi101_0
       have HC101_0 := Aside0.mk hl101_0
       clear hi101_0 hl101_0
       replace p101 := eq_true p101
       replace q101 := eq_true q101
       go_wp2_with (first | ((with_reducible refine gate_callee (f := 153) rfl ?_); refine goesL_ (some 23) rfl rfl Try.func153 (by kernel_rfl) rfl #[.slice A101_0 (rd_LLTerm l0 x5_1).length c101_0, .int .i64 x1_1] rfl az ?_; (with_reducible refine (laws_szTermS.calls _ _ (rd_LLTerm l0 x5_1) x1_1 t102 _ ?side1 HC101_0.out A6.out).mono ?_); (case side1 => exact cz0 HR101_0); rintro e w' ⟨rfl, ⟨nd, rfl⟩⟩; refine ⟨_, rfl, ?_⟩))
       go_ret
       exact ⟨by first | rfl | (simp; done) | (simp [*]; done), by repeat (first | exact Drawn0.refl _ | apply Drawn0.step)⟩
      ·
       rw [if_neg c7] at H
       have c7b0 : decide (t102 < 0) = false := decide_eq_false c7
       clear c7
       have H' := Aside0.mk H
       clear H
       have p101 : 0 ≤ (x5_1 : Int) := dz
       have q101 : x5_1 < (l0.length : Int) := dz
       obtain ⟨ad101, A101_0, c101_0, e101, hx101_0, hl101_0, hi101_0⟩ := at_LLTerm HR0.out x5_1 p101 q101
       cases e101
       have HR101_0 := Aside0.mk hi101_0
       have HC101_0 := Aside0.mk hl101_0
       clear hi101_0 hl101_0
       replace p101 := eq_true p101
       replace q101 := eq_true q101
       go_wp2_with (first | ((with_reducible refine gate_callee (f := 153) rfl ?_); refine goesL_ (some 23) rfl rfl Try.func153 (by kernel_rfl) rfl #[.slice A101_0 (rd_LLTerm l0 x5_1).length c101_0, .int .i64 x1_1] rfl az ?_; (with_reducible refine (laws_szTermS.calls _ _ (rd_LLTerm l0 x5_1) x1_1 t102 _ ?side1 HC101_0.out A6.out).mono ?_); (case side1 => exact cz0 HR101_0); rintro e w' ⟨rfl, ⟨nd, rfl⟩⟩; refine ⟨_, rfl, ?_⟩))
       go_roundg k1
       case measure => have := HK1.out; omega
       case rel => exact ⟨(t102), (wrap64 (x5_1 + 1)), rq, rq, H', ⟨by have := HK1.out; omega⟩, by repeat (first | exact Drawn0.refl _ | apply Drawn0.step)⟩
     ·
      rw [if_neg c5] at H
      exact absurd H (by simp)
    ·
     rw [if_neg c4] at H
     have c4b0 : decide (x5_1 < (l0.length : Int)) = false := decide_eq_false c4
     clear c4
     obtain rfl := Option.some.inj H
     go_wp2
     go_ret
     exact ⟨by first | rfl | (simp; done) | (simp [*]; done), by repeat (first | exact Drawn0.refl _ | apply Drawn0.step)⟩
end Go.Proofs.Ytndmhmekmkgccaa.PFnExactInRange
end
section
namespace Go.Proofs.Ytndmhmekmkgccaa.PFnExactInRange
open Go.RowKit Go.Proofs.YtndmhmekmkgccaaW.PrintWords Go.Proofs.YtndmhmekmkgccaaW.PrintLast Go.Proofs.YtndmhmekmkgccaaW.PrintMore
attribute [local go_sem] max2_int min2_int max_two min_two max_three min_three max_four min_four   -- for this text's walks alone
set_option linter.unusedVariables false
set_option linter.unusedSimpArgs false
set_option maxHeartbeats 8000000 in
set_option maxRecDepth 100000 in
theorem laws_szRule.calls (k : Nat) (A0_0 : Option Addr) (c0_0 : Nat) (l0_0 : List (LTerm)) (A0_1 : Option Addr) (c0_1 : Nat) (l0_1 : List Int) (A0_2 : Option Addr) (c0_2 : Nat) (l0_2 : List (List (LTerm))) (a1 : Int) (r : Int) (w : World) (hr0_0 : Kd.C k180 w A0_0 l0_0.length l0_0) (hc0_0 : l0_0.length ≤ c0_0) (hr0_1 : Kd.C (Kd.int .i64) w A0_1 l0_1.length l0_1) (hc0_1 : l0_1.length ≤ c0_1) (hr0_2 : Kd.C (Kd.slice 180 k180) w A0_2 l0_2.length l0_2) (hc0_2 : l0_2.length ≤ c0_2) (h : laws_szRule.f k l0_0 l0_1 l0_2 a1 = some r) :
  Calls Try.prog 113 #[.agg #[.slice A0_0 l0_0.length c0_0, .slice A0_1 l0_1.length c0_1, .slice A0_2 l0_2.length c0_2], .int .i64 a1] w fun e w' => e = .returned (.int .i64 r) ∧ Below w.heap.size w w' := by
 have hu138 := Try.underlying138
 have HR0_0 := Aside0.mk hr0_0
 have HC0_0 := Aside0.mk hc0_0
 clear hr0_0 hc0_0
 have HR0_1 := Aside0.mk hr0_1
 have HC0_1 := Aside0.mk hc0_1
 clear hr0_1 hc0_1
 have HR0_2 := Aside0.mk hr0_2
 have HC0_2 := Aside0.mk hc0_2
 clear hr0_2 hc0_2
 have HB := Aside0.mk (Below.refl w.heap.size w)
 have H : ((laws_szTermS.f l0_0 a1).bind fun t104 => (if t104 < 0 then (some (-1)) else ((laws_szIntS.f l0_1 t104).bind fun t105 => (if t105 < 0 then (some (-1)) else ((laws_szTermSS.f k l0_2 t105).bind fun t106 => (if t106 < 0 then (some (-1)) else (some t106))))))) = some r := h
 clear h
 replace H := Option.bind_eq_some_iff.mp H
 obtain ⟨t104, A30, H⟩ := H
 have A3 := Aside0.mk A30
 clear A30
 by_cases c4 : t104 < 0
 ·
  rw [if_pos c4] at H
  have c4b0 : decide (t104 < 0) = true := decide_eq_true c4
  clear c4
  obtain rfl := Option.some.inj H
  go_enter Try.func113, Try.ntmps113
  go_wp2_with (first | ((with_reducible refine gate_dst (N := 2) rfl ?_); refine box_event ?hg (N := 2) ?hd (cs := #[.slice A0_0 l0_0.length c0_0, .slice A0_1 l0_1.length c0_1, .slice A0_2 l0_2.length c0_2]) (t := 138) ?hr ?_; (case hd => rfl); (case hg => rfl); (case hr => first | (go_simp; done) | (go_simp; rfl)); intro gb103 hg w5 hbox hb; have n0_ := Aside0.mk (below_step (bz HB) hb); have n1_ := Aside0.mk (hbox); have n2_ := Aside0.mk ((by rw [hg]; exact (below_size (bz HB)) : w.heap.size ≤ gb103)); have n3_ := Aside0.mk ((by rw [hg]; exact (below_size (bz HB)) : w.heap.size ≤ gb103)); clear HB; have HB := n0_; have BK103 := n1_; have GW103 := n2_; have GE103 := n3_; clear n0_ n1_ n2_ n3_; clear hb hbox hg; have hcz6_0 : w5.cell? ⟨gb103, 0, none⟩ = some (.slice A0_0 l0_0.length c0_0) := (blk_cell BK103.out 0).trans rfl; have hcz6_1 : w5.cell? ⟨gb103, 1, none⟩ = some (.slice A0_1 l0_1.length c0_1) := (blk_cell BK103.out 1).trans rfl; have hcz6_2 : w5.cell? ⟨gb103, 2, none⟩ = some (.slice A0_2 l0_2.length c0_2) := (blk_cell BK103.out 2).trans rfl; have hfz6_0 := blk_frozen BK103.out 0; have hfz6_1 := blk_frozen BK103.out 1; have hfz6_2 := blk_frozen BK103.out 2) | ((with_reducible refine gate_callee (f := 153) rfl ?_); refine goesL_ (some 8) rfl rfl Try.func153 (by kernel_rfl) rfl #[.slice A0_0 l0_0.length c0_0, .int .i64 a1] rfl az ?_; (with_reducible refine (laws_szTermS.calls _ _ l0_0 a1 t104 _ ?side1 HC0_0.out A3.out).mono ?_); (case side1 => exact cz HR0_0 HB); rintro e w' ⟨rfl, ⟨nd, rfl⟩⟩; refine ⟨_, rfl, ?_⟩))
  go_ret
  exact ⟨rz, bz1 HB GE103⟩
 ·
  rw [if_neg c4] at H
  have c4b0 : decide (t104 < 0) = false := decide_eq_false c4
  clear c4
  replace H := Option.bind_eq_some_iff.mp H
  obtain ⟨t105, A70, H⟩ := H
  have A7 := Aside0.mk A70
  clear A70
  by_cases c8 : t105 < 0
  ·
   rw [if_pos c8] at H
   have c8b0 : decide (t105 < 0) = true := decide_eq_true c8
   clear c8
   obtain rfl := Option.some.inj H
   go_enter Try.func113, Try.ntmps113
   go_wp2_with (first | ((with_reducible refine gate_dst (N := 2) rfl ?_); refine box_event ?hg (N := 2) ?hd (cs := #[.slice A0_0 l0_0.length c0_0, .slice A0_1 l0_1.length c0_1, .slice A0_2 l0_2.length c0_2]) (t := 138) ?hr ?_; (case hd => rfl); (case hg => rfl); (case hr => first | (go_simp; done) | (go_simp; rfl)); intro gb103 hg w9 hbox hb; have n0_ := Aside0.mk (below_step (bz HB) hb); have n1_ := Aside0.mk (hbox); have n2_ := Aside0.mk ((by rw [hg]; exact (below_size (bz HB)) : w.heap.size ≤ gb103)); have n3_ := Aside0.mk ((by rw [hg]; exact (below_size (bz HB)) : w.heap.size ≤ gb103)); clear HB; have HB := n0_; have BK103 := n1_; have GW103 := n2_; have GE103 := n3_; clear n0_ n1_ n2_ n3_; clear hb hbox hg; have hcz10_0 : w9.cell? ⟨gb103, 0, none⟩ = some (.slice A0_0 l0_0.length c0_0) := (blk_cell BK103.out 0).trans rfl; have hcz10_1 : w9.cell? ⟨gb103, 1, none⟩ = some (.slice A0_1 l0_1.length c0_1) := (blk_cell BK103.out 1).trans rfl; have hcz10_2 : w9.cell? ⟨gb103, 2, none⟩ = some (.slice A0_2 l0_2.length c0_2) := (blk_cell BK103.out 2).trans rfl; have hfz10_0 := blk_frozen BK103.out 0; have hfz10_1 := blk_frozen BK103.out 1; have hfz10_2 := blk_frozen BK103.out 2) | ((with_reducible refine gate_callee (f := 153) rfl ?_); refine goesL_ (some 8) rfl rfl Try.func153 (by kernel_rfl) rfl #[.slice A0_0 l0_0.length c0_0, .int .i64 a1] rfl az ?_; (with_reducible refine (laws_szTermS.calls _ _ l0_0 a1 t104 _ ?side1 HC0_0.out A3.out).mono ?_); (case side1 => exact cz HR0_0 HB); rintro e w' ⟨rfl, ⟨nd, rfl⟩⟩; refine ⟨_, rfl, ?_⟩) | ((with_reducible refine gate_callee (f := 154) rfl ?_); refine goesL_ (some 14) rfl rfl Try.func154 (by kernel_rfl) rfl #[.slice A0_1 l0_1.length c0_1, .int .i64 t104] rfl az ?_; (with_reducible refine (laws_szIntS.calls _ _ l0_1 t104 t105 _ ?side1 HC0_1.out A7.out).mono ?_); (case side1 => repeat (first | exact (Kd.C_below HR0_1.out (bz1 HB GE103)) | (with_reducible refine Kd.C_alloc ?_ _) | (with_reducible refine Kd.C_drewN ?_ _) | (with_reducible refine Kd.C_drew ?_))); rintro e w' ⟨rfl, ⟨nd, rfl⟩⟩; refine ⟨_, rfl, ?_⟩))
   go_ret
   exact ⟨rz, bz1 HB GE103⟩
  ·
   rw [if_neg c8] at H
   have c8b0 : decide (t105 < 0) = false := decide_eq_false c8
   clear c8
   replace H := Option.bind_eq_some_iff.mp H
   obtain ⟨t106, A110, H⟩ := H
   have A11 := Aside0.mk A110
   clear A110
   by_cases c12 : t106 < 0
   ·
    rw [if_pos c12] at H
    have c12b0 : decide (t106 < 0) = true := decide_eq_true c12
    clear c12
    obtain rfl := Option.some.inj H
    go_enter Try.func113, Try.ntmps113
    go_wp2_with (first | ((with_reducible refine gate_dst (N := 2) rfl ?_); refine box_event ?hg (N := 2) ?hd (cs := #[.slice A0_0 l0_0.length c0_0, .slice A0_1 l0_1.length c0_1, .slice A0_2 l0_2.length c0_2]) (t := 138) ?hr ?_; (case hd => rfl); (case hg => rfl); (case hr => first | (go_simp; done) | (go_simp; rfl)); intro gb103 hg w13 hbox hb; have n0_ := Aside0.mk (below_step (bz HB) hb); have n1_ := Aside0.mk (hbox); have n2_ := Aside0.mk ((by rw [hg]; exact (below_size (bz HB)) : w.heap.size ≤ gb103)); have n3_ := Aside0.mk ((by rw [hg]; exact (below_size (bz HB)) : w.heap.size ≤ gb103)); clear HB; have HB := n0_; have BK103 := n1_; have GW103 := n2_; have GE103 := n3_; clear n0_ n1_ n2_ n3_; clear hb hbox hg; have hcz14_0 : w13.cell? ⟨gb103, 0, none⟩ = some (.slice A0_0 l0_0.length c0_0) := (blk_cell BK103.out 0).trans rfl; have hcz14_1 : w13.cell? ⟨gb103, 1, none⟩ = some (.slice A0_1 l0_1.length c0_1) := (blk_cell BK103.out 1).trans rfl; have hcz14_2 : w13.cell? ⟨gb103, 2, none⟩ = some (.slice A0_2 l0_2.length c0_2) := (blk_cell BK103.out 2).trans rfl; have hfz14_0 := blk_frozen BK103.out 0; have hfz14_1 := blk_frozen BK103.out 1; have hfz14_2 := blk_frozen BK103.out 2) | ((with_reducible refine gate_callee (f := 153) rfl ?_); refine goesL_ (some 8) rfl rfl Try.func153 (by kernel_rfl) rfl #[.slice A0_0 l0_0.length c0_0, .int .i64 a1] rfl az ?_; (with_reducible refine (laws_szTermS.calls _ _ l0_0 a1 t104 _ ?side1 HC0_0.out A3.out).mono ?_); (case side1 => exact cz HR0_0 HB); rintro e w' ⟨rfl, ⟨nd, rfl⟩⟩; refine ⟨_, rfl, ?_⟩) | ((with_reducible refine gate_callee (f := 154) rfl ?_); refine goesL_ (some 14) rfl rfl Try.func154 (by kernel_rfl) rfl #[.slice A0_1 l0_1.length c0_1, .int .i64 t104] rfl az ?_; (with_reducible refine (laws_szIntS.calls _ _ l0_1 t104 t105 _ ?side1 HC0_1.out A7.out).mono ?_); (case side1 => repeat (first | exact (Kd.C_below HR0_1.out (bz1 HB GE103)) | (with_reducible refine Kd.C_alloc ?_ _) | (with_reducible refine Kd.C_drewN ?_ _) | (with_reducible refine Kd.C_drew ?_))); rintro e w' ⟨rfl, ⟨nd, rfl⟩⟩; refine ⟨_, rfl, ?_⟩) | ((with_reducible refine gate_callee (f := 155) rfl ?_); refine goesL_ (some 20) rfl rfl Try.func155 (by kernel_rfl) rfl #[.slice A0_2 l0_2.length c0_2, .int .i64 t105] rfl az ?_; (with_reducible refine (laws_szTermSS.calls k _ _ l0_2 t105 t106 _ ?side1 HC0_2.out A11.out).mono ?_); (case side1 => repeat (first | exact (Kd.C_below HR0_2.out (bz1 HB GE103)) | (with_reducible refine Kd.C_alloc ?_ _) | (with_reducible refine Kd.C_drewN ?_ _) | (with_reducible refine Kd.C_drew ?_))); rintro e w' ⟨rfl, ⟨nd, rfl⟩⟩; refine ⟨_, rfl, ?_⟩))
    go_ret
    exact ⟨rz, bz1 HB GE103⟩
   ·
    rw [if_neg c12] at H
    have c12b0 : decide (t106 < 0) = false := decide_eq_false c12
    clear c12
    obtain rfl := Option.some.inj H
    go_enter Try.func113, Try.ntmps113
    go_wp2_with (first | ((with_reducible refine gate_dst (N := 2) rfl ?_); refine box_event ?hg (N := 2) ?hd (cs := #[.slice A0_0 l0_0.length c0_0, .slice A0_1 l0_1.length c0_1, .slice A0_2 l0_2.length c0_2]) (t := 138) ?hr ?_; (case hd => rfl); (case hg => rfl); (case hr => first | (go_simp; done) | (go_simp; rfl)); intro gb103 hg w15 hbox hb; have n0_ := Aside0.mk (below_step (bz HB) hb); have n1_ := Aside0.mk (hbox); have n2_ := Aside0.mk ((by rw [hg]; exact (below_size (bz HB)) : w.heap.size ≤ gb103)); have n3_ := Aside0.mk ((by rw [hg]; exact (below_size (bz HB)) : w.heap.size ≤ gb103)); clear HB; have HB := n0_; have BK103 := n1_; have GW103 := n2_; have GE103 := n3_; clear n0_ n1_ n2_ n3_; clear hb hbox hg; have hcz16_0 : w15.cell? ⟨gb103, 0, none⟩ = some (.slice A0_0 l0_0.length c0_0) := (blk_cell BK103.out 0).trans rfl; have hcz16_1 : w15.cell? ⟨gb103, 1, none⟩ = some (.slice A0_1 l0_1.length c0_1) := (blk_cell BK103.out 1).trans rfl; have hcz16_2 : w15.cell? ⟨gb103, 2, none⟩ = some (.slice A0_2 l0_2.length c0_2) := (blk_cell BK103.out 2).trans rfl; have hfz16_0 := blk_frozen BK103.out 0; have hfz16_1 := blk_frozen BK103.out 1; have hfz16_2 := blk_frozen BK103.out 2) | ((with_reducible refine gate_callee (f := 153) rfl ?_); refine goesL_ (some 8) rfl rfl Try.func153 (by kernel_rfl) rfl #[.slice A0_0 l0_0.length c0_0, .int .i64 a1] rfl az ?_; (with_reducible refine (laws_szTermS.calls _ _ l0_0 a1 t104 _ ?side1 HC0_0.out A3.out).mono ?_); (case side1 => exact cz HR0_0 HB); rintro e w' ⟨rfl, ⟨nd, rfl⟩⟩; refine ⟨_, rfl, ?_⟩) | ((with_reducible refine gate_callee (f := 154) rfl ?_); refine goesL_ (some 14) rfl rfl Try.func154 (by kernel_rfl) rfl #[.slice A0_1 l0_1.length c0_1, .int .i64 t104] rfl az ?_; (with_reducible refine (laws_szIntS.calls _ _ l0_1 t104 t105 _ ?side1 HC0_1.out A7.out).mono ?_); (case side1 => repeat (first | exact (Kd.C_below HR0_1.out (bz1 HB GE103)) | (with_reducible refine Kd.C_alloc ?_ _) | (with_reducible refine Kd.C_drewN ?_ _) | (with_reducible refine Kd.C_drew ?_))); rintro e w' ⟨rfl, ⟨nd, rfl⟩⟩; refine ⟨_, rfl, ?_⟩) | ((with_reducible refine gate_callee (f := 155) rfl ?_); refine goesL_ (some 20) rfl rfl Try.func155 (by kernel_rfl) rfl #[.slice A0_2 l0_2.length c0_2, .int .i64 t105] rfl az ?_; (with_reducible refine (laws_szTermSS.calls k _ _ l0_2 t105 t106 _ ?side1 HC0_2.out A11.out).mono ?_); (case side1 => repeat (first | exact (Kd.C_below HR0_2.out (bz1 HB GE103)) | (with_reducible refine Kd.C_alloc ?_ _) | (with_reducible refine Kd.C_drewN ?_ _) | (with_reducible refine Kd.C_drew ?_))); rintro e w' ⟨rfl, ⟨nd, rfl⟩⟩; refine ⟨_, rfl, ?_⟩))
    go_ret
    exact ⟨rz, bz1 HB GE103⟩
end Go.Proofs.Ytndmhmekmkgccaa.PFnExactInRange
end
section
namespace Go.Proofs.Ytndmhmekmkgccaa.PFnExactInRange
open Go.RowKit Go.Proofs.YtndmhmekmkgccaaW.PrintWords Go.Proofs.YtndmhmekmkgccaaW.PrintLast Go.Proofs.YtndmhmekmkgccaaW.PrintMore
attribute [local go_sem] max2_int min2_int max_two min_two max_three min_three max_four min_four   -- for this text's walks alone
set_option linter.unusedVariables false
set_option linter.unusedSimpArgs false
set_option maxHeartbeats 8000000 in
set_option maxRecDepth 100000 in
theorem laws_szRuleS.calls (k : Nat) (A0 : Option Addr) (c0 : Nat) (l0 : List (LRule)) (a1 : Int) (r : Int) (w : World) (hr0 : Kd.C k138 w A0 l0.length l0) (hc0 : l0.length ≤ c0) (h : laws_szRuleS.f k l0 a1 = some r) :
  Calls Try.prog 58 #[.slice A0 l0.length c0, .int .i64 a1] w fun e w' => e = .returned (.int .i64 r) ∧ Below w.heap.size w w' := by
 have hu138 := Try.underlying138
 have HR0 := Aside0.mk hr0
 have HC0 := Aside0.mk hc0
 clear hr0 hc0
 have HB := Aside0.mk (Below.refl w.heap.size w)
 have H : (if (wrap64 (a1 - (l0.length : Int))) < 0 then (some (-1)) else (laws_szRuleS.l0 k l0 (wrap64 (a1 - (l0.length : Int))) 0)) = some r := h
 clear h
 by_cases c3 : (wrap64 (a1 - (l0.length : Int))) < 0
 ·
  rw [if_pos c3] at H
  have c3b0 : decide ((wrap64 (a1 - (l0.length : Int))) < 0) = true := decide_eq_true c3
  clear c3
  obtain rfl := Option.some.inj H
  go_enter Try.func58, Try.ntmps58
  go_wp2
  go_ret
  exact ⟨rz, bz HB⟩
 ·
  rw [if_neg c3] at H
  have c3b0 : decide ((wrap64 (a1 - (l0.length : Int))) < 0) = false := decide_eq_false c3
  clear c3
  have H' := Aside0.mk H
  clear H
  go_enter Try.func58, Try.ntmps58
  go_wp2
  go_loopg [1, 5] k (fun kq v1 v5 w' => ∃ (x1_1 : Int) (x5_1 : Int), v1 = .int .i64 x1_1 ∧ v5 = .int .i64 x5_1 ∧ Aside0 (laws_szRuleS.l0 kq l0 x1_1 x5_1 = some r) ∧ Aside0 (kq ≤ k) ∧ Aside0 (Below w.heap.size w w'))
  case atStart => exact ⟨(wrap64 (a1 - (l0.length : Int))), (0), rq, rq, H', ⟨Nat.le_refl _⟩, ⟨bz HB⟩⟩
  case round =>
   clear H'
   try clear p2
   try clear c3
   try clear c3b0
   obtain ⟨x1_1, x5_1, rfl, rfl, HA, HK1, HB⟩ := hrel
   cases gk with
   | zero => exact absurd HA.out (by simp [laws_szRuleS.l0])
   | succ k1 =>
    have H := HA.out
    clear HA
    simp only [laws_szRuleS.l0] at H
    by_cases c4 : x5_1 < (l0.length : Int)
    ·
     rw [if_pos c4] at H
     have c4b0 : decide (x5_1 < (l0.length : Int)) = true := decide_eq_true c4
     clear c4
     by_cases c5 : 0 ≤ x5_1
     ·
      rw [if_pos c5] at H
      have c5b0 : decide (0 ≤ x5_1) = true := decide_eq_true c5
      clear c5
      replace H := Option.bind_eq_some_iff.mp H
      obtain ⟨t108, A60, H⟩ := H
      have A6 := Aside0.mk A60
      clear A60
      by_cases c7 : t108 < 0
      ·
       rw [if_pos c7] at H
       have c7b0 : decide (t108 < 0) = true := decide_eq_true c7
       clear c7
       obtain rfl := Option.some.inj H
       have p107 : 0 ≤ (x5_1 : Int) := dz
       have q107 : x5_1 < (l0.length : Int) := dz
       obtain ⟨ad107, A107_0, c107_0, A107_1, c107_1, A107_2, c107_2, e107, hx107_0, hx107_1, hx107_2, hl107_0, hi107_0, hl107_1, hi107_1, hl107_2, hi107_2⟩ := at_LRule HR0.out x5_1 p107 q107
       cases e107
       replace hx107_0 := xz HB hx107_0
       replace hx107_1 := xz HB hx107_1
       replace hx107_2 := xz HB hx107_2
       have HR107_0 := Aside0.mk hi107_0
       have HC107_0 := Aside0.mk hl107_0
       clear hi107_0 hl107_0
       have HR107_1 := Aside0.mk hi107_1
       have HC107_1 := Aside0.mk hl107_1
       clear hi107_1 hl107_1
       have HR107_2 := Aside0.mk hi107_2
       have HC107_2 := Aside0.mk hl107_2
       clear hi107_2 hl107_2
       replace p107 := eq_true p107
       replace q107 := eq_true q107
       go_wp2_with (first | ((with_reducible refine gate_callee (f := 113) rfl ?_); refine goesL_ (some 23) rfl rfl Try.func113 (by kernel_rfl) rfl #[.agg #[.slice A107_0 ((rd_LRule l0 x5_1).f0).length c107_0, .slice A107_1 ((rd_LRule l0 x5_1).f1).length c107_1, .slice A107_2 ((rd_LRule l0 x5_1).f2).length c107_2], .int .i64 x1_1] rfl az ?_; (with_reducible refine (laws_szRule.calls k1 _ _ ((rd_LRule l0 x5_1).f0) _ _ ((rd_LRule l0 x5_1).f1) _ _ ((rd_LRule l0 x5_1).f2) x1_1 t108 _ ?side1 HC107_0.out ?side3 HC107_1.out ?side5 HC107_2.out A6.out).mono ?_); (case side1 => exact cz HR107_0 HB); (case side3 => exact cz HR107_1 HB); (case side5 => exact cz HR107_2 HB); rintro e w8 ⟨rfl, hb⟩; refine ⟨_, rfl, ?_⟩; replace HB := Aside0.mk (below_step (bz HB) hb); clear hb))
       go_ret
       exact ⟨rz, bz HB⟩
      ·
       rw [if_neg c7] at H
       have c7b0 : decide (t108 < 0) = false := decide_eq_false c7
       clear c7
       have H' := Aside0.mk H
       clear H
       have p107 : 0 ≤ (x5_1 : Int) := dz
       have q107 : x5_1 < (l0.length : Int) := dz
       obtain ⟨ad107, A107_0, c107_0, A107_1, c107_1, A107_2, c107_2, e107, hx107_0, hx107_1, hx107_2, hl107_0, hi107_0, hl107_1, hi107_1, hl107_2, hi107_2⟩ := at_LRule HR0.out x5_1 p107 q107
       cases e107
       replace hx107_0 := xz HB hx107_0
       replace hx107_1 := xz HB hx107_1
       replace hx107_2 := xz HB hx107_2
       have HR107_0 := Aside0.mk hi107_0
       have HC107_0 := Aside0.mk hl107_0
       clear hi107_0 hl107_0
       have HR107_1 := Aside0.mk hi107_1
       have HC107_1 := Aside0.mk hl107_1
       clear hi107_1 hl107_1
       have HR107_2 := Aside0.mk hi107_2
       have HC107_2 := Aside0.mk hl107_2
       clear hi107_2 hl107_2
       replace p107 := eq_true p107
       replace q107 := eq_true q107
       go_wp2_with (first | ((with_reducible refine gate_callee (f := 113) rfl ?_); refine goesL_ (some 23) rfl rfl Try.func113 (by kernel_rfl) rfl #[.agg #[.slice A107_0 ((rd_LRule l0 x5_1).f0).length c107_0, .slice A107_1 ((rd_LRule l0 x5_1).f1).length c107_1, .slice A107_2 ((rd_LRule l0 x5_1).f2).length c107_2], .int .i64 x1_1] rfl az ?_; (with_reducible refine (laws_szRule.calls k1 _ _ ((rd_LRule l0 x5_1).f0) _ _ ((rd_LRule l0 x5_1).f1) _ _ ((rd_LRule l0 x5_1).f2) x1_1 t108 _ ?side1 HC107_0.out ?side3 HC107_1.out ?side5 HC107_2.out A6.out).mono ?_); (case side1 => exact cz HR107_0 HB); (case side3 => exact cz HR107_1 HB); (case side5 => exact cz HR107_2 HB); rintro e w9 ⟨rfl, hb⟩; refine ⟨_, rfl, ?_⟩; replace HB := Aside0.mk (below_step (bz HB) hb); clear hb))
       go_roundg k1
       case measure => have := HK1.out; omega
       case rel => exact ⟨(t108), (wrap64 (x5_1 + 1)), rq, rq, H', ⟨by have := HK1.out; omega⟩, ⟨bz HB⟩⟩
     ·
      rw [if_neg c5] at H
      exact absurd H (by simp)
    ·
     rw [if_neg c4] at H
     have c4b0 : decide (x5_1 < (l0.length : Int)) = false := decide_eq_false c4
     clear c4
     obtain rfl := Option.some.inj H
     go_wp2
     go_ret
     exact ⟨rz, bz HB⟩
end Go.Proofs.Ytndmhmekmkgccaa.PFnExactInRange
end
section
namespace Go.Proofs.Ytndmhmekmkgccaa.PFnExactInRange
open Go.RowKit Go.Proofs.YtndmhmekmkgccaaW.PrintWords Go.Proofs.YtndmhmekmkgccaaW.PrintLast Go.Proofs.YtndmhmekmkgccaaW.PrintMore
attribute [local go_sem] max2_int min2_int max_two min_two max_three min_three max_four min_four   -- for this text's walks alone
set_option linter.unusedVariables false
set_option linter.unusedSimpArgs false
set_option maxHeartbeats 8000000 in
set_option maxRecDepth 100000 in
theorem laws_szSystem.calls (k : Nat) (A0_0 : Option Addr) (c0_0 : Nat) (l0_0 : List (LVar)) (A0_1 : Option Addr) (c0_1 : Nat) (l0_1 : List (LRule)) (a1 : Int) (r : Int) (w : World) (hr0_0 : Kd.C k147 w A0_0 l0_0.length l0_0) (hc0_0 : l0_0.length ≤ c0_0) (hr0_1 : Kd.C k138 w A0_1 l0_1.length l0_1) (hc0_1 : l0_1.length ≤ c0_1) (h : laws_szSystem.f k l0_0 l0_1 a1 = some r) :
  Calls Try.prog 15 #[.agg #[.slice A0_0 l0_0.length c0_0, .slice A0_1 l0_1.length c0_1], .int .i64 a1] w fun e w' => e = .returned (.int .i64 r) ∧ Below w.heap.size w w' := by
 have hu37 := Try.underlying37
 have HR0_0 := Aside0.mk hr0_0
 have HC0_0 := Aside0.mk hc0_0
 clear hr0_0 hc0_0
 have HR0_1 := Aside0.mk hr0_1
 have HC0_1 := Aside0.mk hc0_1
 clear hr0_1 hc0_1
 have HB := Aside0.mk (Below.refl w.heap.size w)
 have H : ((laws_szVarS.f l0_0 a1).bind fun t110 => (if t110 < 0 then (some (-1)) else ((laws_szRuleS.f k l0_1 t110).bind fun t111 => (if t111 < 0 then (some (-1)) else (some t111))))) = some r := h
 clear h
 replace H := Option.bind_eq_some_iff.mp H
 obtain ⟨t110, A30, H⟩ := H
 have A3 := Aside0.mk A30
 clear A30
 by_cases c4 : t110 < 0
 ·
  rw [if_pos c4] at H
  have c4b0 : decide (t110 < 0) = true := decide_eq_true c4
  clear c4
  obtain rfl := Option.some.inj H
  go_enter Try.func15, Try.ntmps15
  go_wp2_with (first | ((with_reducible refine gate_dst (N := 2) rfl ?_); refine box_event ?hg (N := 2) ?hd (cs := #[.slice A0_0 l0_0.length c0_0, .slice A0_1 l0_1.length c0_1]) (t := 37) ?hr ?_; (case hd => rfl); (case hg => rfl); (case hr => first | (go_simp; done) | (go_simp; rfl)); intro gb109 hg w5 hbox hb; have n0_ := Aside0.mk (below_step (bz HB) hb); have n1_ := Aside0.mk (hbox); have n2_ := Aside0.mk ((by rw [hg]; exact (below_size (bz HB)) : w.heap.size ≤ gb109)); have n3_ := Aside0.mk ((by rw [hg]; exact (below_size (bz HB)) : w.heap.size ≤ gb109)); clear HB; have HB := n0_; have BK109 := n1_; have GW109 := n2_; have GE109 := n3_; clear n0_ n1_ n2_ n3_; clear hb hbox hg; have hcz6_0 : w5.cell? ⟨gb109, 0, none⟩ = some (.slice A0_0 l0_0.length c0_0) := (blk_cell BK109.out 0).trans rfl; have hcz6_1 : w5.cell? ⟨gb109, 1, none⟩ = some (.slice A0_1 l0_1.length c0_1) := (blk_cell BK109.out 1).trans rfl; have hfz6_0 := blk_frozen BK109.out 0; have hfz6_1 := blk_frozen BK109.out 1) | ((with_reducible refine gate_callee (f := 57) rfl ?_); refine goesL_ (some 8) rfl rfl Try.func57 (by kernel_rfl) rfl #[.slice A0_0 l0_0.length c0_0, .int .i64 a1] rfl az ?_; (with_reducible refine (laws_szVarS.calls _ _ l0_0 a1 t110 _ ?side1 HC0_0.out A3.out).mono ?_); (case side1 => exact cz HR0_0 HB); rintro e w' ⟨rfl, ⟨nd, rfl⟩⟩; refine ⟨_, rfl, ?_⟩))
  go_ret
  exact ⟨rz, bz1 HB GE109⟩
 ·
  rw [if_neg c4] at H
  have c4b0 : decide (t110 < 0) = false := decide_eq_false c4
  clear c4
  replace H := Option.bind_eq_some_iff.mp H
  obtain ⟨t111, A70, H⟩ := H
  have A7 := Aside0.mk A70
  clear A70
  by_cases c8 : t111 < 0
  ·
   rw [if_pos c8] at H
   have c8b0 : decide (t111 < 0) = true := decide_eq_true c8
   clear c8
   obtain rfl := Option.some.inj H
   go_enter Try.func15, Try.ntmps15
   go_wp2_with (first | ((with_reducible refine gate_dst (N := 2) rfl ?_); refine box_event ?hg (N := 2) ?hd (cs := #[.slice A0_0 l0_0.length c0_0, .slice A0_1 l0_1.length c0_1]) (t := 37) ?hr ?_; (case hd => rfl); (case hg => rfl); (case hr => first | (go_simp; done) | (go_simp; rfl)); intro gb109 hg w9 hbox hb; have n0_ := Aside0.mk (below_step (bz HB) hb); have n1_ := Aside0.mk (hbox); have n2_ := Aside0.mk ((by rw [hg]; exact (below_size (bz HB)) : w.heap.size ≤ gb109)); have n3_ := Aside0.mk ((by rw [hg]; exact (below_size (bz HB)) : w.heap.size ≤ gb109)); clear HB; have HB := n0_; have BK109 := n1_; have GW109 := n2_; have GE109 := n3_; clear n0_ n1_ n2_ n3_; clear hb hbox hg; have hcz10_0 : w9.cell? ⟨gb109, 0, none⟩ = some (.slice A0_0 l0_0.length c0_0) := (blk_cell BK109.out 0).trans rfl; have hcz10_1 : w9.cell? ⟨gb109, 1, none⟩ = some (.slice A0_1 l0_1.length c0_1) := (blk_cell BK109.out 1).trans rfl; have hfz10_0 := blk_frozen BK109.out 0; have hfz10_1 := blk_frozen BK109.out 1) | ((with_reducible refine gate_callee (f := 57) rfl ?_); refine goesL_ (some 8) rfl rfl Try.func57 (by kernel_rfl) rfl #[.slice A0_0 l0_0.length c0_0, .int .i64 a1] rfl az ?_; (with_reducible refine (laws_szVarS.calls _ _ l0_0 a1 t110 _ ?side1 HC0_0.out A3.out).mono ?_); (case side1 => exact cz HR0_0 HB); rintro e w' ⟨rfl, ⟨nd, rfl⟩⟩; refine ⟨_, rfl, ?_⟩) | ((with_reducible refine gate_callee (f := 58) rfl ?_); refine goesL_ (some 14) rfl rfl Try.func58 (by kernel_rfl) rfl #[.slice A0_1 l0_1.length c0_1, .int .i64 t110] rfl az ?_; (with_reducible refine (laws_szRuleS.calls k _ _ l0_1 t110 t111 _ ?side1 HC0_1.out A7.out).mono ?_); (case side1 => repeat (first | exact (Kd.C_below HR0_1.out (bz1 HB GE109)) | (with_reducible refine Kd.C_alloc ?_ _) | (with_reducible refine Kd.C_drewN ?_ _) | (with_reducible refine Kd.C_drew ?_))); rintro e w11 ⟨rfl, hb⟩; refine ⟨_, rfl, ?_⟩; replace BK109 := Aside0.mk (blk_below (g := gb109) (o := .cells #[.slice A0_0 l0_0.length c0_0, .slice A0_1 l0_1.length c0_1] 37 (0, 0)) (kz BK109) hb); replace HB := Aside0.mk (below_step (bz1 HB GE109) hb); clear hb))
   go_ret
   exact ⟨rz, bz1 HB GE109⟩
  ·
   rw [if_neg c8] at H
   have c8b0 : decide (t111 < 0) = false := decide_eq_false c8
   clear c8
   obtain rfl := Option.some.inj H
   go_enter Try.func15, Try.ntmps15
   go_wp2_with (first | ((with_reducible refine gate_dst (N := 2) rfl ?_); refine box_event ?hg (N := 2) ?hd (cs := #[.slice A0_0 l0_0.length c0_0, .slice A0_1 l0_1.length c0_1]) (t := 37) ?hr ?_; (case hd => rfl); (case hg => rfl); (case hr => first | (go_simp; done) | (go_simp; rfl)); intro gb109 hg w12 hbox hb; have n0_ := Aside0.mk (below_step (bz HB) hb); have n1_ := Aside0.mk (hbox); have n2_ := Aside0.mk ((by rw [hg]; exact (below_size (bz HB)) : w.heap.size ≤ gb109)); have n3_ := Aside0.mk ((by rw [hg]; exact (below_size (bz HB)) : w.heap.size ≤ gb109)); clear HB; have HB := n0_; have BK109 := n1_; have GW109 := n2_; have GE109 := n3_; clear n0_ n1_ n2_ n3_; clear hb hbox hg; have hcz13_0 : w12.cell? ⟨gb109, 0, none⟩ = some (.slice A0_0 l0_0.length c0_0) := (blk_cell BK109.out 0).trans rfl; have hcz13_1 : w12.cell? ⟨gb109, 1, none⟩ = some (.slice A0_1 l0_1.length c0_1) := (blk_cell BK109.out 1).trans rfl; have hfz13_0 := blk_frozen BK109.out 0; have hfz13_1 := blk_frozen BK109.out 1) | ((with_reducible refine gate_callee (f := 57) rfl ?_); refine goesL_ (some 8) rfl rfl Try.func57 (by kernel_rfl) rfl #[.slice A0_0 l0_0.length c0_0, .int .i64 a1] rfl az ?_; (with_reducible refine (laws_szVarS.calls _ _ l0_0 a1 t110 _ ?side1 HC0_0.out A3.out).mono ?_); (case side1 => exact cz HR0_0 HB); rintro e w' ⟨rfl, ⟨nd, rfl⟩⟩; refine ⟨_, rfl, ?_⟩) | ((with_reducible refine gate_callee (f := 58) rfl ?_); refine goesL_ (some 14) rfl rfl Try.func58 (by kernel_rfl) rfl #[.slice A0_1 l0_1.length c0_1, .int .i64 t110] rfl az ?_; (with_reducible refine (laws_szRuleS.calls k _ _ l0_1 t110 t111 _ ?side1 HC0_1.out A7.out).mono ?_); (case side1 => repeat (first | exact (Kd.C_below HR0_1.out (bz1 HB GE109)) | (with_reducible refine Kd.C_alloc ?_ _) | (with_reducible refine Kd.C_drewN ?_ _) | (with_reducible refine Kd.C_drew ?_))); rintro e w14 ⟨rfl, hb⟩; refine ⟨_, rfl, ?_⟩; replace BK109 := Aside0.mk (blk_below (g := gb109) (o := .cells #[.slice A0_0 l0_0.length c0_0, .slice A0_1 l0_1.length c0_1] 37 (0, 0)) (kz BK109) hb); replace HB := Aside0.mk (below_step (bz1 HB GE109) hb); clear hb))
   go_ret
   exact ⟨rz, bz1 HB GE109⟩
end Go.Proofs.Ytndmhmekmkgccaa.PFnExactInRange
end
section
namespace Go.Proofs.Ytndmhmekmkgccaa.PFnExactInRange
open Go.RowKit Go.Proofs.YtndmhmekmkgccaaW.PrintWords Go.Proofs.YtndmhmekmkgccaaW.PrintLast Go.Proofs.YtndmhmekmkgccaaW.PrintMore
attribute [local go_sem] max2_int min2_int max_two min_two max_three min_three max_four min_four   -- for this text's walks alone
set_option linter.unusedVariables false
set_option linter.unusedSimpArgs false
set_option maxHeartbeats 8000000 in
set_option maxRecDepth 100000 in
theorem spec_l1In.calls (a0 : Int) (a1 : Int) (a2 : Int) (r : Bool) (w : World) (h : spec_l1In.f a0 a1 a2 = some r) :
  Calls Try.prog 92 #[.int .i64 a0, .int .i64 a1, .int .i64 a2] w fun e w' => e = .returned (.bool r) ∧ Drawn0 w w' := by
 have H : (if a0 ≥ a1 then (some (decide (a0 ≤ a2))) else (some false)) = some r := h
 clear h
 by_cases c4 : a0 ≥ a1
 ·
  rw [if_pos c4] at H
  have c4b0 : decide (a1 ≤ a0) = true := decide_eq_true c4
  clear c4
  obtain rfl := Option.some.inj H
  go_enter Try.func92, Try.ntmps92
  go_wp2
  go_ret
  exact ⟨by first | rfl | (simp; done) | (simp [*]; done), by repeat (first | exact Drawn0.refl _ | apply Drawn0.step)⟩
 ·
  rw [if_neg c4] at H
  have c4b0 : decide (a1 ≤ a0) = false := decide_eq_false c4
  clear c4
  obtain rfl := Option.some.inj H
  go_enter Try.func92, Try.ntmps92
  go_wp2
  go_ret
  exact ⟨by first | rfl | (simp; done) | (simp [*]; done), by repeat (first | exact Drawn0.refl _ | apply Drawn0.step)⟩
end Go.Proofs.Ytndmhmekmkgccaa.PFnExactInRange
end
section
namespace Go.Proofs.Ytndmhmekmkgccaa.PFnExactInRange
open Go.RowKit Go.Proofs.YtndmhmekmkgccaaW.PrintWords Go.Proofs.YtndmhmekmkgccaaW.PrintLast Go.Proofs.YtndmhmekmkgccaaW.PrintMore
attribute [local go_sem] max2_int min2_int max_two min_two max_three min_three max_four min_four   -- for this text's walks alone
set_option linter.unusedVariables false
set_option linter.unusedSimpArgs false
set_option maxHeartbeats 8000000 in
set_option maxRecDepth 100000 in
theorem spec_l2Var.calls (a0_0 : Int) (a0_1 : Int) (a0_2 : Int) (r : Bool) (w : World) (h : spec_l2Var.f a0_0 a0_1 a0_2 = some r) :
  Calls Try.prog 114 #[.agg #[.int .i64 a0_0, .int .i64 a0_1, .int .i64 a0_2]] w fun e w' => e = .returned (.bool r) ∧ Below w.heap.size w w' := by
 have hu141 := Try.underlying141
 have HB := Aside0.mk (Below.refl w.heap.size w)
 have H : ((spec_l1In.f a0_0 (-9999) 9999).bind fun t113 => (if t113 = true then ((spec_l1In.f a0_1 a0_0 9999).bind fun t114 => (if t114 = true then (if (wrap64 (a0_1 - a0_0)) < 20 then ((spec_l1In.f a0_2 a0_0 a0_1).bind fun t115 => (some t115)) else (some false)) else (some false))) else (some false))) = some r := h
 clear h
 replace H := Option.bind_eq_some_iff.mp H
 obtain ⟨t113, A20, H⟩ := H
 have A2 := Aside0.mk A20
 clear A20
 by_cases c3 : t113 = true
 ·
  subst c3
  rw [if_pos rfl] at H
  replace H := Option.bind_eq_some_iff.mp H
  obtain ⟨t114, A40, H⟩ := H
  have A4 := Aside0.mk A40
  clear A40
  by_cases c5 : t114 = true
  ·
   subst c5
   rw [if_pos rfl] at H
   by_cases c6 : (wrap64 (a0_1 - a0_0)) < 20
   ·
    rw [if_pos c6] at H
    have c6b0 : decide ((wrap64 (a0_1 - a0_0)) < 20) = true := decide_eq_true c6
    clear c6
    replace H := Option.bind_eq_some_iff.mp H
    obtain ⟨t115, A70, H⟩ := H
    have A7 := Aside0.mk A70
    clear A70
    obtain rfl := Option.some.inj H
    go_enter Try.func114, Try.ntmps114
    go_wp2_with (first | ((with_reducible refine gate_dst (N := 1) rfl ?_); refine box_event ?hg (N := 1) ?hd (cs := #[.int .i64 a0_0, .int .i64 a0_1, .int .i64 a0_2]) (t := 141) ?hr ?_; (case hd => rfl); (case hg => rfl); (case hr => first | (go_simp; done) | (go_simp; rfl)); intro gb112 hg w8 hbox hb; have n0_ := Aside0.mk (below_step (bz HB) hb); have n1_ := Aside0.mk (hbox); have n2_ := Aside0.mk ((by rw [hg]; exact (below_size (bz HB)) : w.heap.size ≤ gb112)); have n3_ := Aside0.mk ((by rw [hg]; exact (below_size (bz HB)) : w.heap.size ≤ gb112)); clear HB; have HB := n0_; have BK112 := n1_; have GW112 := n2_; have GE112 := n3_; clear n0_ n1_ n2_ n3_; clear hb hbox hg; have hcz9_0 : w8.cell? ⟨gb112, 0, none⟩ = some (.int .i64 a0_0) := (blk_cell BK112.out 0).trans rfl; have hcz9_1 : w8.cell? ⟨gb112, 1, none⟩ = some (.int .i64 a0_1) := (blk_cell BK112.out 1).trans rfl; have hcz9_2 : w8.cell? ⟨gb112, 2, none⟩ = some (.int .i64 a0_2) := (blk_cell BK112.out 2).trans rfl; have hfz9_0 := blk_frozen BK112.out 0; have hfz9_1 := blk_frozen BK112.out 1; have hfz9_2 := blk_frozen BK112.out 2) | ((with_reducible refine gate_callee (f := 92) rfl ?_); refine goesL_ (some 5) rfl rfl Try.func92 (by kernel_rfl) rfl #[.int .i64 a0_0, .int .i64 (-9999), .int .i64 9999] rfl az ?_; (with_reducible refine (spec_l1In.calls a0_0 (-9999) 9999 true _ A2.out).mono ?_); rintro e w' ⟨rfl, ⟨nd, rfl⟩⟩; refine ⟨_, rfl, ?_⟩) | (go_at_call 92; (with_reducible refine (spec_l1In.calls a0_1 a0_0 9999 true _ A4.out).mono ?_); rintro e w' ⟨rfl, ⟨nd, rfl⟩⟩) | (go_at_call 92; (with_reducible refine (spec_l1In.calls a0_2 a0_0 a0_1 t115 _ A7.out).mono ?_); rintro e w' ⟨rfl, ⟨nd, rfl⟩⟩))
    go_ret
    exact ⟨rz, bz1 HB GE112⟩
   ·
    rw [if_neg c6] at H
    have c6b0 : decide ((wrap64 (a0_1 - a0_0)) < 20) = false := decide_eq_false c6
    clear c6
    obtain rfl := Option.some.inj H
    go_enter Try.func114, Try.ntmps114
    go_wp2_with (first | ((with_reducible refine gate_dst (N := 1) rfl ?_); refine box_event ?hg (N := 1) ?hd (cs := #[.int .i64 a0_0, .int .i64 a0_1, .int .i64 a0_2]) (t := 141) ?hr ?_; (case hd => rfl); (case hg => rfl); (case hr => first | (go_simp; done) | (go_simp; rfl)); intro gb112 hg w10 hbox hb; have n0_ := Aside0.mk (below_step (bz HB) hb); have n1_ := Aside0.mk (hbox); have n2_ := Aside0.mk ((by rw [hg]; exact (below_size (bz HB)) : w.heap.size ≤ gb112)); have n3_ := Aside0.mk ((by rw [hg]; exact (below_size (bz HB)) : w.heap.size ≤ gb112)); clear HB; have HB := n0_; have BK112 := n1_; have GW112 := n2_; have GE112 := n3_; clear n0_ n1_ n2_ n3_; clear hb hbox hg; have hcz11_0 : w10.cell? ⟨gb112, 0, none⟩ = some (.int .i64 a0_0) := (blk_cell BK112.out 0).trans rfl; have hcz11_1 : w10.cell? ⟨gb112, 1, none⟩ = some (.int .i64 a0_1) := (blk_cell BK112.out 1).trans rfl; have hcz11_2 : w10.cell? ⟨gb112, 2, none⟩ = some (.int .i64 a0_2) := (blk_cell BK112.out 2).trans rfl; have hfz11_0 := blk_frozen BK112.out 0; have hfz11_1 := blk_frozen BK112.out 1; have hfz11_2 := blk_frozen BK112.out 2) | ((with_reducible refine gate_callee (f := 92) rfl ?_); refine goesL_ (some 5) rfl rfl Try.func92 (by kernel_rfl) rfl #[.int .i64 a0_0, .int .i64 (-9999), .int .i64 9999] rfl az ?_; (with_reducible refine (spec_l1In.calls a0_0 (-9999) 9999 true _ A2.out).mono ?_); rintro e w' ⟨rfl, ⟨nd, rfl⟩⟩; refine ⟨_, rfl, ?_⟩) | (go_at_call 92; (with_reducible refine (spec_l1In.calls a0_1 a0_0 9999 true _ A4.out).mono ?_); rintro e w' ⟨rfl, ⟨nd, rfl⟩⟩))
    go_ret
    exact ⟨rz, bz1 HB GE112⟩
  ·
   replace c5 := Bool.eq_false_iff.mpr c5
   subst c5
   rw [if_neg nt_] at H
   obtain rfl := Option.some.inj H
   go_enter Try.func114, Try.ntmps114
   go_wp2_with (first | ((with_reducible refine gate_dst (N := 1) rfl ?_); refine box_event ?hg (N := 1) ?hd (cs := #[.int .i64 a0_0, .int .i64 a0_1, .int .i64 a0_2]) (t := 141) ?hr ?_; (case hd => rfl); (case hg => rfl); (case hr => first | (go_simp; done) | (go_simp; rfl)); intro gb112 hg w12 hbox hb; have n0_ := Aside0.mk (below_step (bz HB) hb); have n1_ := Aside0.mk (hbox); have n2_ := Aside0.mk ((by rw [hg]; exact (below_size (bz HB)) : w.heap.size ≤ gb112)); have n3_ := Aside0.mk ((by rw [hg]; exact (below_size (bz HB)) : w.heap.size ≤ gb112)); clear HB; have HB := n0_; have BK112 := n1_; have GW112 := n2_; have GE112 := n3_; clear n0_ n1_ n2_ n3_; clear hb hbox hg; have hcz13_0 : w12.cell? ⟨gb112, 0, none⟩ = some (.int .i64 a0_0) := (blk_cell BK112.out 0).trans rfl; have hcz13_1 : w12.cell? ⟨gb112, 1, none⟩ = some (.int .i64 a0_1) := (blk_cell BK112.out 1).trans rfl; have hcz13_2 : w12.cell? ⟨gb112, 2, none⟩ = some (.int .i64 a0_2) := (blk_cell BK112.out 2).trans rfl; have hfz13_0 := blk_frozen BK112.out 0; have hfz13_1 := blk_frozen BK112.out 1; have hfz13_2 := blk_frozen BK112.out 2) | ((with_reducible refine gate_callee (f := 92) rfl ?_); refine goesL_ (some 5) rfl rfl Try.func92 (by kernel_rfl) rfl #[.int .i64 a0_0, .int .i64 (-9999), .int .i64 9999] rfl az ?_; (with_reducible refine (spec_l1In.calls a0_0 (-9999) 9999 true _ A2.out).mono ?_); rintro e w' ⟨rfl, ⟨nd, rfl⟩⟩; refine ⟨_, rfl, ?_⟩) | (go_at_call 92; (with_reducible refine (spec_l1In.calls a0_1 a0_0 9999 false _ A4.out).mono ?_); rintro e w' ⟨rfl, ⟨nd, rfl⟩⟩))
   go_ret
   exact ⟨rz, bz1 HB GE112⟩
 ·
  replace c3 := Bool.eq_false_iff.mpr c3
  subst c3
  rw [if_neg nt_] at H
  obtain rfl := Option.some.inj H
  go_enter Try.func114, Try.ntmps114
  go_wp2_with (first | ((with_reducible refine gate_dst (N := 1) rfl ?_); refine box_event ?hg (N := 1) ?hd (cs := #[.int .i64 a0_0, .int .i64 a0_1, .int .i64 a0_2]) (t := 141) ?hr ?_; (case hd => rfl); (case hg => rfl); (case hr => first | (go_simp; done) | (go_simp; rfl)); intro gb112 hg w14 hbox hb; have n0_ := Aside0.mk (below_step (bz HB) hb); have n1_ := Aside0.mk (hbox); have n2_ := Aside0.mk ((by rw [hg]; exact (below_size (bz HB)) : w.heap.size ≤ gb112)); have n3_ := Aside0.mk ((by rw [hg]; exact (below_size (bz HB)) : w.heap.size ≤ gb112)); clear HB; have HB := n0_; have BK112 := n1_; have GW112 := n2_; have GE112 := n3_; clear n0_ n1_ n2_ n3_; clear hb hbox hg; have hcz15_0 : w14.cell? ⟨gb112, 0, none⟩ = some (.int .i64 a0_0) := (blk_cell BK112.out 0).trans rfl; have hcz15_1 : w14.cell? ⟨gb112, 1, none⟩ = some (.int .i64 a0_1) := (blk_cell BK112.out 1).trans rfl; have hcz15_2 : w14.cell? ⟨gb112, 2, none⟩ = some (.int .i64 a0_2) := (blk_cell BK112.out 2).trans rfl; have hfz15_0 := blk_frozen BK112.out 0; have hfz15_1 := blk_frozen BK112.out 1; have hfz15_2 := blk_frozen BK112.out 2) | ((with_reducible refine gate_callee (f := 92) rfl ?_); refine goesL_ (some 5) rfl rfl Try.func92 (by kernel_rfl) rfl #[.int .i64 a0_0, .int .i64 (-9999), .int .i64 9999] rfl az ?_; (with_reducible refine (spec_l1In.calls a0_0 (-9999) 9999 false _ A2.out).mono ?_); rintro e w' ⟨rfl, ⟨nd, rfl⟩⟩; refine ⟨_, rfl, ?_⟩))
  go_ret
  exact ⟨rz, bz1 HB GE112⟩
end Go.Proofs.Ytndmhmekmkgccaa.PFnExactInRange
end
section
namespace Go.Proofs.Ytndmhmekmkgccaa.PFnExactInRange
open Go.RowKit Go.Proofs.YtndmhmekmkgccaaW.PrintWords Go.Proofs.YtndmhmekmkgccaaW.PrintLast Go.Proofs.YtndmhmekmkgccaaW.PrintMore
attribute [local go_sem] max2_int min2_int max_two min_two max_three min_three max_four min_four   -- for this text's walks alone
set_option linter.unusedVariables false
set_option linter.unusedSimpArgs false
set_option maxHeartbeats 8000000 in
set_option maxRecDepth 100000 in
theorem spec_l1One.calls (a0 : Int) (r : Bool) (w : World) (h : spec_l1One.f a0 = some r) :
  Calls Try.prog 166 #[.int .i64 a0] w fun e w' => e = .returned (.bool r) ∧ Drawn0 w w' := by
 have H : (some (a0 == 7)) = some r := h
 clear h
 obtain rfl := Option.some.inj H
 go_enter Try.func166, Try.ntmps166
 go_wp2
 go_ret
 exact ⟨by first | rfl | (simp; done) | (simp [*]; done), by repeat (first | exact Drawn0.refl _ | apply Drawn0.step)⟩
end Go.Proofs.Ytndmhmekmkgccaa.PFnExactInRange
end
section
namespace Go.Proofs.Ytndmhmekmkgccaa.PFnExactInRange
open Go.RowKit Go.Proofs.YtndmhmekmkgccaaW.PrintWords Go.Proofs.YtndmhmekmkgccaaW.PrintLast Go.Proofs.YtndmhmekmkgccaaW.PrintMore
attribute [local go_sem] max2_int min2_int max_two min_two max_three min_three max_four min_four   -- for this text's walks alone
set_option linter.unusedVariables false
set_option linter.unusedSimpArgs false
set_option maxHeartbeats 8000000 in
set_option maxRecDepth 100000 in
theorem spec_l1Kind.calls (k : Nat) (a0_0 : Int) (a0_1 : Int) (a0_2 : Int) (a0_3 : Int) (A1 : Option Addr) (c1 : Nat) (l1 : List Int) (a2 : Int) (r : Int) (w : World) (hr1 : Kd.C (Kd.int .i64) w A1 l1.length l1) (hc1 : l1.length ≤ c1) (h : spec_l1Kind.f k a0_0 a0_1 a0_2 a0_3 l1 a2 = some r) :
  Calls Try.prog 167 #[.agg #[.int .i64 a0_0, .int .i64 a0_1, .int .i64 a0_2, .int .i64 a0_3], .slice A1 l1.length c1, .int .i64 a2] w fun e w' => e = .returned (.int .i64 r) ∧ Below w.heap.size w w' := by
 have hu107 := Try.underlying107
 have HR1 := Aside0.mk hr1
 have HC1 := Aside0.mk hc1
 clear hr1 hc1
 have HB := Aside0.mk (Below.refl w.heap.size w)
 have H : (if a0_0 = 0 then ((spec_l1In.f a0_1 (-9999) 9999).bind fun t117 => (if t117 = true then (if a0_2 = 0 then (spec_l1Kind.j0 k l1 a2 (a0_3 == 0) a0_0 a0_1 a0_2 a0_3) else (spec_l1Kind.j0 k l1 a2 false a0_0 a0_1 a0_2 a0_3)) else (spec_l1Kind.j0 k l1 a2 false a0_0 a0_1 a0_2 a0_3))) else (spec_l1Kind.j0 k l1 a2 false a0_0 a0_1 a0_2 a0_3)) = some r := h
 clear h
 have HC4 := Aside0.mk H
 clear H
 go_enter Try.func167, Try.ntmps167
 go_upto_region 1 with (first | ((with_reducible refine gate_dst (N := 3) rfl ?_); (try (refine gate_guard (by rfl) ?_; dsimp only)); refine box_event ?hg (N := 3) ?hd (cs := #[.int .i64 a0_0, .int .i64 a0_1, .int .i64 a0_2, .int .i64 a0_3]) (t := 107) ?hr ?_; (case hd => rfl); (case hg => rfl); (case hr => first | (go_simp; done) | (go_simp; rfl)); intro gb116 hg w5 hbox hb; have n0_ := Aside0.mk (below_step (bz HB) hb); have n1_ := Aside0.mk (hbox); have n2_ := Aside0.mk ((by rw [hg]; exact (below_size (bz HB)) : w.heap.size ≤ gb116)); have n3_ := Aside0.mk ((by rw [hg]; exact (below_size (bz HB)) : w.heap.size ≤ gb116)); clear HB; have HB := n0_; have BK116 := n1_; have GW116 := n2_; have GE116 := n3_; clear n0_ n1_ n2_ n3_; clear hb hbox hg))
 (try simp only [Act.put, sb_, sc0_, sc1_])
 go_cut [25] (fun v25 wc => ∃ (kq : Nat) (x25_3 : Bool), v25 = .bool x25_3 ∧ Aside0 (spec_l1Kind.j0 kq l1 a2 x25_3 a0_0 a0_1 a0_2 a0_3 = some r) ∧ Aside0 (kq ≤ k) ∧ Aside0 (wc.heap[gb116]? = some (.cells #[.int .i64 a0_0, .int .i64 a0_1, .int .i64 a0_2, .int .i64 a0_3] 107 (0, 0))) ∧ Aside0 (Below w.heap.size w wc))
 case first =>
  have H := HC4.out
  clear HC4
  by_cases c6 : a0_0 = 0
  ·
   rw [if_pos c6] at H
   have c6b0 : (a0_0 == 0) = true := beq_iff_eq.mpr c6
   have c6b1 : (a0_0 != 0) = false := bne_eq_false_iff_eq.mpr c6
   clear c6
   (first | rw [c6b0] | (simp only [i64_w, i32_w]; rw [c6b0]) | skip)
   replace H := Option.bind_eq_some_iff.mp H
   obtain ⟨t117, A70, H⟩ := H
   have A7 := Aside0.mk A70
   clear A70
   by_cases c8 : t117 = true
   ·
    subst c8
    rw [if_pos rfl] at H
    by_cases c9 : a0_2 = 0
    ·
     rw [if_pos c9] at H
     have c9b0 : (a0_2 == 0) = true := beq_iff_eq.mpr c9
     have c9b1 : (a0_2 != 0) = false := bne_eq_false_iff_eq.mpr c9
     clear c9
     have H' := Aside0.mk H
     clear H
     have hcz10_0 : w5.cell? ⟨gb116, 0, none⟩ = some (.int .i64 a0_0) := (blk_cell BK116.out 0).trans rfl
     have hcz10_1 : w5.cell? ⟨gb116, 1, none⟩ = some (.int .i64 a0_1) := (blk_cell BK116.out 1).trans rfl
     have hcz10_2 : w5.cell? ⟨gb116, 2, none⟩ = some (.int .i64 a0_2) := (blk_cell BK116.out 2).trans rfl
     have hcz10_3 : w5.cell? ⟨gb116, 3, none⟩ = some (.int .i64 a0_3) := (blk_cell BK116.out 3).trans rfl
     have hfz10_0 := blk_frozen BK116.out 0
     have hfz10_1 := blk_frozen BK116.out 1
     have hfz10_2 := blk_frozen BK116.out 2
     have hfz10_3 := blk_frozen BK116.out 3
     go_wp2_with (first | (go_at_call 92; (with_reducible refine (spec_l1In.calls a0_1 (-9999) 9999 true _ A7.out).mono ?_); rintro e w' ⟨rfl, ⟨nd, rfl⟩⟩))
     go_meet
     case rel => exact ⟨_, ((a0_3 == 0)), rq, H', ⟨by first | omega | exact Nat.le_refl _⟩, ⟨kz BK116⟩, ⟨bz1 HB GE116⟩⟩
    ·
     rw [if_neg c9] at H
     have c9b0 : (a0_2 == 0) = false := beq_eq_false_iff_ne.mpr c9
     have c9b1 : (a0_2 != 0) = true := bne_iff_ne.mpr c9
     have H' := Aside0.mk H
     clear H
     have hcz11_0 : w5.cell? ⟨gb116, 0, none⟩ = some (.int .i64 a0_0) := (blk_cell BK116.out 0).trans rfl
     have hcz11_1 : w5.cell? ⟨gb116, 1, none⟩ = some (.int .i64 a0_1) := (blk_cell BK116.out 1).trans rfl
     have hcz11_2 : w5.cell? ⟨gb116, 2, none⟩ = some (.int .i64 a0_2) := (blk_cell BK116.out 2).trans rfl
     have hcz11_3 : w5.cell? ⟨gb116, 3, none⟩ = some (.int .i64 a0_3) := (blk_cell BK116.out 3).trans rfl
     have hfz11_0 := blk_frozen BK116.out 0
     have hfz11_1 := blk_frozen BK116.out 1
     have hfz11_2 := blk_frozen BK116.out 2
     have hfz11_3 := blk_frozen BK116.out 3
     go_wp2_with (first | (go_at_call 92; (with_reducible refine (spec_l1In.calls a0_1 (-9999) 9999 true _ A7.out).mono ?_); rintro e w' ⟨rfl, ⟨nd, rfl⟩⟩))
     go_meet
     case rel => exact ⟨_, (false), rq, H', ⟨by first | omega | exact Nat.le_refl _⟩, ⟨kz BK116⟩, ⟨bz1 HB GE116⟩⟩
   ·
    replace c8 := Bool.eq_false_iff.mpr c8
    subst c8
    rw [if_neg nt_] at H
    have H' := Aside0.mk H
    clear H
    have hcz12_0 : w5.cell? ⟨gb116, 0, none⟩ = some (.int .i64 a0_0) := (blk_cell BK116.out 0).trans rfl
    have hcz12_1 : w5.cell? ⟨gb116, 1, none⟩ = some (.int .i64 a0_1) := (blk_cell BK116.out 1).trans rfl
    have hcz12_2 : w5.cell? ⟨gb116, 2, none⟩ = some (.int .i64 a0_2) := (blk_cell BK116.out 2).trans rfl
    have hcz12_3 : w5.cell? ⟨gb116, 3, none⟩ = some (.int .i64 a0_3) := (blk_cell BK116.out 3).trans rfl
    have hfz12_0 := blk_frozen BK116.out 0
    have hfz12_1 := blk_frozen BK116.out 1
    have hfz12_2 := blk_frozen BK116.out 2
    have hfz12_3 := blk_frozen BK116.out 3
    go_wp2_with (first | (go_at_call 92; (with_reducible refine (spec_l1In.calls a0_1 (-9999) 9999 false _ A7.out).mono ?_); rintro e w' ⟨rfl, ⟨nd, rfl⟩⟩))
    go_meet
    case rel => exact ⟨_, (false), rq, H', ⟨by first | omega | exact Nat.le_refl _⟩, ⟨kz BK116⟩, ⟨bz1 HB GE116⟩⟩
  ·
   rw [if_neg c6] at H
   have c6b0 : (a0_0 == 0) = false := beq_eq_false_iff_ne.mpr c6
   have c6b1 : (a0_0 != 0) = true := bne_iff_ne.mpr c6
   (first | rw [c6b0] | (simp only [i64_w, i32_w]; rw [c6b0]) | skip)
   have H' := Aside0.mk H
   clear H
   have hcz13_0 : w5.cell? ⟨gb116, 0, none⟩ = some (.int .i64 a0_0) := (blk_cell BK116.out 0).trans rfl
   have hcz13_1 : w5.cell? ⟨gb116, 1, none⟩ = some (.int .i64 a0_1) := (blk_cell BK116.out 1).trans rfl
   have hcz13_2 : w5.cell? ⟨gb116, 2, none⟩ = some (.int .i64 a0_2) := (blk_cell BK116.out 2).trans rfl
   have hcz13_3 : w5.cell? ⟨gb116, 3, none⟩ = some (.int .i64 a0_3) := (blk_cell BK116.out 3).trans rfl
   have hfz13_0 := blk_frozen BK116.out 0
   have hfz13_1 := blk_frozen BK116.out 1
   have hfz13_2 := blk_frozen BK116.out 2
   have hfz13_3 := blk_frozen BK116.out 3
   go_wp2
   go_meet
   case rel => exact ⟨_, (false), rq, H', ⟨by first | omega | exact Nat.le_refl _⟩, ⟨kz BK116⟩, ⟨bz1 HB GE116⟩⟩
 case rest =>
  clear HC4
  try clear c1
  try clear p2
  try clear c6
  try clear c6b0
  try clear c6b1
  try clear c8
  try clear c9
  try clear c9b0
  try clear c9b1
  try clear hcz10_0
  try clear hcz10_1
  try clear hcz10_2
  try clear hcz10_3
  try clear hcz11_0
  try clear hcz11_1
  try clear hcz11_2
  try clear hcz11_3
  try clear hcz12_0
  try clear hcz12_1
  try clear hcz12_2
  try clear hcz12_3
  try clear hcz13_0
  try clear hcz13_1
  try clear hcz13_2
  try clear hcz13_3
  try clear hfz10_0
  try clear hfz10_1
  try clear hfz10_2
  try clear hfz10_3
  try clear hfz11_0
  try clear hfz11_1
  try clear hfz11_2
  try clear hfz11_3
  try clear hfz12_0
  try clear hfz12_1
  try clear hfz12_2
  try clear hfz12_3
  try clear hfz13_0
  try clear hfz13_1
  try clear hfz13_2
  try clear hfz13_3
  obtain ⟨kq, x25_3, rfl, HA, HJ3, BK116, HB⟩ := hcut
  cases kq with
  | zero => exact absurd HA.out (by simp [spec_l1Kind.j0])
  | succ kj3 =>
   have H := HA.out
   clear HA
   simp only [spec_l1Kind.j0] at H
   by_cases c14 : x25_3 = true
   ·
    subst c14
    rw [if_pos rfl] at H
    obtain rfl := Option.some.inj H
    go_wp2
    go_ret
    exact ⟨rz, bz1 HB GE116⟩
   ·
    replace c14 := Bool.eq_false_iff.mpr c14
    subst c14
    rw [if_neg nt_] at H
    have HC15 := Aside0.mk H
    clear H
    go_upto_region 3 with (fail)
    go_cut [45] (fun v45 wc => ∃ (kq : Nat) (x45_14 : Bool), v45 = .bool x45_14 ∧ Aside0 (spec_l1Kind.j1 kq l1 x45_14 a0_0 a0_1 a0_2 a0_3 = some r) ∧ Aside0 (kq ≤ kj3) ∧ Aside0 (wc.heap[gb116]? = some (.cells #[.int .i64 a0_0, .int .i64 a0_1, .int .i64 a0_2, .int .i64 a0_3] 107 (0, 0))) ∧ Aside0 (Below w.heap.size w wc))
    case first =>
     have H := HC15.out
     clear HC15
     by_cases c16 : a0_0 = 1
     ·
      rw [if_pos c16] at H
      have c16b0 : (a0_0 == 1) = true := beq_iff_eq.mpr c16
      have c16b1 : (a0_0 != 1) = false := bne_eq_false_iff_eq.mpr c16
      clear c16
      (first | rw [c16b0] | (simp only [i64_w, i32_w]; rw [c16b0]) | skip)
      replace H := Option.bind_eq_some_iff.mp H
      obtain ⟨t118, A170, H⟩ := H
      have A17 := Aside0.mk A170
      clear A170
      by_cases c18 : t118 = true
      ·
       subst c18
       rw [if_pos rfl] at H
       by_cases c19 : a0_2 = 0
       ·
        rw [if_pos c19] at H
        have c19b0 : (a0_2 == 0) = true := beq_iff_eq.mpr c19
        have c19b1 : (a0_2 != 0) = false := bne_eq_false_iff_eq.mpr c19
        clear c19
        have H' := Aside0.mk H
        clear H
        have hcz20_0 : wc.cell? ⟨gb116, 0, none⟩ = some (.int .i64 a0_0) := (blk_cell BK116.out 0).trans rfl
        have hcz20_1 : wc.cell? ⟨gb116, 1, none⟩ = some (.int .i64 a0_1) := (blk_cell BK116.out 1).trans rfl
        have hcz20_2 : wc.cell? ⟨gb116, 2, none⟩ = some (.int .i64 a0_2) := (blk_cell BK116.out 2).trans rfl
        have hcz20_3 : wc.cell? ⟨gb116, 3, none⟩ = some (.int .i64 a0_3) := (blk_cell BK116.out 3).trans rfl
        have hfz20_0 := blk_frozen BK116.out 0
        have hfz20_1 := blk_frozen BK116.out 1
        have hfz20_2 := blk_frozen BK116.out 2
        have hfz20_3 := blk_frozen BK116.out 3
        go_wp2_with (first | (go_at_call 92; (with_reducible refine (spec_l1In.calls a0_1 0 (wrap64 (a2 - 1)) true _ A17.out).mono ?_); rintro e w' ⟨rfl, ⟨nd, rfl⟩⟩))
        go_meet
        case rel => exact ⟨_, ((a0_3 == 0)), rq, H', ⟨by have := HJ3.out; first | omega | exact Nat.le_refl _⟩, ⟨kz BK116⟩, ⟨bz1 HB GE116⟩⟩
       ·
        rw [if_neg c19] at H
        have c19b0 : (a0_2 == 0) = false := beq_eq_false_iff_ne.mpr c19
        have c19b1 : (a0_2 != 0) = true := bne_iff_ne.mpr c19
        have H' := Aside0.mk H
        clear H
        have hcz21_0 : wc.cell? ⟨gb116, 0, none⟩ = some (.int .i64 a0_0) := (blk_cell BK116.out 0).trans rfl
        have hcz21_1 : wc.cell? ⟨gb116, 1, none⟩ = some (.int .i64 a0_1) := (blk_cell BK116.out 1).trans rfl
        have hcz21_2 : wc.cell? ⟨gb116, 2, none⟩ = some (.int .i64 a0_2) := (blk_cell BK116.out 2).trans rfl
        have hcz21_3 : wc.cell? ⟨gb116, 3, none⟩ = some (.int .i64 a0_3) := (blk_cell BK116.out 3).trans rfl
        have hfz21_0 := blk_frozen BK116.out 0
        have hfz21_1 := blk_frozen BK116.out 1
        have hfz21_2 := blk_frozen BK116.out 2
        have hfz21_3 := blk_frozen BK116.out 3
        go_wp2_with (first | (go_at_call 92; (with_reducible refine (spec_l1In.calls a0_1 0 (wrap64 (a2 - 1)) true _ A17.out).mono ?_); rintro e w' ⟨rfl, ⟨nd, rfl⟩⟩))
        go_meet
        case rel => exact ⟨_, (false), rq, H', ⟨by have := HJ3.out; first | omega | exact Nat.le_refl _⟩, ⟨kz BK116⟩, ⟨bz1 HB GE116⟩⟩
      ·
       replace c18 := Bool.eq_false_iff.mpr c18
       subst c18
       rw [if_neg nt_] at H
       have H' := Aside0.mk H
       clear H
       have hcz22_0 : wc.cell? ⟨gb116, 0, none⟩ = some (.int .i64 a0_0) := (blk_cell BK116.out 0).trans rfl
       have hcz22_1 : wc.cell? ⟨gb116, 1, none⟩ = some (.int .i64 a0_1) := (blk_cell BK116.out 1).trans rfl
       have hcz22_2 : wc.cell? ⟨gb116, 2, none⟩ = some (.int .i64 a0_2) := (blk_cell BK116.out 2).trans rfl
       have hcz22_3 : wc.cell? ⟨gb116, 3, none⟩ = some (.int .i64 a0_3) := (blk_cell BK116.out 3).trans rfl
       have hfz22_0 := blk_frozen BK116.out 0
       have hfz22_1 := blk_frozen BK116.out 1
       have hfz22_2 := blk_frozen BK116.out 2
       have hfz22_3 := blk_frozen BK116.out 3
       go_wp2_with (first | (go_at_call 92; (with_reducible refine (spec_l1In.calls a0_1 0 (wrap64 (a2 - 1)) false _ A17.out).mono ?_); rintro e w' ⟨rfl, ⟨nd, rfl⟩⟩))
       go_meet
       case rel => exact ⟨_, (false), rq, H', ⟨by have := HJ3.out; first | omega | exact Nat.le_refl _⟩, ⟨kz BK116⟩, ⟨bz1 HB GE116⟩⟩
     ·
      rw [if_neg c16] at H
      have c16b0 : (a0_0 == 1) = false := beq_eq_false_iff_ne.mpr c16
      have c16b1 : (a0_0 != 1) = true := bne_iff_ne.mpr c16
      (first | rw [c16b0] | (simp only [i64_w, i32_w]; rw [c16b0]) | skip)
      have H' := Aside0.mk H
      clear H
      have hcz23_0 : wc.cell? ⟨gb116, 0, none⟩ = some (.int .i64 a0_0) := (blk_cell BK116.out 0).trans rfl
      have hcz23_1 : wc.cell? ⟨gb116, 1, none⟩ = some (.int .i64 a0_1) := (blk_cell BK116.out 1).trans rfl
      have hcz23_2 : wc.cell? ⟨gb116, 2, none⟩ = some (.int .i64 a0_2) := (blk_cell BK116.out 2).trans rfl
      have hcz23_3 : wc.cell? ⟨gb116, 3, none⟩ = some (.int .i64 a0_3) := (blk_cell BK116.out 3).trans rfl
      have hfz23_0 := blk_frozen BK116.out 0
      have hfz23_1 := blk_frozen BK116.out 1
      have hfz23_2 := blk_frozen BK116.out 2
      have hfz23_3 := blk_frozen BK116.out 3
      go_wp2
      go_meet
      case rel => exact ⟨_, (false), rq, H', ⟨by have := HJ3.out; first | omega | exact Nat.le_refl _⟩, ⟨kz BK116⟩, ⟨bz1 HB GE116⟩⟩
    case rest =>
     clear HC15
     try clear c1
     try clear p2
     try clear c6
     try clear c6b0
     try clear c6b1
     try clear p6
     try clear c8
     try clear c9
     try clear c9b0
     try clear c9b1
     try clear c14
     try clear c16
     try clear c16b0
     try clear c16b1
     try clear c18
     try clear c19
     try clear c19b0
     try clear c19b1
     try clear hcz10_0
     try clear hcz10_1
     try clear hcz10_2
     try clear hcz10_3
     try clear hcz11_0
     try clear hcz11_1
     try clear hcz11_2
     try clear hcz11_3
     try clear hcz12_0
     try clear hcz12_1
     try clear hcz12_2
     try clear hcz12_3
     try clear hcz13_0
     try clear hcz13_1
     try clear hcz13_2
     try clear hcz13_3
     try clear hcz20_0
     try clear hcz20_1
     try clear hcz20_2
     try clear hcz20_3
     try clear hcz21_0
     try clear hcz21_1
     try clear hcz21_2
     try clear hcz21_3
     try clear hcz22_0
     try clear hcz22_1
     try clear hcz22_2
     try clear hcz22_3
     try clear hcz23_0
     try clear hcz23_1
     try clear hcz23_2
     try clear hcz23_3
     try clear hfz10_0
     try clear hfz10_1
     try clear hfz10_2
     try clear hfz10_3
     try clear hfz11_0
     try clear hfz11_1
     try clear hfz11_2
     try clear hfz11_3
     try clear hfz12_0
     try clear hfz12_1
     try clear hfz12_2
     try clear hfz12_3
     try clear hfz13_0
     try clear hfz13_1
     try clear hfz13_2
     try clear hfz13_3
     try clear hfz20_0
     try clear hfz20_1
     try clear hfz20_2
     try clear hfz20_3
     try clear hfz21_0
     try clear hfz21_1
     try clear hfz21_2
     try clear hfz21_3
     try clear hfz22_0
     try clear hfz22_1
     try clear hfz22_2
     try clear hfz22_3
     try clear hfz23_0
     try clear hfz23_1
     try clear hfz23_2
     try clear hfz23_3
     try clear p2
     obtain ⟨kq, x45_14, rfl, HA, HJ14, BK116, HB⟩ := hcut
     cases kq with
     | zero => exact absurd HA.out (by simp [spec_l1Kind.j1])
     | succ kj14 =>
      have H := HA.out
      clear HA
      simp only [spec_l1Kind.j1] at H
      by_cases c24 : x45_14 = true
      ·
       subst c24
       rw [if_pos rfl] at H
       obtain rfl := Option.some.inj H
       go_wp2
       go_ret
       exact ⟨rz, bz1 HB GE116⟩
      ·
       replace c24 := Bool.eq_false_iff.mpr c24
       subst c24
       rw [if_neg nt_] at H
       have HC25 := Aside0.mk H
       clear H
       go_upto_region 5 with (fail)
       go_cut [72] (fun v72 wc => ∃ (kq : Nat) (x72_24 : Bool), v72 = .bool x72_24 ∧ Aside0 (spec_l1Kind.j2 kq l1 x72_24 a0_0 a0_1 a0_2 a0_3 = some r) ∧ Aside0 (kq ≤ kj14) ∧ Aside0 (wc.heap[gb116]? = some (.cells #[.int .i64 a0_0, .int .i64 a0_1, .int .i64 a0_2, .int .i64 a0_3] 107 (0, 0))) ∧ Aside0 (Below w.heap.size w wc))
       case first =>
        have H := HC25.out
        clear HC25
        replace H := Option.bind_eq_some_iff.mp H
        obtain ⟨t119, A260, H⟩ := H
        have A26 := Aside0.mk A260
        clear A260
        by_cases c27 : t119 = true
        ·
         subst c27
         rw [if_pos rfl] at H
         by_cases c28 : a0_1 = 0
         ·
          rw [if_pos c28] at H
          have c28b0 : (a0_1 == 0) = true := beq_iff_eq.mpr c28
          have c28b1 : (a0_1 != 0) = false := bne_eq_false_iff_eq.mpr c28
          clear c28
          (first | rw [c28b0] | (simp only [i64_w, i32_w]; rw [c28b0]) | skip)
          replace H := Option.bind_eq_some_iff.mp H
          obtain ⟨t120, A290, H⟩ := H
          have A29 := Aside0.mk A290
          clear A290
          by_cases c30 : t120 = true
          ·
           subst c30
           rw [if_pos rfl] at H
           replace H := Option.bind_eq_some_iff.mp H
           obtain ⟨t121, A310, H⟩ := H
           have A31 := Aside0.mk A310
           clear A310
           have H' := Aside0.mk H
           clear H
           have hcz32_0 : wc.cell? ⟨gb116, 0, none⟩ = some (.int .i64 a0_0) := (blk_cell BK116.out 0).trans rfl
           have hcz32_1 : wc.cell? ⟨gb116, 1, none⟩ = some (.int .i64 a0_1) := (blk_cell BK116.out 1).trans rfl
           have hcz32_2 : wc.cell? ⟨gb116, 2, none⟩ = some (.int .i64 a0_2) := (blk_cell BK116.out 2).trans rfl
           have hcz32_3 : wc.cell? ⟨gb116, 3, none⟩ = some (.int .i64 a0_3) := (blk_cell BK116.out 3).trans rfl
           have hfz32_0 := blk_frozen BK116.out 0
           have hfz32_1 := blk_frozen BK116.out 1
           have hfz32_2 := blk_frozen BK116.out 2
           have hfz32_3 := blk_frozen BK116.out 3
           go_wp2_with (first | ((with_reducible refine gate_callee (f := 92) rfl ?_); refine goesL_ (some 48) rfl rfl Try.func92 (by kernel_rfl) rfl #[.int .i64 a0_0, .int .i64 2, .int .i64 9] rfl az ?_; (with_reducible refine (spec_l1In.calls a0_0 2 9 true _ A26.out).mono ?_); rintro e w' ⟨rfl, ⟨nd, rfl⟩⟩; refine ⟨_, rfl, ?_⟩) | (go_at_call 92; (with_reducible refine (spec_l1In.calls a0_2 0 (wrap64 ((l1.length : Int) - 1)) true _ A29.out).mono ?_); rintro e w' ⟨rfl, ⟨nd, rfl⟩⟩) | (go_at_call 92; (with_reducible refine (spec_l1In.calls a0_3 0 (wrap64 ((l1.length : Int) - 1)) t121 _ A31.out).mono ?_); rintro e w' ⟨rfl, ⟨nd, rfl⟩⟩))
           go_meet
           case rel => exact ⟨_, (!t121), rq, H', ⟨by have := HJ3.out; have := HJ14.out; first | omega | exact Nat.le_refl _⟩, ⟨kz BK116⟩, ⟨bz1 HB GE116⟩⟩
          ·
           replace c30 := Bool.eq_false_iff.mpr c30
           subst c30
           rw [if_neg nt_] at H
           have H' := Aside0.mk H
           clear H
           have hcz33_0 : wc.cell? ⟨gb116, 0, none⟩ = some (.int .i64 a0_0) := (blk_cell BK116.out 0).trans rfl
           have hcz33_1 : wc.cell? ⟨gb116, 1, none⟩ = some (.int .i64 a0_1) := (blk_cell BK116.out 1).trans rfl
           have hcz33_2 : wc.cell? ⟨gb116, 2, none⟩ = some (.int .i64 a0_2) := (blk_cell BK116.out 2).trans rfl
           have hcz33_3 : wc.cell? ⟨gb116, 3, none⟩ = some (.int .i64 a0_3) := (blk_cell BK116.out 3).trans rfl
           have hfz33_0 := blk_frozen BK116.out 0
           have hfz33_1 := blk_frozen BK116.out 1
           have hfz33_2 := blk_frozen BK116.out 2
           have hfz33_3 := blk_frozen BK116.out 3
           go_wp2_with (first | ((with_reducible refine gate_callee (f := 92) rfl ?_); refine goesL_ (some 48) rfl rfl Try.func92 (by kernel_rfl) rfl #[.int .i64 a0_0, .int .i64 2, .int .i64 9] rfl az ?_; (with_reducible refine (spec_l1In.calls a0_0 2 9 true _ A26.out).mono ?_); rintro e w' ⟨rfl, ⟨nd, rfl⟩⟩; refine ⟨_, rfl, ?_⟩) | (go_at_call 92; (with_reducible refine (spec_l1In.calls a0_2 0 (wrap64 ((l1.length : Int) - 1)) false _ A29.out).mono ?_); rintro e w' ⟨rfl, ⟨nd, rfl⟩⟩))
           go_meet
           case rel => exact ⟨_, (true), rq, H', ⟨by have := HJ3.out; have := HJ14.out; first | omega | exact Nat.le_refl _⟩, ⟨kz BK116⟩, ⟨bz1 HB GE116⟩⟩
         ·
          rw [if_neg c28] at H
          have c28b0 : (a0_1 == 0) = false := beq_eq_false_iff_ne.mpr c28
          have c28b1 : (a0_1 != 0) = true := bne_iff_ne.mpr c28
          (first | rw [c28b0] | (simp only [i64_w, i32_w]; rw [c28b0]) | skip)
          have H' := Aside0.mk H
          clear H
          have hcz34_0 : wc.cell? ⟨gb116, 0, none⟩ = some (.int .i64 a0_0) := (blk_cell BK116.out 0).trans rfl
          have hcz34_1 : wc.cell? ⟨gb116, 1, none⟩ = some (.int .i64 a0_1) := (blk_cell BK116.out 1).trans rfl
          have hcz34_2 : wc.cell? ⟨gb116, 2, none⟩ = some (.int .i64 a0_2) := (blk_cell BK116.out 2).trans rfl
          have hcz34_3 : wc.cell? ⟨gb116, 3, none⟩ = some (.int .i64 a0_3) := (blk_cell BK116.out 3).trans rfl
          have hfz34_0 := blk_frozen BK116.out 0
          have hfz34_1 := blk_frozen BK116.out 1
          have hfz34_2 := blk_frozen BK116.out 2
          have hfz34_3 := blk_frozen BK116.out 3
          go_wp2_with (first | ((with_reducible refine gate_callee (f := 92) rfl ?_); refine goesL_ (some 48) rfl rfl Try.func92 (by kernel_rfl) rfl #[.int .i64 a0_0, .int .i64 2, .int .i64 9] rfl az ?_; (with_reducible refine (spec_l1In.calls a0_0 2 9 true _ A26.out).mono ?_); rintro e w' ⟨rfl, ⟨nd, rfl⟩⟩; refine ⟨_, rfl, ?_⟩))
          go_meet
          case rel => exact ⟨_, (true), rq, H', ⟨by have := HJ3.out; have := HJ14.out; first | omega | exact Nat.le_refl _⟩, ⟨kz BK116⟩, ⟨bz1 HB GE116⟩⟩
        ·
         replace c27 := Bool.eq_false_iff.mpr c27
         subst c27
         rw [if_neg nt_] at H
         have H' := Aside0.mk H
         clear H
         have hcz35_0 : wc.cell? ⟨gb116, 0, none⟩ = some (.int .i64 a0_0) := (blk_cell BK116.out 0).trans rfl
         have hcz35_1 : wc.cell? ⟨gb116, 1, none⟩ = some (.int .i64 a0_1) := (blk_cell BK116.out 1).trans rfl
         have hcz35_2 : wc.cell? ⟨gb116, 2, none⟩ = some (.int .i64 a0_2) := (blk_cell BK116.out 2).trans rfl
         have hcz35_3 : wc.cell? ⟨gb116, 3, none⟩ = some (.int .i64 a0_3) := (blk_cell BK116.out 3).trans rfl
         have hfz35_0 := blk_frozen BK116.out 0
         have hfz35_1 := blk_frozen BK116.out 1
         have hfz35_2 := blk_frozen BK116.out 2
         have hfz35_3 := blk_frozen BK116.out 3
         go_wp2_with (first | ((with_reducible refine gate_callee (f := 92) rfl ?_); refine goesL_ (some 48) rfl rfl Try.func92 (by kernel_rfl) rfl #[.int .i64 a0_0, .int .i64 2, .int .i64 9] rfl az ?_; (with_reducible refine (spec_l1In.calls a0_0 2 9 false _ A26.out).mono ?_); rintro e w' ⟨rfl, ⟨nd, rfl⟩⟩; refine ⟨_, rfl, ?_⟩))
         go_meet
         case rel => exact ⟨_, (true), rq, H', ⟨by have := HJ3.out; have := HJ14.out; first | omega | exact Nat.le_refl _⟩, ⟨kz BK116⟩, ⟨bz1 HB GE116⟩⟩
       case rest =>
        clear HC25
        try clear c1
        try clear c2
        try clear p2
        try clear c3
        try clear c6
        try clear c6b0
        try clear c6b1
        try clear p6
        try clear c8
        try clear c9
        try clear c9b0
        try clear c9b1
        try clear c14
        try clear c16
        try clear c16b0
        try clear c16b1
        try clear c18
        try clear c19
        try clear c19b0
        try clear c19b1
        try clear c24
        try clear c27
        try clear c28
        try clear c28b0
        try clear c28b1
        try clear c30
        try clear hcz10_0
        try clear hcz10_1
        try clear hcz10_2
        try clear hcz10_3
        try clear hcz11_0
        try clear hcz11_1
        try clear hcz11_2
        try clear hcz11_3
        try clear hcz12_0
        try clear hcz12_1
        try clear hcz12_2
        try clear hcz12_3
        try clear hcz13_0
        try clear hcz13_1
        try clear hcz13_2
        try clear hcz13_3
        try clear hcz20_0
        try clear hcz20_1
        try clear hcz20_2
        try clear hcz20_3
        try clear hcz21_0
        try clear hcz21_1
        try clear hcz21_2
        try clear hcz21_3
        try clear hcz22_0
        try clear hcz22_1
        try clear hcz22_2
        try clear hcz22_3
        try clear hcz23_0
        try clear hcz23_1
        try clear hcz23_2
        try clear hcz23_3
        try clear hcz32_0
        try clear hcz32_1
        try clear hcz32_2
        try clear hcz32_3
        try clear hcz33_0
        try clear hcz33_1
        try clear hcz33_2
        try clear hcz33_3
        try clear hcz34_0
        try clear hcz34_1
        try clear hcz34_2
        try clear hcz34_3
        try clear hcz35_0
        try clear hcz35_1
        try clear hcz35_2
        try clear hcz35_3
        try clear hfz10_0
        try clear hfz10_1
        try clear hfz10_2
        try clear hfz10_3
        try clear hfz11_0
        try clear hfz11_1
        try clear hfz11_2
        try clear hfz11_3
        try clear hfz12_0
        try clear hfz12_1
        try clear hfz12_2
        try clear hfz12_3
        try clear hfz13_0
        try clear hfz13_1
        try clear hfz13_2
        try clear hfz13_3
        try clear hfz20_0
        try clear hfz20_1
        try clear hfz20_2
        try clear hfz20_3
        try clear hfz21_0
        try clear hfz21_1
        try clear hfz21_2
        try clear hfz21_3
        try clear hfz22_0
        try clear hfz22_1
        try clear hfz22_2
        try clear hfz22_3
        try clear hfz23_0
        try clear hfz23_1
        try clear hfz23_2
        try clear hfz23_3
        try clear hfz32_0
        try clear hfz32_1
        try clear hfz32_2
        try clear hfz32_3
        try clear hfz33_0
        try clear hfz33_1
        try clear hfz33_2
        try clear hfz33_3
        try clear hfz34_0
        try clear hfz34_1
        try clear hfz34_2
        try clear hfz34_3
        try clear hfz35_0
        try clear hfz35_1
        try clear hfz35_2
        try clear hfz35_3
        try clear p2
        try clear p6
        obtain ⟨kq, x72_24, rfl, HA, HJ24, BK116, HB⟩ := hcut
        cases kq with
        | zero => exact absurd HA.out (by simp [spec_l1Kind.j2])
        | succ kj24 =>
         have H := HA.out
         clear HA
         simp only [spec_l1Kind.j2] at H
         by_cases c36 : x72_24 = true
         ·
          subst c36
          rw [if_pos rfl] at H
          obtain rfl := Option.some.inj H
          go_wp2
          go_ret
          exact ⟨rz, bz1 HB GE116⟩
         ·
          replace c36 := Bool.eq_false_iff.mpr c36
          subst c36
          rw [if_neg nt_] at H
          have HC37 := Aside0.mk H
          clear H
          have hcz38_0 : wc.cell? ⟨gb116, 0, none⟩ = some (.int .i64 a0_0) := (blk_cell BK116.out 0).trans rfl
          have hcz38_1 : wc.cell? ⟨gb116, 1, none⟩ = some (.int .i64 a0_1) := (blk_cell BK116.out 1).trans rfl
          have hcz38_2 : wc.cell? ⟨gb116, 2, none⟩ = some (.int .i64 a0_2) := (blk_cell BK116.out 2).trans rfl
          have hcz38_3 : wc.cell? ⟨gb116, 3, none⟩ = some (.int .i64 a0_3) := (blk_cell BK116.out 3).trans rfl
          have hfz38_0 := blk_frozen BK116.out 0
          have hfz38_1 := blk_frozen BK116.out 1
          have hfz38_2 := blk_frozen BK116.out 2
          have hfz38_3 := blk_frozen BK116.out 3
          go_upto_if 75 with (fail)
          go_cut [7] (fun v7 wc => ∃ (kq : Nat) (x7_36 : Int), v7 = .int .i64 x7_36 ∧ Aside0 (spec_l1Kind.j3 kq l1 x7_36 a0_0 a0_1 a0_2 a0_3 = some r) ∧ Aside0 (kq ≤ kj24) ∧ Aside0 (wc.heap[gb116]? = some (.cells #[.int .i64 a0_0, .int .i64 a0_1, .int .i64 a0_2, .int .i64 a0_3] 107 (0, 0))) ∧ Aside0 (Below w.heap.size w wc))
          case first =>
           have H := HC37.out
           clear HC37
           by_cases c39 : a0_0 ≥ 7
           ·
            rw [if_pos c39] at H
            have c39b0 : decide (7 ≤ a0_0) = true := decide_eq_true c39
            clear c39
            (first | rw [c39b0] | (simp only [i64_w, i32_w]; rw [c39b0]) | skip)
            have H' := Aside0.mk H
            clear H
            go_wp2
            go_meet
            case rel => exact ⟨_, (2), rq, H', ⟨by have := HJ3.out; have := HJ14.out; have := HJ24.out; first | omega | exact Nat.le_refl _⟩, ⟨kz BK116⟩, ⟨bz1 HB GE116⟩⟩
           ·
            rw [if_neg c39] at H
            have c39b0 : decide (7 ≤ a0_0) = false := decide_eq_false c39
            clear c39
            (first | rw [c39b0] | (simp only [i64_w, i32_w]; rw [c39b0]) | skip)
            have H' := Aside0.mk H
            clear H
            go_wp2
            go_meet
            case rel => exact ⟨_, (1), rq, H', ⟨by have := HJ3.out; have := HJ14.out; have := HJ24.out; first | omega | exact Nat.le_refl _⟩, ⟨kz BK116⟩, ⟨bz1 HB GE116⟩⟩
          case rest =>
           clear HC37
           try clear c1
           try clear c2
           try clear p2
           try clear c3
           try clear c6
           try clear c6b0
           try clear c6b1
           try clear p6
           try clear c8
           try clear c9
           try clear c9b0
           try clear c9b1
           try clear c14
           try clear c16
           try clear c16b0
           try clear c16b1
           try clear c18
           try clear c19
           try clear c19b0
           try clear c19b1
           try clear c24
           try clear c27
           try clear c28
           try clear c28b0
           try clear c28b1
           try clear c30
           try clear c36
           try clear c39
           try clear c39b0
           try clear hcz10_0
           try clear hcz10_1
           try clear hcz10_2
           try clear hcz10_3
           try clear hcz11_0
           try clear hcz11_1
           try clear hcz11_2
           try clear hcz11_3
           try clear hcz12_0
           try clear hcz12_1
           try clear hcz12_2
           try clear hcz12_3
           try clear hcz13_0
           try clear hcz13_1
           try clear hcz13_2
           try clear hcz13_3
           try clear hcz20_0
           try clear hcz20_1
           try clear hcz20_2
           try clear hcz20_3
           try clear hcz21_0
           try clear hcz21_1
           try clear hcz21_2
           try clear hcz21_3
           try clear hcz22_0
           try clear hcz22_1
           try clear hcz22_2
           try clear hcz22_3
           try clear hcz23_0
           try clear hcz23_1
           try clear hcz23_2
           try clear hcz23_3
           try clear hcz32_0
           try clear hcz32_1
           try clear hcz32_2
           try clear hcz32_3
           try clear hcz33_0
           try clear hcz33_1
           try clear hcz33_2
           try clear hcz33_3
           try clear hcz34_0
           try clear hcz34_1
           try clear hcz34_2
           try clear hcz34_3
           try clear hcz35_0
           try clear hcz35_1
           try clear hcz35_2
           try clear hcz35_3
           try clear hcz38_0
           try clear hcz38_1
           try clear hcz38_2
           try clear hcz38_3
           try clear hfz10_0
           try clear hfz10_1
           try clear hfz10_2
           try clear hfz10_3
           try clear hfz11_0
           try clear hfz11_1
           try clear hfz11_2
           try clear hfz11_3
           try clear hfz12_0
           try clear hfz12_1
           try clear hfz12_2
           try clear hfz12_3
           try clear hfz13_0
           try clear hfz13_1
           try clear hfz13_2
           try clear hfz13_3
           try clear hfz20_0
           try clear hfz20_1
           try clear hfz20_2
           try clear hfz20_3
           try clear hfz21_0
           try clear hfz21_1
           try clear hfz21_2
           try clear hfz21_3
           try clear hfz22_0
           try clear hfz22_1
           try clear hfz22_2
           try clear hfz22_3
           try clear hfz23_0
           try clear hfz23_1
           try clear hfz23_2
           try clear hfz23_3
           try clear hfz32_0
           try clear hfz32_1
           try clear hfz32_2
           try clear hfz32_3
           try clear hfz33_0
           try clear hfz33_1
           try clear hfz33_2
           try clear hfz33_3
           try clear hfz34_0
           try clear hfz34_1
           try clear hfz34_2
           try clear hfz34_3
           try clear hfz35_0
           try clear hfz35_1
           try clear hfz35_2
           try clear hfz35_3
           try clear hfz38_0
           try clear hfz38_1
           try clear hfz38_2
           try clear hfz38_3
           try clear p2
           try clear p6
           obtain ⟨kq, x7_36, rfl, HA, HJ36, BK116, HB⟩ := hcut
           cases kq with
           | zero => exact absurd HA.out (by simp [spec_l1Kind.j3])
           | succ kj36 =>
            have H := HA.out
            clear HA
            simp only [spec_l1Kind.j3] at H
            have HC40 := Aside0.mk H
            clear H
            go_upto_region 10 with (fail)
            go_cut [103] (fun v103 wc => ∃ (kq : Nat) (x103_39 : Bool), v103 = .bool x103_39 ∧ Aside0 (spec_l1Kind.j4 kq x103_39 a0_0 a0_1 a0_2 a0_3 = some r) ∧ Aside0 (kq ≤ kj36) ∧ Aside0 (wc.heap[gb116]? = some (.cells #[.int .i64 a0_0, .int .i64 a0_1, .int .i64 a0_2, .int .i64 a0_3] 107 (0, 0))) ∧ Aside0 (Below w.heap.size w wc))
            case first =>
             have H := HC40.out
             clear HC40
             by_cases c41 : 0 ≤ a0_2
             ·
              rw [if_pos c41] at H
              have c41b0 : decide (0 ≤ a0_2) = true := decide_eq_true c41
              clear c41
              (first | rw [c41b0] | (simp only [i64_w, i32_w]; rw [c41b0]) | skip)
              by_cases c42 : a0_2 < (l1.length : Int)
              ·
               rw [if_pos c42] at H
               have c42b0 : decide (a0_2 < (l1.length : Int)) = true := decide_eq_true c42
               clear c42
               by_cases c43 : (rd l1 a0_2) = x7_36
               ·
                rw [if_pos c43] at H
                have c43b0 : ((rd l1 a0_2) == x7_36) = true := beq_iff_eq.mpr c43
                have c43b1 : ((rd l1 a0_2) != x7_36) = false := bne_eq_false_iff_eq.mpr c43
                clear c43
                by_cases c44 : 0 ≤ a0_3
                ·
                 rw [if_pos c44] at H
                 have c44b0 : decide (0 ≤ a0_3) = true := decide_eq_true c44
                 clear c44
                 by_cases c45 : a0_3 < (l1.length : Int)
                 ·
                  rw [if_pos c45] at H
                  have c45b0 : decide (a0_3 < (l1.length : Int)) = true := decide_eq_true c45
                  clear c45
                  by_cases c46 : (rd l1 a0_3) = x7_36
                  ·
                   rw [if_pos c46] at H
                   have c46b0 : ((rd l1 a0_3) == x7_36) = true := beq_iff_eq.mpr c46
                   have c46b1 : ((rd l1 a0_3) != x7_36) = false := bne_eq_false_iff_eq.mpr c46
                   clear c46
                   replace H := Option.bind_eq_some_iff.mp H
                   obtain ⟨t124, A470, H⟩ := H
                   have A47 := Aside0.mk A470
                   clear A470
                   by_cases c48 : t124 = true
                   ·
                    subst c48
                    rw [if_pos rfl] at H
                    have H' := Aside0.mk H
                    clear H
                    have hcz49_0 : wc.cell? ⟨gb116, 0, none⟩ = some (.int .i64 a0_0) := (blk_cell BK116.out 0).trans rfl
                    have hcz49_1 : wc.cell? ⟨gb116, 1, none⟩ = some (.int .i64 a0_1) := (blk_cell BK116.out 1).trans rfl
                    have hcz49_2 : wc.cell? ⟨gb116, 2, none⟩ = some (.int .i64 a0_2) := (blk_cell BK116.out 2).trans rfl
                    have hcz49_3 : wc.cell? ⟨gb116, 3, none⟩ = some (.int .i64 a0_3) := (blk_cell BK116.out 3).trans rfl
                    have hfz49_0 := blk_frozen BK116.out 0
                    have hfz49_1 := blk_frozen BK116.out 1
                    have hfz49_2 := blk_frozen BK116.out 2
                    have hfz49_3 := blk_frozen BK116.out 3
                    have p122 : 0 ≤ (a0_2 : Int) := dz
                    have q122 : a0_2 < (l1.length : Int) := dz
                    obtain ⟨ad122, e122, hx122_0⟩ := Kd.at_int HR1.out a0_2 p122 q122
                    cases e122
                    replace hx122_0 := xz HB hx122_0
                    replace p122 := eq_true p122
                    replace q122 := eq_true q122
                    have p123 : 0 ≤ (a0_3 : Int) := dz
                    have q123 : a0_3 < (l1.length : Int) := dz
                    obtain ⟨ad123, e123, hx123_0⟩ := Kd.at_int HR1.out a0_3 p123 q123
                    obtain rfl : ad122 = ad123 := (by injection e123)
                    replace hx123_0 := xz HB hx123_0
                    replace p123 := eq_true p123
                    replace q123 := eq_true q123
                    go_wp2_with (first | (go_at_call 166; (with_reducible refine (spec_l1One.calls a0_0 true _ A47.out).mono ?_); rintro e w' ⟨rfl, ⟨nd, rfl⟩⟩))
                    go_meet
                    case rel => exact ⟨_, ((a0_3 != a0_2)), rq, H', ⟨by have := HJ3.out; have := HJ14.out; have := HJ24.out; have := HJ36.out; first | omega | exact Nat.le_refl _⟩, ⟨kz BK116⟩, ⟨bz1 HB GE116⟩⟩
                   ·
                    replace c48 := Bool.eq_false_iff.mpr c48
                    subst c48
                    rw [if_neg nt_] at H
                    have H' := Aside0.mk H
                    clear H
                    have hcz50_0 : wc.cell? ⟨gb116, 0, none⟩ = some (.int .i64 a0_0) := (blk_cell BK116.out 0).trans rfl
                    have hcz50_1 : wc.cell? ⟨gb116, 1, none⟩ = some (.int .i64 a0_1) := (blk_cell BK116.out 1).trans rfl
                    have hcz50_2 : wc.cell? ⟨gb116, 2, none⟩ = some (.int .i64 a0_2) := (blk_cell BK116.out 2).trans rfl
                    have hcz50_3 : wc.cell? ⟨gb116, 3, none⟩ = some (.int .i64 a0_3) := (blk_cell BK116.out 3).trans rfl
                    have hfz50_0 := blk_frozen BK116.out 0
                    have hfz50_1 := blk_frozen BK116.out 1
                    have hfz50_2 := blk_frozen BK116.out 2
                    have hfz50_3 := blk_frozen BK116.out 3
                    have p122 : 0 ≤ (a0_2 : Int) := dz
                    have q122 : a0_2 < (l1.length : Int) := dz
                    obtain ⟨ad122, e122, hx122_0⟩ := Kd.at_int HR1.out a0_2 p122 q122
                    cases e122
                    replace hx122_0 := xz HB hx122_0
                    replace p122 := eq_true p122
                    replace q122 := eq_true q122
                    have p123 : 0 ≤ (a0_3 : Int) := dz
                    have q123 : a0_3 < (l1.length : Int) := dz
                    obtain ⟨ad123, e123, hx123_0⟩ := Kd.at_int HR1.out a0_3 p123 q123
                    obtain rfl : ad122 = ad123 := (by injection e123)
                    replace hx123_0 := xz HB hx123_0
                    replace p123 := eq_true p123
                    replace q123 := eq_true q123
                    go_wp2_with (first | (go_at_call 166; (with_reducible refine (spec_l1One.calls a0_0 false _ A47.out).mono ?_); rintro e w' ⟨rfl, ⟨nd, rfl⟩⟩))
                    go_meet
                    case rel => exact ⟨_, (false), rq, H', ⟨by have := HJ3.out; have := HJ14.out; have := HJ24.out; have := HJ36.out; first | omega | exact Nat.le_refl _⟩, ⟨kz BK116⟩, ⟨bz1 HB GE116⟩⟩
                  ·
                   rw [if_neg c46] at H
                   have c46b0 : ((rd l1 a0_3) == x7_36) = false := beq_eq_false_iff_ne.mpr c46
                   have c46b1 : ((rd l1 a0_3) != x7_36) = true := bne_iff_ne.mpr c46
                   have H' := Aside0.mk H
                   clear H
                   have hcz51_0 : wc.cell? ⟨gb116, 0, none⟩ = some (.int .i64 a0_0) := (blk_cell BK116.out 0).trans rfl
                   have hcz51_1 : wc.cell? ⟨gb116, 1, none⟩ = some (.int .i64 a0_1) := (blk_cell BK116.out 1).trans rfl
                   have hcz51_2 : wc.cell? ⟨gb116, 2, none⟩ = some (.int .i64 a0_2) := (blk_cell BK116.out 2).trans rfl
                   have hcz51_3 : wc.cell? ⟨gb116, 3, none⟩ = some (.int .i64 a0_3) := (blk_cell BK116.out 3).trans rfl
                   have hfz51_0 := blk_frozen BK116.out 0
                   have hfz51_1 := blk_frozen BK116.out 1
                   have hfz51_2 := blk_frozen BK116.out 2
                   have hfz51_3 := blk_frozen BK116.out 3
                   have p122 : 0 ≤ (a0_2 : Int) := dz
                   have q122 : a0_2 < (l1.length : Int) := dz
                   obtain ⟨ad122, e122, hx122_0⟩ := Kd.at_int HR1.out a0_2 p122 q122
                   cases e122
                   replace hx122_0 := xz HB hx122_0
                   replace p122 := eq_true p122
                   replace q122 := eq_true q122
                   have p123 : 0 ≤ (a0_3 : Int) := dz
                   have q123 : a0_3 < (l1.length : Int) := dz
                   obtain ⟨ad123, e123, hx123_0⟩ := Kd.at_int HR1.out a0_3 p123 q123
                   obtain rfl : ad122 = ad123 := (by injection e123)
                   replace hx123_0 := xz HB hx123_0
                   replace p123 := eq_true p123
                   replace q123 := eq_true q123
                   go_wp2
                   go_meet
                   case rel => exact ⟨_, (true), rq, H', ⟨by have := HJ3.out; have := HJ14.out; have := HJ24.out; have := HJ36.out; first | omega | exact Nat.le_refl _⟩, ⟨kz BK116⟩, ⟨bz1 HB GE116⟩⟩
                 ·
                  rw [if_neg c45] at H
                  exact absurd H (by simp)
                ·
                 rw [if_neg c44] at H
                 exact absurd H (by simp)
               ·
                rw [if_neg c43] at H
                have c43b0 : ((rd l1 a0_2) == x7_36) = false := beq_eq_false_iff_ne.mpr c43
                have c43b1 : ((rd l1 a0_2) != x7_36) = true := bne_iff_ne.mpr c43
                have H' := Aside0.mk H
                clear H
                have hcz52_0 : wc.cell? ⟨gb116, 0, none⟩ = some (.int .i64 a0_0) := (blk_cell BK116.out 0).trans rfl
                have hcz52_1 : wc.cell? ⟨gb116, 1, none⟩ = some (.int .i64 a0_1) := (blk_cell BK116.out 1).trans rfl
                have hcz52_2 : wc.cell? ⟨gb116, 2, none⟩ = some (.int .i64 a0_2) := (blk_cell BK116.out 2).trans rfl
                have hcz52_3 : wc.cell? ⟨gb116, 3, none⟩ = some (.int .i64 a0_3) := (blk_cell BK116.out 3).trans rfl
                have hfz52_0 := blk_frozen BK116.out 0
                have hfz52_1 := blk_frozen BK116.out 1
                have hfz52_2 := blk_frozen BK116.out 2
                have hfz52_3 := blk_frozen BK116.out 3
                have p122 : 0 ≤ (a0_2 : Int) := dz
                have q122 : a0_2 < (l1.length : Int) := dz
                obtain ⟨ad122, e122, hx122_0⟩ := Kd.at_int HR1.out a0_2 p122 q122
                cases e122
                replace hx122_0 := xz HB hx122_0
                replace p122 := eq_true p122
                replace q122 := eq_true q122
                go_wp2
                go_meet
                case rel => exact ⟨_, (true), rq, H', ⟨by have := HJ3.out; have := HJ14.out; have := HJ24.out; have := HJ36.out; first | omega | exact Nat.le_refl _⟩, ⟨kz BK116⟩, ⟨bz1 HB GE116⟩⟩
              ·
               rw [if_neg c42] at H
               exact absurd H (by simp)
             ·
              rw [if_neg c41] at H
              exact absurd H (by simp)
            case rest =>
             clear HC40
             try clear c1
             try clear p1
             try clear q1
             try clear hx1
             try clear c2
             try clear p2
             try clear c3
             try clear c4
             try clear c6
             try clear c6b0
             try clear c6b1
             try clear p6
             try clear c8
             try clear c9
             try clear c9b0
             try clear c9b1
             try clear p12
             try clear q12
             try clear hx12
             try clear c14
             try clear c16
             try clear c16b0
             try clear c16b1
             try clear c18
             try clear c19
             try clear c19b0
             try clear c19b1
             try clear c24
             try clear c27
             try clear c28
             try clear c28b0
             try clear c28b1
             try clear c30
             try clear c36
             try clear c39
             try clear c39b0
             try clear c41
             try clear c41b0
             try clear c42
             try clear c42b0
             try clear c43
             try clear c43b0
             try clear c43b1
             try clear c44
             try clear c44b0
             try clear c45
             try clear c45b0
             try clear c46
             try clear c46b0
             try clear c46b1
             try clear c48
             try clear hcz10_0
             try clear hcz10_1
             try clear hcz10_2
             try clear hcz10_3
             try clear hcz11_0
             try clear hcz11_1
             try clear hcz11_2
             try clear hcz11_3
             try clear hcz12_0
             try clear hcz12_1
             try clear hcz12_2
             try clear hcz12_3
             try clear hcz13_0
             try clear hcz13_1
             try clear hcz13_2
             try clear hcz13_3
             try clear hcz20_0
             try clear hcz20_1
             try clear hcz20_2
             try clear hcz20_3
             try clear hcz21_0
             try clear hcz21_1
             try clear hcz21_2
             try clear hcz21_3
             try clear hcz22_0
             try clear hcz22_1
             try clear hcz22_2
             try clear hcz22_3
             try clear hcz23_0
             try clear hcz23_1
             try clear hcz23_2
             try clear hcz23_3
             try clear hcz32_0
             try clear hcz32_1
             try clear hcz32_2
             try clear hcz32_3
             try clear hcz33_0
             try clear hcz33_1
             try clear hcz33_2
             try clear hcz33_3
             try clear hcz34_0
             try clear hcz34_1
             try clear hcz34_2
             try clear hcz34_3
             try clear hcz35_0
             try clear hcz35_1
             try clear hcz35_2
             try clear hcz35_3
             try clear hcz38_0
             try clear hcz38_1
             try clear hcz38_2
             try clear hcz38_3
             try clear hcz49_0
             try clear hcz49_1
             try clear hcz49_2
             try clear hcz49_3
             try clear hcz50_0
             try clear hcz50_1
             try clear hcz50_2
             try clear hcz50_3
             try clear hcz51_0
             try clear hcz51_1
             try clear hcz51_2
             try clear hcz51_3
             try clear hcz52_0
             try clear hcz52_1
             try clear hcz52_2
             try clear hcz52_3
             try clear hfz10_0
             try clear hfz10_1
             try clear hfz10_2
             try clear hfz10_3
             try clear hfz11_0
             try clear hfz11_1
             try clear hfz11_2
             try clear hfz11_3
             try clear hfz12_0
             try clear hfz12_1
             try clear hfz12_2
             try clear hfz12_3
             try clear hfz13_0
             try clear hfz13_1
             try clear hfz13_2
             try clear hfz13_3
             try clear hfz20_0
             try clear hfz20_1
             try clear hfz20_2
             try clear hfz20_3
             try clear hfz21_0
             try clear hfz21_1
             try clear hfz21_2
             try clear hfz21_3
             try clear hfz22_0
             try clear hfz22_1
             try clear hfz22_2
             try clear hfz22_3
             try clear hfz23_0
             try clear hfz23_1
             try clear hfz23_2
             try clear hfz23_3
             try clear hfz32_0
             try clear hfz32_1
             try clear hfz32_2
             try clear hfz32_3
             try clear hfz33_0
             try clear hfz33_1
             try clear hfz33_2
             try clear hfz33_3
             try clear hfz34_0
             try clear hfz34_1
             try clear hfz34_2
             try clear hfz34_3
             try clear hfz35_0
             try clear hfz35_1
             try clear hfz35_2
             try clear hfz35_3
             try clear hfz38_0
             try clear hfz38_1
             try clear hfz38_2
             try clear hfz38_3
             try clear hfz49_0
             try clear hfz49_1
             try clear hfz49_2
             try clear hfz49_3
             try clear hfz50_0
             try clear hfz50_1
             try clear hfz50_2
             try clear hfz50_3
             try clear hfz51_0
             try clear hfz51_1
             try clear hfz51_2
             try clear hfz51_3
             try clear hfz52_0
             try clear hfz52_1
             try clear hfz52_2
             try clear hfz52_3
             try clear hx122_0
             try clear hx123_0
             try clear p122
             try clear p123
             try clear p2
             try clear p6
             try clear q122
             try clear q123
             obtain ⟨kq, x103_39, rfl, HA, HJ39, BK116, HB⟩ := hcut
             cases kq with
             | zero => exact absurd HA.out (by simp [spec_l1Kind.j4])
             | succ kj39 =>
              have H := HA.out
              clear HA
              simp only [spec_l1Kind.j4] at H
              by_cases c53 : x103_39 = true
              ·
               subst c53
               rw [if_pos rfl] at H
               obtain rfl := Option.some.inj H
               go_wp2
               go_ret
               exact ⟨rz, bz1 HB GE116⟩
              ·
               replace c53 := Bool.eq_false_iff.mpr c53
               subst c53
               rw [if_neg nt_] at H
               by_cases c54 : a0_0 ≥ 5
               ·
                rw [if_pos c54] at H
                have c54b0 : decide (5 ≤ a0_0) = true := decide_eq_true c54
                clear c54
                obtain rfl := Option.some.inj H
                have hcz55_0 : wc.cell? ⟨gb116, 0, none⟩ = some (.int .i64 a0_0) := (blk_cell BK116.out 0).trans rfl
                have hcz55_1 : wc.cell? ⟨gb116, 1, none⟩ = some (.int .i64 a0_1) := (blk_cell BK116.out 1).trans rfl
                have hcz55_2 : wc.cell? ⟨gb116, 2, none⟩ = some (.int .i64 a0_2) := (blk_cell BK116.out 2).trans rfl
                have hcz55_3 : wc.cell? ⟨gb116, 3, none⟩ = some (.int .i64 a0_3) := (blk_cell BK116.out 3).trans rfl
                have hfz55_0 := blk_frozen BK116.out 0
                have hfz55_1 := blk_frozen BK116.out 1
                have hfz55_2 := blk_frozen BK116.out 2
                have hfz55_3 := blk_frozen BK116.out 3
                go_wp2
                go_ret
                exact ⟨rz, bz1 HB GE116⟩
               ·
                rw [if_neg c54] at H
                have c54b0 : decide (5 ≤ a0_0) = false := decide_eq_false c54
                clear c54
                obtain rfl := Option.some.inj H
                have hcz56_0 : wc.cell? ⟨gb116, 0, none⟩ = some (.int .i64 a0_0) := (blk_cell BK116.out 0).trans rfl
                have hcz56_1 : wc.cell? ⟨gb116, 1, none⟩ = some (.int .i64 a0_1) := (blk_cell BK116.out 1).trans rfl
                have hcz56_2 : wc.cell? ⟨gb116, 2, none⟩ = some (.int .i64 a0_2) := (blk_cell BK116.out 2).trans rfl
                have hcz56_3 : wc.cell? ⟨gb116, 3, none⟩ = some (.int .i64 a0_3) := (blk_cell BK116.out 3).trans rfl
                have hfz56_0 := blk_frozen BK116.out 0
                have hfz56_1 := blk_frozen BK116.out 1
                have hfz56_2 := blk_frozen BK116.out 2
                have hfz56_3 := blk_frozen BK116.out 3
                go_wp2
                go_ret
                exact ⟨rz, bz1 HB GE116⟩
end Go.Proofs.Ytndmhmekmkgccaa.PFnExactInRange
end
section
namespace Go.Proofs.Ytndmhmekmkgccaa.PFnExactInRange
open Go.RowKit Go.Proofs.YtndmhmekmkgccaaW.PrintWords Go.Proofs.YtndmhmekmkgccaaW.PrintLast Go.Proofs.YtndmhmekmkgccaaW.PrintMore
attribute [local go_sem] max2_int min2_int max_two min_two max_three min_three max_four min_four   -- for this text's walks alone
set_option linter.unusedVariables false
set_option linter.unusedSimpArgs false
set_option maxHeartbeats 8000000 in
set_option maxRecDepth 100000 in
theorem spec_KindsOf.calls (k : Nat) (A0 : Option Addr) (c0 : Nat) (l0 : List (ITerm)) (a1 : Int) (r : List Int) (w : World) (hr0 : Kd.C k107 w A0 l0.length l0) (hc0 : l0.length ≤ c0) (h : spec_KindsOf.f k l0 a1 = some r) :
  Calls Try.prog 142 #[.slice A0 l0.length c0, .int .i64 a1] w fun e w' => ∃ v0_ : Value, e = .returned (v0_) ∧ Kd.R (Kd.int .i64) 3 w' w.heap.size (fun _ => True) v0_ r ∧ Below w.heap.size w w' := by
 have hu107 := Try.underlying107
 have HR0 := Aside0.mk hr0
 have HC0 := Aside0.mk hc0
 clear hr0 hc0
 have HB := Aside0.mk (Below.refl w.heap.size w)
 have H : ((spec_l1In.f a1 0 5).bind fun t125 => (if t125 = true then ((spec_l1In.f (l0.length : Int) 1 40).bind fun t126 => (spec_KindsOf.j0 k l0 a1 (!t126))) else (spec_KindsOf.j0 k l0 a1 true))) = some r := h
 clear h
 have HC3 := Aside0.mk H
 clear H
 go_enter Try.func142, Try.ntmps142
 go_upto_region 1 with (fail)
 go_cut [16] (fun v16 wc => ∃ (kq : Nat) (x16_2 : Bool), v16 = .bool x16_2 ∧ Aside0 (spec_KindsOf.j0 kq l0 a1 x16_2 = some r) ∧ Aside0 (kq ≤ k) ∧ Aside0 (Below w.heap.size w wc))
 case first =>
  have H := HC3.out
  clear HC3
  replace H := Option.bind_eq_some_iff.mp H
  obtain ⟨t125, A40, H⟩ := H
  have A4 := Aside0.mk A40
  clear A40
  by_cases c5 : t125 = true
  ·
   subst c5
   rw [if_pos rfl] at H
   replace H := Option.bind_eq_some_iff.mp H
   obtain ⟨t126, A60, H⟩ := H
   have A6 := Aside0.mk A60
   clear A60
   have H' := Aside0.mk H
   clear H
   go_wp2_with (first | ((with_reducible refine gate_callee (f := 92) rfl ?_); refine goesL_ (some 9) rfl rfl Try.func92 (by kernel_rfl) rfl #[.int .i64 a1, .int .i64 0, .int .i64 5] rfl az ?_; (with_reducible refine (spec_l1In.calls a1 0 5 true _ A4.out).mono ?_); rintro e w' ⟨rfl, ⟨nd, rfl⟩⟩; refine ⟨_, rfl, ?_⟩) | (go_at_call 92; (with_reducible refine (spec_l1In.calls (l0.length : Int) 1 40 t126 _ A6.out).mono ?_); rintro e w' ⟨rfl, ⟨nd, rfl⟩⟩))
   go_meet
   case rel => exact ⟨_, (!t126), rq, H', ⟨by first | omega | exact Nat.le_refl _⟩, ⟨bz HB⟩⟩
  ·
   replace c5 := Bool.eq_false_iff.mpr c5
   subst c5
   rw [if_neg nt_] at H
   have H' := Aside0.mk H
   clear H
   go_wp2_with (first | ((with_reducible refine gate_callee (f := 92) rfl ?_); refine goesL_ (some 9) rfl rfl Try.func92 (by kernel_rfl) rfl #[.int .i64 a1, .int .i64 0, .int .i64 5] rfl az ?_; (with_reducible refine (spec_l1In.calls a1 0 5 false _ A4.out).mono ?_); rintro e w' ⟨rfl, ⟨nd, rfl⟩⟩; refine ⟨_, rfl, ?_⟩))
   go_meet
   case rel => exact ⟨_, (true), rq, H', ⟨by first | omega | exact Nat.le_refl _⟩, ⟨bz HB⟩⟩
 case rest =>
  clear HC3
  try clear c1
  try clear p2
  try clear c5
  obtain ⟨kq, x16_2, rfl, HA, HJ2, HB⟩ := hcut
  cases kq with
  | zero => exact absurd HA.out (by simp [spec_KindsOf.j0])
  | succ kj2 =>
   have H := HA.out
   clear HA
   simp only [spec_KindsOf.j0] at H
   by_cases c7 : x16_2 = true
   ·
    subst c7
    rw [if_pos rfl] at H
    obtain rfl := Option.some.inj H
    go_wp2
    go_ret
    exact ⟨_, rz, nz, bz HB⟩
   ·
    replace c7 := Bool.eq_false_iff.mpr c7
    subst c7
    rw [if_neg nt_] at H
    obtain ⟨y127, hy127⟩ : ∃ y_ : List Int, y_ = (([] : List Int)) := ⟨_, rfl⟩
    replace H : (spec_KindsOf.l0 kj2 l0 a1 y127 0) = some r := by first | (rw [hy127]; with_reducible exact H) | (have H2_ := (Option.bind_some _ _).symm.trans H; rw [hy127]; with_reducible exact H2_) | (have H2_ := (Option.bind_some _ _).symm.trans H; with_reducible exact H2_) | with_reducible exact H | (rw [hy127]; exact H) | exact H
    have Ny127 := Aside0.mk hy127
    clear hy127
    have H' := Aside0.mk H
    clear H
    go_wp2_with (first | ((with_reducible refine gate_dst (N := 17) rfl ?_); (try (refine gate_guard (by rfl) ?_; dsimp only)); refine Kd.R_lit (Kd.int .i64) _ 3 ?hg (N := 17) ?hd (xs := ([] : List Int)) (inner := []) (ok := fun _ => True) (okp := fun _ => True) ?hr ?hp (fun _ hk => hk) trivial (Below.refl _ _) (Nat.le_refl _) (by simp) ?_; (case hd => rfl); (case hg => rfl); (case hr => first | (go_simp; done) | (go_simp; rfl)); (case hp => exact (Reps.none _ _)); intro v128 w8 ho9 hb hg_ hnew_; clear hg_ hnew_; (first | rw [← Ny127.out] at ho9 | (simp only [Int.reduceToNat] at ho9; rw [← Ny127.out] at ho9)); have HO129 := Aside0.mk (Kd.R_lower ho9 (below_size (bz HB))); replace HB := Aside0.mk (below_step (bz HB) hb); clear hb ho9))
    go_loopg [5, 6] kj2 (fun kq v5 v6 w' => ∃ (x5_2 : List Int) (x6_2 : Int), v6 = .int .i64 x6_2 ∧ Aside0 (spec_KindsOf.l0 kq l0 a1 x5_2 x6_2 = some r) ∧ Aside0 (kq ≤ kj2) ∧ Aside0 (Kd.R (Kd.int .i64) 3 w' w.heap.size (fun _ => True) v5 x5_2) ∧ Aside0 (Below w.heap.size w w'))
    case atStart => exact ⟨(y127), (0), rq, H', ⟨Nat.le_refl _⟩, ⟨ozR HO129⟩, ⟨bz HB⟩⟩
    case round =>
     clear H'
     try clear c1
     try clear p2
     try clear c5
     try clear c7
     try clear c9
     try clear p2
     obtain ⟨x5_2, x6_2, rfl, HA, HK2, HO_5, HB⟩ := hrel
     cases gk with
     | zero => exact absurd HA.out (by simp [spec_KindsOf.l0])
     | succ k2 =>
      have H := HA.out
      clear HA
      simp only [spec_KindsOf.l0] at H
      by_cases c10 : x6_2 < (l0.length : Int)
      ·
       rw [if_pos c10] at H
       have c10b0 : decide (x6_2 < (l0.length : Int)) = true := decide_eq_true c10
       clear c10
       by_cases c11 : 0 ≤ x6_2
       ·
        rw [if_pos c11] at H
        have c11b0 : decide (0 ≤ x6_2) = true := decide_eq_true c11
        clear c11
        replace H := Option.bind_eq_some_iff.mp H
        obtain ⟨t131, A120, H⟩ := H
        have A12 := Aside0.mk A120
        clear A120
        by_cases c13 : t131 = 0
        ·
         rw [if_pos c13] at H
         have c13b0 : (t131 == 0) = true := beq_iff_eq.mpr c13
         have c13b1 : (t131 != 0) = false := bne_eq_false_iff_eq.mpr c13
         clear c13
         obtain rfl := Option.some.inj H
         have p130 : 0 ≤ (x6_2 : Int) := dz
         have q130 : x6_2 < (l0.length : Int) := dz
         obtain ⟨ad130, e130, hx130_0, hx130_1, hx130_2, hx130_3⟩ := at_ITerm HR0.out x6_2 p130 q130
         cases e130
         replace hx130_0 := xz HB hx130_0
         replace hx130_1 := xz HB hx130_1
         replace hx130_2 := xz HB hx130_2
         replace hx130_3 := xz HB hx130_3
         replace p130 := eq_true p130
         replace q130 := eq_true q130
         obtain ⟨Ao14, co14, eo14⟩ := Kd.R_slice HO_5.out
         subst eo14
         go_wp2_with (first | ((with_reducible refine gate_callee (f := 167) rfl ?_); refine goesL_ (some 30) rfl rfl Try.func167 (by kernel_rfl) rfl #[.agg #[.int .i64 ((rd_ITerm l0 x6_2).f0), .int .i64 ((rd_ITerm l0 x6_2).f1), .int .i64 ((rd_ITerm l0 x6_2).f2), .int .i64 ((rd_ITerm l0 x6_2).f3)], .slice Ao14 x5_2.length co14, .int .i64 a1] rfl az ?_; (with_reducible refine (spec_l1Kind.calls k2 ((rd_ITerm l0 x6_2).f0) ((rd_ITerm l0 x6_2).f1) ((rd_ITerm l0 x6_2).f2) ((rd_ITerm l0 x6_2).f3) _ _ x5_2 a1 t131 _ ?side1 ?side2 A12.out).mono ?_); (case side1 => exact cz1 (Kd.R_reads' HO_5.out).2.2); (case side2 => exact (Kd.R_reads' HO_5.out).2.1); rintro e w15 ⟨rfl, hb⟩; refine ⟨_, rfl, ?_⟩; replace HO_5 := Aside0.mk (Kd.R_below (ozR HO_5) hb); replace HB := Aside0.mk (below_step (bz HB) hb); clear hb))
         go_ret
         exact ⟨_, rz, nz, bz HB⟩
        ·
         rw [if_neg c13] at H
         have c13b0 : (t131 == 0) = false := beq_eq_false_iff_ne.mpr c13
         have c13b1 : (t131 != 0) = true := bne_iff_ne.mpr c13
         by_cases c16 : x5_2.length < 17592186044416
         ·
          rw [if_pos c16] at H
          have LMc16 := Aside0.mk c16
          clear c16
          obtain ⟨y132, hy132⟩ : ∃ y_ : List Int, y_ = (x5_2 ++ [t131]) := ⟨_, rfl⟩
          replace H : (spec_KindsOf.l0 k2 l0 a1 y132 (wrap64 (x6_2 + 1))) = some r := by first | (rw [hy132]; with_reducible exact H) | (have H2_ := (Option.bind_some _ _).symm.trans H; rw [hy132]; with_reducible exact H2_) | (have H2_ := (Option.bind_some _ _).symm.trans H; with_reducible exact H2_) | with_reducible exact H | (rw [hy132]; exact H) | exact H
          have Ny132 := Aside0.mk hy132
          clear hy132
          have H' := Aside0.mk H
          clear H
          have p130 : 0 ≤ (x6_2 : Int) := dz
          have q130 : x6_2 < (l0.length : Int) := dz
          obtain ⟨ad130, e130, hx130_0, hx130_1, hx130_2, hx130_3⟩ := at_ITerm HR0.out x6_2 p130 q130
          cases e130
          replace hx130_0 := xz HB hx130_0
          replace hx130_1 := xz HB hx130_1
          replace hx130_2 := xz HB hx130_2
          replace hx130_3 := xz HB hx130_3
          replace p130 := eq_true p130
          replace q130 := eq_true q130
          obtain ⟨Ao17, co17, eo17⟩ := Kd.R_slice HO_5.out
          subst eo17
          go_wp2_with (first | ((with_reducible refine gate_callee (f := 167) rfl ?_); refine goesL_ (some 30) rfl rfl Try.func167 (by kernel_rfl) rfl #[.agg #[.int .i64 ((rd_ITerm l0 x6_2).f0), .int .i64 ((rd_ITerm l0 x6_2).f1), .int .i64 ((rd_ITerm l0 x6_2).f2), .int .i64 ((rd_ITerm l0 x6_2).f3)], .slice Ao17 x5_2.length co17, .int .i64 a1] rfl az ?_; (with_reducible refine (spec_l1Kind.calls k2 ((rd_ITerm l0 x6_2).f0) ((rd_ITerm l0 x6_2).f1) ((rd_ITerm l0 x6_2).f2) ((rd_ITerm l0 x6_2).f3) _ _ x5_2 a1 t131 _ ?side1 ?side2 A12.out).mono ?_); (case side1 => exact cz1 (Kd.R_reads' HO_5.out).2.2); (case side2 => exact (Kd.R_reads' HO_5.out).2.1); rintro e w18 ⟨rfl, hb⟩; refine ⟨_, rfl, ?_⟩; replace HO_5 := Aside0.mk (Kd.R_below (ozR HO_5) hb); replace HB := Aside0.mk (below_step (bz HB) hb); clear hb) | ((with_reducible refine gate_builtin (b := .append) (xs := #[.tmp 33, .tmp 35]) rfl ?_); (try (refine gate_guard (by rfl) ?_; dsimp only)); at_builtin; refine Kd.R_append (Kd.int .i64) (w0 := w) w.heap.size rfl (.tmp 33) (.tmp 35) 26 3 (.int .i64 0) 8 rfl Try.underlying26 info3 rfl (by decide) (by omega) (.slice Ao17 x5_2.length co17) x5_2 t131 [.int .i64 t131] (fun _ => True) (fun _ => False) rfl rfl ?aP (fun _ hk => hk.elim) ?aF ?aO ?aB ?aS ?aL ?_; (case aP => exact rfl); (case aB => exact (bz HB)); (case aF => exact (fun _ _ => trivial)); (case aO => exact (ozR HO_5)); (case aS => exact (below_size (bz HB))); (case aL => have := LMc16.out; omega); intro v133 w19 ho hb hg hat; rw [← Ny132.out] at ho; replace HB := Aside0.mk (hb); have HO134 := Aside0.mk (ho); clear HO_5; clear ho hb hg hat))
          go_roundg k2
          case measure => have := HJ2.out; have := HK2.out; omega
          case rel => exact ⟨(y132), (wrap64 (x6_2 + 1)), rq, H', ⟨by have := HJ2.out; have := HK2.out; omega⟩, ⟨ozR HO134⟩, ⟨bz HB⟩⟩
         ·
          rw [if_neg c16] at H
          exact absurd H (by simp)
       ·
        rw [if_neg c11] at H
        exact absurd H (by simp)
      ·
       rw [if_neg c10] at H
       have c10b0 : decide (x6_2 < (l0.length : Int)) = false := decide_eq_false c10
       clear c10
       obtain rfl := Option.some.inj H
       go_wp2
       go_ret
       exact ⟨_, rz, ozR HO_5, bz HB⟩
end Go.Proofs.Ytndmhmekmkgccaa.PFnExactInRange
end
section
namespace Go.Proofs.Ytndmhmekmkgccaa.PFnExactInRange
open Go.RowKit Go.Proofs.YtndmhmekmkgccaaW.PrintWords Go.Proofs.YtndmhmekmkgccaaW.PrintLast Go.Proofs.YtndmhmekmkgccaaW.PrintMore
attribute [local go_sem] max2_int min2_int max_two min_two max_three min_three max_four min_four   -- for this text's walks alone
set_option linter.unusedVariables false
set_option linter.unusedSimpArgs false
set_option maxHeartbeats 8000000 in
set_option maxRecDepth 100000 in
theorem spec_l2Is.calls (k : Nat) (A0 : Option Addr) (c0 : Nat) (l0 : List (ITerm)) (a1 : Int) (a2 : Int) (r : Bool) (w : World) (hr0 : Kd.C k107 w A0 l0.length l0) (hc0 : l0.length ≤ c0) (h : spec_l2Is.f k l0 a1 a2 = some r) :
  Calls Try.prog 156 #[.slice A0 l0.length c0, .int .i64 a1, .int .i64 a2] w fun e w' => e = .returned (.bool r) ∧ Below w.heap.size w w' := by
 have HR0 := Aside0.mk hr0
 have HC0 := Aside0.mk hc0
 clear hr0 hc0
 have HB := Aside0.mk (Below.refl w.heap.size w)
 have H : ((spec_KindsOf.f k l0 a1).bind fun t135 => (if (t135.length : Int) > 0 then (if 0 ≤ (wrap64 ((t135.length : Int) - 1)) then (if (wrap64 ((t135.length : Int) - 1)) < (t135.length : Int) then (some ((rd t135 (wrap64 ((t135.length : Int) - 1))) == a2)) else (none)) else (none)) else (some false))) = some r := h
 clear h
 replace H := Option.bind_eq_some_iff.mp H
 obtain ⟨t135, A40, H⟩ := H
 have A4 := Aside0.mk A40
 clear A40
 by_cases c5 : (t135.length : Int) > 0
 ·
  rw [if_pos c5] at H
  have c5b0 : decide (0 < (t135.length : Int)) = true := decide_eq_true c5
  have c5b1 : decide (0 < t135.length) = true := decide_eq_true (by omega)
  clear c5
  obtain ⟨ji6, hji6⟩ : ∃ j_ : Int, (wrap64 ((t135.length : Int) - 1)) = j_ := ⟨_, rfl⟩
  replace H : (if 0 ≤ (ji6) then (if (ji6) < (t135.length : Int) then (some ((rd t135 (ji6)) == a2)) else (none)) else (none)) = some r := by first | (rw [hji6] at H; exact H) | (simp only [hji6] at H ⊢; exact H)
  (try rw [hji6] at A4)
  have hji6w : (IntKind.i64.wrap ((t135.length : Int) - 1)) = ji6 := (i64_w _).trans hji6
  by_cases c7 : 0 ≤ (ji6)
  ·
   rw [if_pos c7] at H
   have c7b0 : decide (0 ≤ (ji6)) = true := decide_eq_true c7
   clear c7
   by_cases c8 : (ji6) < (t135.length : Int)
   ·
    rw [if_pos c8] at H
    have c8b0 : decide ((ji6) < (t135.length : Int)) = true := decide_eq_true c8
    clear c8
    obtain rfl := Option.some.inj H
    go_enter Try.func156, Try.ntmps156
    go_wp2_with (first | ((with_reducible refine gate_callee (f := 142) rfl ?_); refine goesL_ (some 10) rfl rfl Try.func142 (by kernel_rfl) rfl #[.slice A0 l0.length c0, .int .i64 a1] rfl az ?_; (with_reducible refine (spec_KindsOf.calls k _ _ l0 a1 t135 _ ?side1 HC0.out A4.out).mono ?_); (case side1 => exact cz0 HR0); rintro e w9 ⟨v136, rfl, ho0, hb⟩; refine ⟨_, rfl, ?_⟩; have HO137 := Aside0.mk (Kd.R_lower ho0 (below_size (bz HB))); replace HB := Aside0.mk (below_step (bz HB) hb); clear hb; (try clear ho0); obtain ⟨Ao10, co10, eo10⟩ := Kd.R_slice HO137.out; subst eo10; have p138 : 0 ≤ ((ji6) : Int) := dz; have q138 : (ji6) < (t135.length : Int) := dz; obtain ⟨ad138, e138, hx138_0⟩ := Kd.at_int (Kd.R_reads' HO137.out).2.2 (ji6) p138 q138; cases e138; replace p138 := eq_true p138; replace q138 := eq_true q138))
    go_ret
    exact ⟨by first | rfl | (simp <;> rfl) | (simp only [← hji6]; first | rfl | (simp <;> rfl)) | (simp [*] <;> rfl), bz HB⟩
   ·
    rw [if_neg c8] at H
    exact absurd H (by simp)
  ·
   rw [if_neg c7] at H
   exact absurd H (by simp)
 ·
  rw [if_neg c5] at H
  have c5b0 : decide (0 < (t135.length : Int)) = false := decide_eq_false c5
  have c5b1 : decide (0 < t135.length) = false := decide_eq_false (by omega)
  clear c5
  obtain rfl := Option.some.inj H
  go_enter Try.func156, Try.ntmps156
  go_wp2_with (first | ((with_reducible refine gate_callee (f := 142) rfl ?_); refine goesL_ (some 10) rfl rfl Try.func142 (by kernel_rfl) rfl #[.slice A0 l0.length c0, .int .i64 a1] rfl az ?_; (with_reducible refine (spec_KindsOf.calls k _ _ l0 a1 t135 _ ?side1 HC0.out A4.out).mono ?_); (case side1 => exact cz0 HR0); rintro e w11 ⟨v136, rfl, ho0, hb⟩; refine ⟨_, rfl, ?_⟩; have HO137 := Aside0.mk (Kd.R_lower ho0 (below_size (bz HB))); replace HB := Aside0.mk (below_step (bz HB) hb); clear hb; (try clear ho0); obtain ⟨Ao12, co12, eo12⟩ := Kd.R_slice HO137.out; subst eo12))
  go_ret
  exact ⟨rz, bz HB⟩
end Go.Proofs.Ytndmhmekmkgccaa.PFnExactInRange
end
