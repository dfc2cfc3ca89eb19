/- Walks of Go functions: each is shown to answer as the Lean function beside it tells, under the conditions that its theorem names. -/
import Derived.Test.YtndmhmekmkgccaaKP3ef63d26e3
import Derived.Test.YtndmhmekmkgccaaKP32fcce6f3b
section
namespace Go.Proofs.Ytndmhmekmkgccaa.PFnExactInRange
open Go.RowKit Go.Proofs.YtndmhmekmkgccaaW.PrintWords Go.Proofs.YtndmhmekmkgccaaW.PrintLast Go.Proofs.YtndmhmekmkgccaaW.PrintMore
attribute [local go_sem] max2_int min2_int max_two min_two max_three min_three max_four min_four   -- for this text's walks alone
set_option linter.unusedVariables false
set_option linter.unusedSimpArgs false
set_option maxHeartbeats 8000000 in
set_option maxRecDepth 100000 in
theorem laws_eqVar.calls (a0_0 : Int) (a0_1 : Int) (a0_2 : Int) (a1_0 : Int) (a1_1 : Int) (a1_2 : Int) (r : Bool) (w : World) (h : laws_eqVar.f a0_0 a0_1 a0_2 a1_0 a1_1 a1_2 = some r) :
  Calls Try.prog 124 #[.agg #[.int .i64 a0_0, .int .i64 a0_1, .int .i64 a0_2], .agg #[.int .i64 a1_0, .int .i64 a1_1, .int .i64 a1_2]] w fun e w' => e = .returned (.bool r) ∧ Below w.heap.size w w' := by
 have hu141 := Try.underlying141
 have HB := Aside0.mk (Below.refl w.heap.size w)
 have H : (if a0_0 = a1_0 then (if a0_1 = a1_1 then (if a0_2 = a1_2 then (some true) else (some false)) else (some false)) else (some false)) = some r := h
 clear h
 by_cases c3 : a0_0 = a1_0
 ·
  rw [if_pos c3] at H
  have c3b0 : (a0_0 == a1_0) = true := beq_iff_eq.mpr c3
  have c3b1 : (a0_0 != a1_0) = false := bne_eq_false_iff_eq.mpr c3
  clear c3
  by_cases c4 : a0_1 = a1_1
  ·
   rw [if_pos c4] at H
   have c4b0 : (a0_1 == a1_1) = true := beq_iff_eq.mpr c4
   have c4b1 : (a0_1 != a1_1) = false := bne_eq_false_iff_eq.mpr c4
   clear c4
   by_cases c5 : a0_2 = a1_2
   ·
    rw [if_pos c5] at H
    have c5b0 : (a0_2 == a1_2) = true := beq_iff_eq.mpr c5
    have c5b1 : (a0_2 != a1_2) = false := bne_eq_false_iff_eq.mpr c5
    clear c5
    obtain rfl := Option.some.inj H
    go_enter Try.func124, Try.ntmps124
    go_wp2_with (first | ((with_reducible refine gate_dst (N := 2) rfl ?_); refine box_event ?hg (N := 2) ?hd (cs := #[.int .i64 a0_0, .int .i64 a0_1, .int .i64 a0_2]) (t := 141) ?hr ?_; (case hd => rfl); (case hg => rfl); (case hr => first | (go_simp; done) | (go_simp; rfl)); intro gb297 hg w6 hbox hb; have n0_ := Aside0.mk (below_step (bz HB) hb); have n1_ := Aside0.mk (hbox); have n2_ := Aside0.mk ((by rw [hg]; exact (below_size (bz HB)) : w.heap.size ≤ gb297)); have n3_ := Aside0.mk ((by rw [hg]; exact (below_size (bz HB)) : w.heap.size ≤ gb297)); clear HB; have HB := n0_; have BK297 := n1_; have GW297 := n2_; have GE297 := n3_; clear n0_ n1_ n2_ n3_; clear hb hbox hg) | ((with_reducible refine gate_dst (N := 3) rfl ?_); refine box_event ?hg (N := 3) ?hd (cs := #[.int .i64 a1_0, .int .i64 a1_1, .int .i64 a1_2]) (t := 141) ?hr ?_; (case hd => rfl); (case hg => rfl); (case hr => first | (go_simp; done) | (go_simp; rfl)); intro gb298 hg w7 hbox hb; have n0_ := Aside0.mk (blk_below (g := gb297) (o := .cells #[.int .i64 a0_0, .int .i64 a0_1, .int .i64 a0_2] 141 (0, 0)) (kz BK297) hb); have n1_ := Aside0.mk (below_step (bz1 HB GE297) hb); have n2_ := Aside0.mk (hbox); have n3_ := Aside0.mk ((by rw [hg]; exact (below_size (bz1 HB GE297)) : w.heap.size ≤ gb298)); have n4_ := Aside0.mk ((by rw [hg]; exact (below_size (bz1 HB GE297)) : w.heap.size ≤ gb298)); have n5_ := Aside0.mk ((by rw [hg]; exact Nat.ne_of_lt (blk_lt (g := gb297) (o := .cells #[.int .i64 a0_0, .int .i64 a0_1, .int .i64 a0_2] 141 (0, 0)) (kz BK297)) : gb297 ≠ gb298)); have n6_ := Aside0.mk ((by rw [hg]; exact Nat.ne_of_gt (blk_lt (g := gb297) (o := .cells #[.int .i64 a0_0, .int .i64 a0_1, .int .i64 a0_2] 141 (0, 0)) (kz BK297)) : gb298 ≠ gb297)); clear BK297; clear HB; have BK297 := n0_; have HB := n1_; have BK298 := n2_; have GW298 := n3_; have GE298 := n4_; have NB297_298 := n5_; have NB298_297 := n6_; clear n0_ n1_ n2_ n3_ n4_ n5_ n6_; clear hb hbox hg; have hnb8 := NB297_298.out; have hnc8 := NB298_297.out; have hcz9_0 : w7.cell? ⟨gb297, 0, none⟩ = some (.int .i64 a0_0) := (blk_cell BK297.out 0).trans rfl; have hcz9_1 : w7.cell? ⟨gb297, 1, none⟩ = some (.int .i64 a0_1) := (blk_cell BK297.out 1).trans rfl; have hcz9_2 : w7.cell? ⟨gb297, 2, none⟩ = some (.int .i64 a0_2) := (blk_cell BK297.out 2).trans rfl; have hfz9_0 := blk_frozen BK297.out 0; have hfz9_1 := blk_frozen BK297.out 1; have hfz9_2 := blk_frozen BK297.out 2; have hcz10_0 : w7.cell? ⟨gb298, 0, none⟩ = some (.int .i64 a1_0) := (blk_cell BK298.out 0).trans rfl; have hcz10_1 : w7.cell? ⟨gb298, 1, none⟩ = some (.int .i64 a1_1) := (blk_cell BK298.out 1).trans rfl; have hcz10_2 : w7.cell? ⟨gb298, 2, none⟩ = some (.int .i64 a1_2) := (blk_cell BK298.out 2).trans rfl; have hfz10_0 := blk_frozen BK298.out 0; have hfz10_1 := blk_frozen BK298.out 1; have hfz10_2 := blk_frozen BK298.out 2))
    go_ret
    exact ⟨rz, bz2 HB GE297 GE298⟩
   ·
    rw [if_neg c5] at H
    have c5b0 : (a0_2 == a1_2) = false := beq_eq_false_iff_ne.mpr c5
    have c5b1 : (a0_2 != a1_2) = true := bne_iff_ne.mpr c5
    obtain rfl := Option.some.inj H
    go_enter Try.func124, Try.ntmps124
    go_wp2_with (first | ((with_reducible refine gate_dst (N := 2) rfl ?_); refine box_event ?hg (N := 2) ?hd (cs := #[.int .i64 a0_0, .int .i64 a0_1, .int .i64 a0_2]) (t := 141) ?hr ?_; (case hd => rfl); (case hg => rfl); (case hr => first | (go_simp; done) | (go_simp; rfl)); intro gb297 hg w11 hbox hb; have n0_ := Aside0.mk (below_step (bz HB) hb); have n1_ := Aside0.mk (hbox); have n2_ := Aside0.mk ((by rw [hg]; exact (below_size (bz HB)) : w.heap.size ≤ gb297)); have n3_ := Aside0.mk ((by rw [hg]; exact (below_size (bz HB)) : w.heap.size ≤ gb297)); clear HB; have HB := n0_; have BK297 := n1_; have GW297 := n2_; have GE297 := n3_; clear n0_ n1_ n2_ n3_; clear hb hbox hg) | ((with_reducible refine gate_dst (N := 3) rfl ?_); refine box_event ?hg (N := 3) ?hd (cs := #[.int .i64 a1_0, .int .i64 a1_1, .int .i64 a1_2]) (t := 141) ?hr ?_; (case hd => rfl); (case hg => rfl); (case hr => first | (go_simp; done) | (go_simp; rfl)); intro gb298 hg w12 hbox hb; have n0_ := Aside0.mk (blk_below (g := gb297) (o := .cells #[.int .i64 a0_0, .int .i64 a0_1, .int .i64 a0_2] 141 (0, 0)) (kz BK297) hb); have n1_ := Aside0.mk (below_step (bz1 HB GE297) hb); have n2_ := Aside0.mk (hbox); have n3_ := Aside0.mk ((by rw [hg]; exact (below_size (bz1 HB GE297)) : w.heap.size ≤ gb298)); have n4_ := Aside0.mk ((by rw [hg]; exact (below_size (bz1 HB GE297)) : w.heap.size ≤ gb298)); have n5_ := Aside0.mk ((by rw [hg]; exact Nat.ne_of_lt (blk_lt (g := gb297) (o := .cells #[.int .i64 a0_0, .int .i64 a0_1, .int .i64 a0_2] 141 (0, 0)) (kz BK297)) : gb297 ≠ gb298)); have n6_ := Aside0.mk ((by rw [hg]; exact Nat.ne_of_gt (blk_lt (g := gb297) (o := .cells #[.int .i64 a0_0, .int .i64 a0_1, .int .i64 a0_2] 141 (0, 0)) (kz BK297)) : gb298 ≠ gb297)); clear BK297; clear HB; have BK297 := n0_; have HB := n1_; have BK298 := n2_; have GW298 := n3_; have GE298 := n4_; have NB297_298 := n5_; have NB298_297 := n6_; clear n0_ n1_ n2_ n3_ n4_ n5_ n6_; clear hb hbox hg; have hnb13 := NB297_298.out; have hnc13 := NB298_297.out; have hcz14_0 : w12.cell? ⟨gb297, 0, none⟩ = some (.int .i64 a0_0) := (blk_cell BK297.out 0).trans rfl; have hcz14_1 : w12.cell? ⟨gb297, 1, none⟩ = some (.int .i64 a0_1) := (blk_cell BK297.out 1).trans rfl; have hcz14_2 : w12.cell? ⟨gb297, 2, none⟩ = some (.int .i64 a0_2) := (blk_cell BK297.out 2).trans rfl; have hfz14_0 := blk_frozen BK297.out 0; have hfz14_1 := blk_frozen BK297.out 1; have hfz14_2 := blk_frozen BK297.out 2; have hcz15_0 : w12.cell? ⟨gb298, 0, none⟩ = some (.int .i64 a1_0) := (blk_cell BK298.out 0).trans rfl; have hcz15_1 : w12.cell? ⟨gb298, 1, none⟩ = some (.int .i64 a1_1) := (blk_cell BK298.out 1).trans rfl; have hcz15_2 : w12.cell? ⟨gb298, 2, none⟩ = some (.int .i64 a1_2) := (blk_cell BK298.out 2).trans rfl; have hfz15_0 := blk_frozen BK298.out 0; have hfz15_1 := blk_frozen BK298.out 1; have hfz15_2 := blk_frozen BK298.out 2))
    go_ret
    exact ⟨rz, bz2 HB GE297 GE298⟩
  ·
   rw [if_neg c4] at H
   have c4b0 : (a0_1 == a1_1) = false := beq_eq_false_iff_ne.mpr c4
   have c4b1 : (a0_1 != a1_1) = true := bne_iff_ne.mpr c4
   obtain rfl := Option.some.inj H
   go_enter Try.func124, Try.ntmps124
   go_wp2_with (first | ((with_reducible refine gate_dst (N := 2) rfl ?_); refine box_event ?hg (N := 2) ?hd (cs := #[.int .i64 a0_0, .int .i64 a0_1, .int .i64 a0_2]) (t := 141) ?hr ?_; (case hd => rfl); (case hg => rfl); (case hr => first | (go_simp; done) | (go_simp; rfl)); intro gb297 hg w16 hbox hb; have n0_ := Aside0.mk (below_step (bz HB) hb); have n1_ := Aside0.mk (hbox); have n2_ := Aside0.mk ((by rw [hg]; exact (below_size (bz HB)) : w.heap.size ≤ gb297)); have n3_ := Aside0.mk ((by rw [hg]; exact (below_size (bz HB)) : w.heap.size ≤ gb297)); clear HB; have HB := n0_; have BK297 := n1_; have GW297 := n2_; have GE297 := n3_; clear n0_ n1_ n2_ n3_; clear hb hbox hg) | ((with_reducible refine gate_dst (N := 3) rfl ?_); refine box_event ?hg (N := 3) ?hd (cs := #[.int .i64 a1_0, .int .i64 a1_1, .int .i64 a1_2]) (t := 141) ?hr ?_; (case hd => rfl); (case hg => rfl); (case hr => first | (go_simp; done) | (go_simp; rfl)); intro gb298 hg w17 hbox hb; have n0_ := Aside0.mk (blk_below (g := gb297) (o := .cells #[.int .i64 a0_0, .int .i64 a0_1, .int .i64 a0_2] 141 (0, 0)) (kz BK297) hb); have n1_ := Aside0.mk (below_step (bz1 HB GE297) hb); have n2_ := Aside0.mk (hbox); have n3_ := Aside0.mk ((by rw [hg]; exact (below_size (bz1 HB GE297)) : w.heap.size ≤ gb298)); have n4_ := Aside0.mk ((by rw [hg]; exact (below_size (bz1 HB GE297)) : w.heap.size ≤ gb298)); have n5_ := Aside0.mk ((by rw [hg]; exact Nat.ne_of_lt (blk_lt (g := gb297) (o := .cells #[.int .i64 a0_0, .int .i64 a0_1, .int .i64 a0_2] 141 (0, 0)) (kz BK297)) : gb297 ≠ gb298)); have n6_ := Aside0.mk ((by rw [hg]; exact Nat.ne_of_gt (blk_lt (g := gb297) (o := .cells #[.int .i64 a0_0, .int .i64 a0_1, .int .i64 a0_2] 141 (0, 0)) (kz BK297)) : gb298 ≠ gb297)); clear BK297; clear HB; have BK297 := n0_; have HB := n1_; have BK298 := n2_; have GW298 := n3_; have GE298 := n4_; have NB297_298 := n5_; have NB298_297 := n6_; clear n0_ n1_ n2_ n3_ n4_ n5_ n6_; clear hb hbox hg; have hnb18 := NB297_298.out; have hnc18 := NB298_297.out; have hcz19_0 : w17.cell? ⟨gb297, 0, none⟩ = some (.int .i64 a0_0) := (blk_cell BK297.out 0).trans rfl; have hcz19_1 : w17.cell? ⟨gb297, 1, none⟩ = some (.int .i64 a0_1) := (blk_cell BK297.out 1).trans rfl; have hcz19_2 : w17.cell? ⟨gb297, 2, none⟩ = some (.int .i64 a0_2) := (blk_cell BK297.out 2).trans rfl; have hfz19_0 := blk_frozen BK297.out 0; have hfz19_1 := blk_frozen BK297.out 1; have hfz19_2 := blk_frozen BK297.out 2; have hcz20_0 : w17.cell? ⟨gb298, 0, none⟩ = some (.int .i64 a1_0) := (blk_cell BK298.out 0).trans rfl; have hcz20_1 : w17.cell? ⟨gb298, 1, none⟩ = some (.int .i64 a1_1) := (blk_cell BK298.out 1).trans rfl; have hcz20_2 : w17.cell? ⟨gb298, 2, none⟩ = some (.int .i64 a1_2) := (blk_cell BK298.out 2).trans rfl; have hfz20_0 := blk_frozen BK298.out 0; have hfz20_1 := blk_frozen BK298.out 1; have hfz20_2 := blk_frozen BK298.out 2))
   go_ret
   exact ⟨rz, bz2 HB GE297 GE298⟩
 ·
  rw [if_neg c3] at H
  have c3b0 : (a0_0 == a1_0) = false := beq_eq_false_iff_ne.mpr c3
  have c3b1 : (a0_0 != a1_0) = true := bne_iff_ne.mpr c3
  obtain rfl := Option.some.inj H
  go_enter Try.func124, Try.ntmps124
  go_wp2_with (first | ((with_reducible refine gate_dst (N := 2) rfl ?_); refine box_event ?hg (N := 2) ?hd (cs := #[.int .i64 a0_0, .int .i64 a0_1, .int .i64 a0_2]) (t := 141) ?hr ?_; (case hd => rfl); (case hg => rfl); (case hr => first | (go_simp; done) | (go_simp; rfl)); intro gb297 hg w21 hbox hb; have n0_ := Aside0.mk (below_step (bz HB) hb); have n1_ := Aside0.mk (hbox); have n2_ := Aside0.mk ((by rw [hg]; exact (below_size (bz HB)) : w.heap.size ≤ gb297)); have n3_ := Aside0.mk ((by rw [hg]; exact (below_size (bz HB)) : w.heap.size ≤ gb297)); clear HB; have HB := n0_; have BK297 := n1_; have GW297 := n2_; have GE297 := n3_; clear n0_ n1_ n2_ n3_; clear hb hbox hg) | ((with_reducible refine gate_dst (N := 3) rfl ?_); refine box_event ?hg (N := 3) ?hd (cs := #[.int .i64 a1_0, .int .i64 a1_1, .int .i64 a1_2]) (t := 141) ?hr ?_; (case hd => rfl); (case hg => rfl); (case hr => first | (go_simp; done) | (go_simp; rfl)); intro gb298 hg w22 hbox hb; have n0_ := Aside0.mk (blk_below (g := gb297) (o := .cells #[.int .i64 a0_0, .int .i64 a0_1, .int .i64 a0_2] 141 (0, 0)) (kz BK297) hb); have n1_ := Aside0.mk (below_step (bz1 HB GE297) hb); have n2_ := Aside0.mk (hbox); have n3_ := Aside0.mk ((by rw [hg]; exact (below_size (bz1 HB GE297)) : w.heap.size ≤ gb298)); have n4_ := Aside0.mk ((by rw [hg]; exact (below_size (bz1 HB GE297)) : w.heap.size ≤ gb298)); have n5_ := Aside0.mk ((by rw [hg]; exact Nat.ne_of_lt (blk_lt (g := gb297) (o := .cells #[.int .i64 a0_0, .int .i64 a0_1, .int .i64 a0_2] 141 (0, 0)) (kz BK297)) : gb297 ≠ gb298)); have n6_ := Aside0.mk ((by rw [hg]; exact Nat.ne_of_gt (blk_lt (g := gb297) (o := .cells #[.int .i64 a0_0, .int .i64 a0_1, .int .i64 a0_2] 141 (0, 0)) (kz BK297)) : gb298 ≠ gb297)); clear BK297; clear HB; have BK297 := n0_; have HB := n1_; have BK298 := n2_; have GW298 := n3_; have GE298 := n4_; have NB297_298 := n5_; have NB298_297 := n6_; clear n0_ n1_ n2_ n3_ n4_ n5_ n6_; clear hb hbox hg; have hnb23 := NB297_298.out; have hnc23 := NB298_297.out; have hcz24_0 : w22.cell? ⟨gb297, 0, none⟩ = some (.int .i64 a0_0) := (blk_cell BK297.out 0).trans rfl; have hcz24_1 : w22.cell? ⟨gb297, 1, none⟩ = some (.int .i64 a0_1) := (blk_cell BK297.out 1).trans rfl; have hcz24_2 : w22.cell? ⟨gb297, 2, none⟩ = some (.int .i64 a0_2) := (blk_cell BK297.out 2).trans rfl; have hfz24_0 := blk_frozen BK297.out 0; have hfz24_1 := blk_frozen BK297.out 1; have hfz24_2 := blk_frozen BK297.out 2; have hcz25_0 : w22.cell? ⟨gb298, 0, none⟩ = some (.int .i64 a1_0) := (blk_cell BK298.out 0).trans rfl; have hcz25_1 : w22.cell? ⟨gb298, 1, none⟩ = some (.int .i64 a1_1) := (blk_cell BK298.out 1).trans rfl; have hcz25_2 : w22.cell? ⟨gb298, 2, none⟩ = some (.int .i64 a1_2) := (blk_cell BK298.out 2).trans rfl; have hfz25_0 := blk_frozen BK298.out 0; have hfz25_1 := blk_frozen BK298.out 1; have hfz25_2 := blk_frozen BK298.out 2))
  go_ret
  exact ⟨rz, bz2 HB GE297 GE298⟩
end Go.Proofs.Ytndmhmekmkgccaa.PFnExactInRange
end
section
namespace Go.Proofs.Ytndmhmekmkgccaa.PFnExactInRange
open Go.RowKit Go.Proofs.YtndmhmekmkgccaaW.PrintWords Go.Proofs.YtndmhmekmkgccaaW.PrintLast Go.Proofs.YtndmhmekmkgccaaW.PrintMore
attribute [local go_sem] max2_int min2_int max_two min_two max_three min_three max_four min_four   -- for this text's walks alone
set_option linter.unusedVariables false
set_option linter.unusedSimpArgs false
def laws_eqVarS.T6 : Bool × List (List Nat × List Nat) := (true, [([], []), ([], []), ([0, 1], [0, 1]), ([2], [2]), ([], []), ([], []), ([4, 5], [4, 5]), ([6], [6]), ([3, 7], [3, 7]), ([8], [8])])
def laws_eqVarS.B6 : List Nat := [0, 0, 3, 7, 0, 0, 48, 112, 255, 511]
theorem laws_eqVarS.tab6 : rtab .any (opsOf Try.f65 6) = laws_eqVarS.T6 := by kernel_rfl
theorem laws_eqVarS.bits6 : waitsOk laws_eqVarS.T6.2 laws_eqVarS.B6 = true := by kernel_rfl
set_option maxHeartbeats 8000000 in
set_option maxRecDepth 100000 in
theorem laws_eqVarS.calls (k : Nat) (A0 : Option Addr) (c0 : Nat) (l0 : List (IVar)) (A1 : Option Addr) (c1 : Nat) (l1 : List (IVar)) (r : Bool) (w : World) (hr0 : Kd.C k141 w A0 l0.length l0) (hc0 : l0.length ≤ c0) (hr1 : Kd.C k141 w A1 l1.length l1) (hc1 : l1.length ≤ c1) (h : laws_eqVarS.f k l0 l1 = some r) :
  Calls Try.prog 65 #[.slice A0 l0.length c0, .slice A1 l1.length c1] w fun e w' => e = .returned (.bool r) ∧ Below w.heap.size w w' := by
 have hu141 := Try.underlying141
 have HR0 := Aside0.mk hr0
 have HC0 := Aside0.mk hc0
 clear hr0 hc0
 have HR1 := Aside0.mk hr1
 have HC1 := Aside0.mk hc1
 clear hr1 hc1
 have HB := Aside0.mk (Below.refl w.heap.size w)
 have H : (if (l0.length : Int) = (l1.length : Int) then (laws_eqVarS.l0 k l0 l1 0) else (some false)) = some r := h
 clear h
 by_cases c3 : (l0.length : Int) = (l1.length : Int)
 ·
  rw [if_pos c3] at H
  have c3b0 : ((l0.length : Int) == (l1.length : Int)) = true := beq_iff_eq.mpr c3
  have c3b1 : ((l0.length : Int) != (l1.length : Int)) = false := bne_eq_false_iff_eq.mpr c3
  have c3b2 : (l0.length == l1.length) = true := by first | simpa using c3 | (simp at c3 ⊢; omega)
  clear c3
  have H' := Aside0.mk H
  clear H
  go_enter Try.func65, Try.ntmps65
  go_wp2
  go_loopg [5] k (fun kq v5 w' => ∃ (x5_1 : Int), v5 = .int .i64 x5_1 ∧ Aside0 (laws_eqVarS.l0 kq l0 l1 x5_1 = some r) ∧ Aside0 (kq ≤ k) ∧ Aside0 (Below w.heap.size w w'))
  case atStart => exact ⟨(0), rq, H', ⟨Nat.le_refl _⟩, ⟨bz HB⟩⟩
  case round =>
   clear H'
   try clear c1
   try clear p2
   try clear c3
   try clear c3b0
   try clear c3b1
   try clear c3b2
   obtain ⟨x5_1, rfl, HA, HK1, HB⟩ := hrel
   cases gk with
   | zero => exact absurd HA.out (by simp [laws_eqVarS.l0])
   | succ k1 =>
    have H := HA.out
    clear HA
    simp only [laws_eqVarS.l0] at H
    by_cases c4 : x5_1 < (l0.length : Int)
    ·
     rw [if_pos c4] at H
     have c4b0 : decide (x5_1 < (l0.length : Int)) = true := decide_eq_true c4
     clear c4
     by_cases c5 : 0 ≤ x5_1
     ·
      rw [if_pos c5] at H
      have c5b0 : decide (0 ≤ x5_1) = true := decide_eq_true c5
      clear c5
      by_cases c6 : x5_1 < (l1.length : Int)
      ·
       rw [if_pos c6] at H
       have c6b0 : decide (x5_1 < (l1.length : Int)) = true := decide_eq_true c6
       clear c6
       replace H := Option.bind_eq_some_iff.mp H
       obtain ⟨t301, A70, H⟩ := H
       have A7 := Aside0.mk A70
       clear A70
       by_cases c8 : t301 = true
       ·
        subst c8
        rw [if_pos rfl] at H
        have H' := Aside0.mk H
        clear H
        try go_wp2
        have n0_ := Aside0.mk (below_drew1 HB.out)
        clear HB
        have HB := n0_
        clear n0_
        have p299 : 0 ≤ (x5_1 : Int) := dz
        have q299 : x5_1 < (l0.length : Int) := dz
        obtain ⟨ad299, e299, hx299_0, hx299_1, hx299_2⟩ := at_IVar HR0.out x5_1 p299 q299
        have hw299_2 := hx299_2
        have hw299_1 := hx299_1
        have hw299_0 := hx299_0
        cases e299
        replace hx299_0 := xz HB hx299_0
        replace hx299_1 := xz HB hx299_1
        replace hx299_2 := xz HB hx299_2
        replace p299 := eq_true p299
        replace q299 := eq_true q299
        have p300 : 0 ≤ (x5_1 : Int) := dz
        have q300 : x5_1 < (l1.length : Int) := dz
        obtain ⟨ad300, e300, hx300_0, hx300_1, hx300_2⟩ := at_IVar HR1.out x5_1 p300 q300
        have hw300_2 := hx300_2
        have hw300_1 := hx300_1
        have hw300_0 := hx300_0
        cases e300
        replace hx300_0 := xz HB hx300_0
        replace hx300_1 := xz HB hx300_1
        replace hx300_2 := xz HB hx300_2
        replace p300 := eq_true p300
        replace q300 := eq_true q300
        refine start_ (n := 10) (S := fun w' => w'.cell? (ad299.add ((x5_1).toNat * 3)) = some (.int .i64 ((rd_IVar l0 x5_1).f0)) ∧ w'.cell? ⟨(ad299.add ((x5_1).toNat * 3)).block, (ad299.add ((x5_1).toNat * 3)).off + 1, none⟩ = some (.int .i64 ((rd_IVar l0 x5_1).f1)) ∧ w'.cell? ⟨(ad299.add ((x5_1).toNat * 3)).block, (ad299.add ((x5_1).toNat * 3)).off + 2, none⟩ = some (.int .i64 ((rd_IVar l0 x5_1).f2)) ∧ w'.cell? (ad300.add ((x5_1).toNat * 3)) = some (.int .i64 ((rd_IVar l1 x5_1).f0)) ∧ w'.cell? ⟨(ad300.add ((x5_1).toNat * 3)).block, (ad300.add ((x5_1).toNat * 3)).off + 1, none⟩ = some (.int .i64 ((rd_IVar l1 x5_1).f1)) ∧ w'.cell? ⟨(ad300.add ((x5_1).toNat * 3)).block, (ad300.add ((x5_1).toNat * 3)).off + 2, none⟩ = some (.int .i64 ((rd_IVar l1 x5_1).f2))) (ds := []) #[false, false, false, false, false, false, false, false, false, false] (by kernel_rfl) rfl rfl ⟨((HB.out.cell (World.block_lt_of_cell? w _ hw299_0)).trans hw299_0), ((HB.out.cell (World.block_lt_of_cell? w _ hw299_1)).trans hw299_1), ((HB.out.cell (World.block_lt_of_cell? w _ hw299_2)).trans hw299_2), ((HB.out.cell (World.block_lt_of_cell? w _ hw300_0)).trans hw300_0), ((HB.out.cell (World.block_lt_of_cell? w _ hw300_1)).trans hw300_1), ((HB.out.cell (World.block_lt_of_cell? w _ hw300_2)).trans hw300_2)⟩ (fun hHeld => ?_); refine with_tabW laws_eqVarS.tab6 laws_eqVarS.bits6 (fun HT_ HW_ => ?_)
        generalize wr.drew = w9 at HB hx299_0 hx299_1 hx299_2 hx300_0 hx300_1 hx300_2 hHeld ⊢
        refine pure_ (i := 0) (N := some 17) (v := ?_) (a' := ?_) #[true, false, false, false, false, false, false, false, false, false] rfl rfl (any_of HT_.out (by kernel_rfl)) (fun _ _ _ h => h) (Or.inl ⟨by rfl, ?_⟩) ?_ ?_
        rotate_left
        ·
         intro w'
         go_simp
         with_reducible rfl
        rotate_left
        ·
         simp only [Act.put, sb_, sc0_, sc1_, i64_w, i32_w]
         rfl
        refine pure_ (i := 1) (N := some 18) (v := ?_) (a' := ?_) #[true, true, false, false, false, false, false, false, false, false] rfl rfl (any_of HT_.out (by kernel_rfl)) (fun _ _ _ h => h) (Or.inl ⟨by rfl, ?_⟩) ?_ ?_
        rotate_left
        ·
         intro w'
         go_simp
         with_reducible rfl
        rotate_left
        ·
         simp only [Act.put, sb_, sc0_, sc1_, i64_w, i32_w]
         rfl
        refine pure_ (i := 2) (N := some 19) (v := ?_) (a' := ?_) #[true, true, true, false, false, false, false, false, false, false] rfl rfl (any_of HT_.out (by kernel_rfl)) (fun _ _ _ h => h) (Or.inl ⟨by rfl, ?_⟩) ?_ ?_
        rotate_left
        ·
         intro w'
         go_simp
         with_reducible rfl
        rotate_left
        ·
         simp only [Act.put, sb_, sc0_, sc1_, i64_w, i32_w]
         rfl
        refine pure_ (i := 4) (N := some 21) (v := ?_) (a' := ?_) #[true, true, true, false, true, false, false, false, false, false] rfl rfl (any_of HT_.out (by kernel_rfl)) (fun _ _ _ h => h) (Or.inl ⟨by rfl, ?_⟩) ?_ ?_
        rotate_left
        ·
         intro w'
         go_simp
         with_reducible rfl
        rotate_left
        ·
         simp only [Act.put, sb_, sc0_, sc1_, i64_w, i32_w]
         rfl
        refine pure_ (i := 5) (N := some 22) (v := ?_) (a' := ?_) #[true, true, true, false, true, true, false, false, false, false] rfl rfl (any_of HT_.out (by kernel_rfl)) (fun _ _ _ h => h) (Or.inl ⟨by rfl, ?_⟩) ?_ ?_
        rotate_left
        ·
         intro w'
         go_simp
         with_reducible rfl
        rotate_left
        ·
         simp only [Act.put, sb_, sc0_, sc1_, i64_w, i32_w]
         rfl
        refine pure_ (i := 6) (N := some 23) (v := ?_) (a' := ?_) #[true, true, true, false, true, true, true, false, false, false] rfl rfl (any_of HT_.out (by kernel_rfl)) (fun _ _ _ h => h) (Or.inl ⟨by rfl, ?_⟩) ?_ ?_
        rotate_left
        ·
         intro w'
         go_simp
         with_reducible rfl
        rotate_left
        ·
         simp only [Act.put, sb_, sc0_, sc1_, i64_w, i32_w]
         rfl
        refine take_ (i := 3) (N := some 20) (v := ?_) (a' := ?_) #[true, true, true, true, true, true, true, false, false, false] rfl rfl (take_ofW HT_.out HW_.out (by kernel_rfl)) (fun _ _ _ h => h) (Or.inl ⟨by rfl, ?_⟩) hHeld ?_ ?_
        rotate_left
        ·
         rintro w' ⟨s0, s1, s2, s3, s4, s5⟩
         go_simp
         with_reducible rfl
        rotate_left
        ·
         simp only [Act.put, sb_, sc0_, sc1_, i64_w, i32_w]
         rfl
        refine take_ (i := 7) (N := some 24) (v := ?_) (a' := ?_) #[true, true, true, true, true, true, true, true, false, false] rfl rfl (take_ofW HT_.out HW_.out (by kernel_rfl)) (fun _ _ _ h => h) (Or.inl ⟨by rfl, ?_⟩) hHeld ?_ ?_
        rotate_left
        ·
         rintro w' ⟨s0, s1, s2, s3, s4, s5⟩
         go_simp
         with_reducible rfl
        rotate_left
        ·
         simp only [Act.put, sb_, sc0_, sc1_, i64_w, i32_w]
         rfl
        refine one_ (i := 8) (N := some 25) #[true, true, true, true, true, true, true, true, true, false] rfl rfl (one_of HT_.out (by kernel_rfl)) (by decide) (fun K hK => ?_)
        refine goes_ Try.func124 (by kernel_rfl) rfl #[.agg #[.int .i64 ((rd_IVar l0 x5_1).f0), .int .i64 ((rd_IVar l0 x5_1).f1), .int .i64 ((rd_IVar l0 x5_1).f2)], .agg #[.int .i64 ((rd_IVar l1 x5_1).f0), .int .i64 ((rd_IVar l1 x5_1).f1), .int .i64 ((rd_IVar l1 x5_1).f2)]] (by rfl) rfl rfl az ?_
        with_reducible refine (laws_eqVar.calls ((rd_IVar l0 x5_1).f0) ((rd_IVar l0 x5_1).f1) ((rd_IVar l0 x5_1).f2) ((rd_IVar l1 x5_1).f0) ((rd_IVar l1 x5_1).f1) ((rd_IVar l1 x5_1).f2) true _ A7.out).mono ?_
        rintro e w10 ⟨rfl, hb⟩
        refine ⟨_, rfl, ?_⟩
        have n0_ := Aside0.mk (below_step (bz HB) hb)
        clear HB
        have HB := n0_
        clear n0_
        (try clear hb)
        (try clear hb2)
        (try clear hk)
        (try clear hi)
        refine hK.out _ _ ⟨((HB.out.cell (World.block_lt_of_cell? w _ hw299_0)).trans hw299_0), ((HB.out.cell (World.block_lt_of_cell? w _ hw299_1)).trans hw299_1), ((HB.out.cell (World.block_lt_of_cell? w _ hw299_2)).trans hw299_2), ((HB.out.cell (World.block_lt_of_cell? w _ hw300_0)).trans hw300_0), ((HB.out.cell (World.block_lt_of_cell? w _ hw300_1)).trans hw300_1), ((HB.out.cell (World.block_lt_of_cell? w _ hw300_2)).trans hw300_2)⟩ (fun hHeld => ?_)
        clear hK K
        refine norm_ (a' := ?_) ?_ ?_
        rotate_left
        ·
         show Act.put _ (some 25) _ = _
         simp only [Act.put, sb_, sc0_, sc1_, i64_w, i32_w]
         rfl
        refine pure_ (i := 9) (N := some 26) (v := ?_) (a' := ?_) #[true, true, true, true, true, true, true, true, true, true] rfl rfl (any_of HT_.out (by kernel_rfl)) (fun _ _ _ h => h) (Or.inl ⟨by rfl, ?_⟩) ?_ ?_
        rotate_left
        ·
         intro w'
         go_simp
         with_reducible rfl
        rotate_left
        ·
         simp only [Act.put, sb_, sc0_, sc1_, i64_w, i32_w]
         rfl
        refine done_ (done_of HT_.out (by kernel_rfl)) ?_
        try go_wp2
        go_roundg k1
        case measure => have := HK1.out; omega
        case rel => exact ⟨(wrap64 (x5_1 + 1)), rq, H', ⟨by have := HK1.out; omega⟩, ⟨bz HB⟩⟩
       ·
        replace c8 := Bool.eq_false_iff.mpr c8
        subst c8
        rw [if_neg nt_] at H
        obtain rfl := Option.some.inj H
        try go_wp2
        have n0_ := Aside0.mk (below_drew1 HB.out)
        clear HB
        have HB := n0_
        clear n0_
        have p299 : 0 ≤ (x5_1 : Int) := dz
        have q299 : x5_1 < (l0.length : Int) := dz
        obtain ⟨ad299, e299, hx299_0, hx299_1, hx299_2⟩ := at_IVar HR0.out x5_1 p299 q299
        have hw299_2 := hx299_2
        have hw299_1 := hx299_1
        have hw299_0 := hx299_0
        cases e299
        replace hx299_0 := xz HB hx299_0
        replace hx299_1 := xz HB hx299_1
        replace hx299_2 := xz HB hx299_2
        replace p299 := eq_true p299
        replace q299 := eq_true q299
        have p300 : 0 ≤ (x5_1 : Int) := dz
        have q300 : x5_1 < (l1.length : Int) := dz
        obtain ⟨ad300, e300, hx300_0, hx300_1, hx300_2⟩ := at_IVar HR1.out x5_1 p300 q300
        have hw300_2 := hx300_2
        have hw300_1 := hx300_1
        have hw300_0 := hx300_0
        cases e300
        replace hx300_0 := xz HB hx300_0
        replace hx300_1 := xz HB hx300_1
        replace hx300_2 := xz HB hx300_2
        replace p300 := eq_true p300
        replace q300 := eq_true q300
        refine start_ (n := 10) (S := fun w' => w'.cell? (ad299.add ((x5_1).toNat * 3)) = some (.int .i64 ((rd_IVar l0 x5_1).f0)) ∧ w'.cell? ⟨(ad299.add ((x5_1).toNat * 3)).block, (ad299.add ((x5_1).toNat * 3)).off + 1, none⟩ = some (.int .i64 ((rd_IVar l0 x5_1).f1)) ∧ w'.cell? ⟨(ad299.add ((x5_1).toNat * 3)).block, (ad299.add ((x5_1).toNat * 3)).off + 2, none⟩ = some (.int .i64 ((rd_IVar l0 x5_1).f2)) ∧ w'.cell? (ad300.add ((x5_1).toNat * 3)) = some (.int .i64 ((rd_IVar l1 x5_1).f0)) ∧ w'.cell? ⟨(ad300.add ((x5_1).toNat * 3)).block, (ad300.add ((x5_1).toNat * 3)).off + 1, none⟩ = some (.int .i64 ((rd_IVar l1 x5_1).f1)) ∧ w'.cell? ⟨(ad300.add ((x5_1).toNat * 3)).block, (ad300.add ((x5_1).toNat * 3)).off + 2, none⟩ = some (.int .i64 ((rd_IVar l1 x5_1).f2))) (ds := []) #[false, false, false, false, false, false, false, false, false, false] (by kernel_rfl) rfl rfl ⟨((HB.out.cell (World.block_lt_of_cell? w _ hw299_0)).trans hw299_0), ((HB.out.cell (World.block_lt_of_cell? w _ hw299_1)).trans hw299_1), ((HB.out.cell (World.block_lt_of_cell? w _ hw299_2)).trans hw299_2), ((HB.out.cell (World.block_lt_of_cell? w _ hw300_0)).trans hw300_0), ((HB.out.cell (World.block_lt_of_cell? w _ hw300_1)).trans hw300_1), ((HB.out.cell (World.block_lt_of_cell? w _ hw300_2)).trans hw300_2)⟩ (fun hHeld => ?_); refine with_tabW laws_eqVarS.tab6 laws_eqVarS.bits6 (fun HT_ HW_ => ?_)
        generalize wr.drew = w11 at HB hx299_0 hx299_1 hx299_2 hx300_0 hx300_1 hx300_2 hHeld ⊢
        refine pure_ (i := 0) (N := some 17) (v := ?_) (a' := ?_) #[true, false, false, false, false, false, false, false, false, false] rfl rfl (any_of HT_.out (by kernel_rfl)) (fun _ _ _ h => h) (Or.inl ⟨by rfl, ?_⟩) ?_ ?_
        rotate_left
        ·
         intro w'
         go_simp
         with_reducible rfl
        rotate_left
        ·
         simp only [Act.put, sb_, sc0_, sc1_, i64_w, i32_w]
         rfl
        refine pure_ (i := 1) (N := some 18) (v := ?_) (a' := ?_) #[true, true, false, false, false, false, false, false, false, false] rfl rfl (any_of HT_.out (by kernel_rfl)) (fun _ _ _ h => h) (Or.inl ⟨by rfl, ?_⟩) ?_ ?_
        rotate_left
        ·
         intro w'
         go_simp
         with_reducible rfl
        rotate_left
        ·
         simp only [Act.put, sb_, sc0_, sc1_, i64_w, i32_w]
         rfl
        refine pure_ (i := 2) (N := some 19) (v := ?_) (a' := ?_) #[true, true, true, false, false, false, false, false, false, false] rfl rfl (any_of HT_.out (by kernel_rfl)) (fun _ _ _ h => h) (Or.inl ⟨by rfl, ?_⟩) ?_ ?_
        rotate_left
        ·
         intro w'
         go_simp
         with_reducible rfl
        rotate_left
        ·
         simp only [Act.put, sb_, sc0_, sc1_, i64_w, i32_w]
         rfl
        refine pure_ (i := 4) (N := some 21) (v := ?_) (a' := ?_) #[true, true, true, false, true, false, false, false, false, false] rfl rfl (any_of HT_.out (by kernel_rfl)) (fun _ _ _ h => h) (Or.inl ⟨by rfl, ?_⟩) ?_ ?_
        rotate_left
        ·
         intro w'
         go_simp
         with_reducible rfl
        rotate_left
        ·
         simp only [Act.put, sb_, sc0_, sc1_, i64_w, i32_w]
         rfl
        refine pure_ (i := 5) (N := some 22) (v := ?_) (a' := ?_) #[true, true, true, false, true, true, false, false, false, false] rfl rfl (any_of HT_.out (by kernel_rfl)) (fun _ _ _ h => h) (Or.inl ⟨by rfl, ?_⟩) ?_ ?_
        rotate_left
        ·
         intro w'
         go_simp
         with_reducible rfl
        rotate_left
        ·
         simp only [Act.put, sb_, sc0_, sc1_, i64_w, i32_w]
         rfl
        refine pure_ (i := 6) (N := some 23) (v := ?_) (a' := ?_) #[true, true, true, false, true, true, true, false, false, false] rfl rfl (any_of HT_.out (by kernel_rfl)) (fun _ _ _ h => h) (Or.inl ⟨by rfl, ?_⟩) ?_ ?_
        rotate_left
        ·
         intro w'
         go_simp
         with_reducible rfl
        rotate_left
        ·
         simp only [Act.put, sb_, sc0_, sc1_, i64_w, i32_w]
         rfl
        refine take_ (i := 3) (N := some 20) (v := ?_) (a' := ?_) #[true, true, true, true, true, true, true, false, false, false] rfl rfl (take_ofW HT_.out HW_.out (by kernel_rfl)) (fun _ _ _ h => h) (Or.inl ⟨by rfl, ?_⟩) hHeld ?_ ?_
        rotate_left
        ·
         rintro w' ⟨s0, s1, s2, s3, s4, s5⟩
         go_simp
         with_reducible rfl
        rotate_left
        ·
         simp only [Act.put, sb_, sc0_, sc1_, i64_w, i32_w]
         rfl
        refine take_ (i := 7) (N := some 24) (v := ?_) (a' := ?_) #[true, true, true, true, true, true, true, true, false, false] rfl rfl (take_ofW HT_.out HW_.out (by kernel_rfl)) (fun _ _ _ h => h) (Or.inl ⟨by rfl, ?_⟩) hHeld ?_ ?_
        rotate_left
        ·
         rintro w' ⟨s0, s1, s2, s3, s4, s5⟩
         go_simp
         with_reducible rfl
        rotate_left
        ·
         simp only [Act.put, sb_, sc0_, sc1_, i64_w, i32_w]
         rfl
        refine one_ (i := 8) (N := some 25) #[true, true, true, true, true, true, true, true, true, false] rfl rfl (one_of HT_.out (by kernel_rfl)) (by decide) (fun K hK => ?_)
        refine goes_ Try.func124 (by kernel_rfl) rfl #[.agg #[.int .i64 ((rd_IVar l0 x5_1).f0), .int .i64 ((rd_IVar l0 x5_1).f1), .int .i64 ((rd_IVar l0 x5_1).f2)], .agg #[.int .i64 ((rd_IVar l1 x5_1).f0), .int .i64 ((rd_IVar l1 x5_1).f1), .int .i64 ((rd_IVar l1 x5_1).f2)]] (by rfl) rfl rfl az ?_
        with_reducible refine (laws_eqVar.calls ((rd_IVar l0 x5_1).f0) ((rd_IVar l0 x5_1).f1) ((rd_IVar l0 x5_1).f2) ((rd_IVar l1 x5_1).f0) ((rd_IVar l1 x5_1).f1) ((rd_IVar l1 x5_1).f2) false _ A7.out).mono ?_
        rintro e w12 ⟨rfl, hb⟩
        refine ⟨_, rfl, ?_⟩
        have n0_ := Aside0.mk (below_step (bz HB) hb)
        clear HB
        have HB := n0_
        clear n0_
        (try clear hb)
        (try clear hb2)
        (try clear hk)
        (try clear hi)
        refine hK.out _ _ ⟨((HB.out.cell (World.block_lt_of_cell? w _ hw299_0)).trans hw299_0), ((HB.out.cell (World.block_lt_of_cell? w _ hw299_1)).trans hw299_1), ((HB.out.cell (World.block_lt_of_cell? w _ hw299_2)).trans hw299_2), ((HB.out.cell (World.block_lt_of_cell? w _ hw300_0)).trans hw300_0), ((HB.out.cell (World.block_lt_of_cell? w _ hw300_1)).trans hw300_1), ((HB.out.cell (World.block_lt_of_cell? w _ hw300_2)).trans hw300_2)⟩ (fun hHeld => ?_)
        clear hK K
        refine norm_ (a' := ?_) ?_ ?_
        rotate_left
        ·
         show Act.put _ (some 25) _ = _
         simp only [Act.put, sb_, sc0_, sc1_, i64_w, i32_w]
         rfl
        refine pure_ (i := 9) (N := some 26) (v := ?_) (a' := ?_) #[true, true, true, true, true, true, true, true, true, true] rfl rfl (any_of HT_.out (by kernel_rfl)) (fun _ _ _ h => h) (Or.inl ⟨by rfl, ?_⟩) ?_ ?_
        rotate_left
        ·
         intro w'
         go_simp
         with_reducible rfl
        rotate_left
        ·
         simp only [Act.put, sb_, sc0_, sc1_, i64_w, i32_w]
         rfl
        refine done_ (done_of HT_.out (by kernel_rfl)) ?_
        try go_wp2
        go_ret
        exact ⟨rz, bz HB⟩
      ·
       rw [if_neg c6] at H
       exact absurd H (by simp)
     ·
      rw [if_neg c5] at H
      exact absurd H (by simp)
    ·
     rw [if_neg c4] at H
     have c4b0 : decide (x5_1 < (l0.length : Int)) = false := decide_eq_false c4
     clear c4
     obtain rfl := Option.some.inj H
     go_wp2
     go_ret
     exact ⟨rz, bz HB⟩
 ·
  rw [if_neg c3] at H
  have c3b0 : ((l0.length : Int) == (l1.length : Int)) = false := beq_eq_false_iff_ne.mpr c3
  have c3b1 : ((l0.length : Int) != (l1.length : Int)) = true := bne_iff_ne.mpr c3
  have c3b2 : (l0.length == l1.length) = false := by first | simpa using c3 | (simp at c3 ⊢; omega)
  obtain rfl := Option.some.inj H
  go_enter Try.func65, Try.ntmps65
  go_wp2
  go_ret
  exact ⟨rz, bz HB⟩
end Go.Proofs.Ytndmhmekmkgccaa.PFnExactInRange
end
section
namespace Go.Proofs.Ytndmhmekmkgccaa.PFnExactInRange
open Go.RowKit Go.Proofs.YtndmhmekmkgccaaW.PrintWords Go.Proofs.YtndmhmekmkgccaaW.PrintLast Go.Proofs.YtndmhmekmkgccaaW.PrintMore
attribute [local go_sem] max2_int min2_int max_two min_two max_three min_three max_four min_four   -- for this text's walks alone
set_option linter.unusedVariables false
set_option linter.unusedSimpArgs false
set_option maxHeartbeats 8000000 in
set_option maxRecDepth 100000 in
theorem laws_eqTerm.calls (a0_0 : Int) (a0_1 : Int) (a0_2 : Int) (a0_3 : Int) (a1_0 : Int) (a1_1 : Int) (a1_2 : Int) (a1_3 : Int) (r : Bool) (w : World) (h : laws_eqTerm.f a0_0 a0_1 a0_2 a0_3 a1_0 a1_1 a1_2 a1_3 = some r) :
  Calls Try.prog 170 #[.agg #[.int .i64 a0_0, .int .i64 a0_1, .int .i64 a0_2, .int .i64 a0_3], .agg #[.int .i64 a1_0, .int .i64 a1_1, .int .i64 a1_2, .int .i64 a1_3]] w fun e w' => e = .returned (.bool r) ∧ Below w.heap.size w w' := by
 have hu107 := Try.underlying107
 have HB := Aside0.mk (Below.refl w.heap.size w)
 have H : (if a0_0 = a1_0 then (if a0_1 = a1_1 then (if a0_2 = a1_2 then (if a0_3 = a1_3 then (some true) else (some false)) else (some false)) else (some false)) else (some false)) = some r := h
 clear h
 by_cases c3 : a0_0 = a1_0
 ·
  rw [if_pos c3] at H
  have c3b0 : (a0_0 == a1_0) = true := beq_iff_eq.mpr c3
  have c3b1 : (a0_0 != a1_0) = false := bne_eq_false_iff_eq.mpr c3
  clear c3
  by_cases c4 : a0_1 = a1_1
  ·
   rw [if_pos c4] at H
   have c4b0 : (a0_1 == a1_1) = true := beq_iff_eq.mpr c4
   have c4b1 : (a0_1 != a1_1) = false := bne_eq_false_iff_eq.mpr c4
   clear c4
   by_cases c5 : a0_2 = a1_2
   ·
    rw [if_pos c5] at H
    have c5b0 : (a0_2 == a1_2) = true := beq_iff_eq.mpr c5
    have c5b1 : (a0_2 != a1_2) = false := bne_eq_false_iff_eq.mpr c5
    clear c5
    by_cases c6 : a0_3 = a1_3
    ·
     rw [if_pos c6] at H
     have c6b0 : (a0_3 == a1_3) = true := beq_iff_eq.mpr c6
     have c6b1 : (a0_3 != a1_3) = false := bne_eq_false_iff_eq.mpr c6
     clear c6
     obtain rfl := Option.some.inj H
     go_enter Try.func170, Try.ntmps170
     go_wp2_with (first | ((with_reducible refine gate_dst (N := 2) rfl ?_); refine box_event ?hg (N := 2) ?hd (cs := #[.int .i64 a0_0, .int .i64 a0_1, .int .i64 a0_2, .int .i64 a0_3]) (t := 107) ?hr ?_; (case hd => rfl); (case hg => rfl); (case hr => first | (go_simp; done) | (go_simp; rfl)); intro gb304 hg w7 hbox hb; have n0_ := Aside0.mk (below_step (bz HB) hb); have n1_ := Aside0.mk (hbox); have n2_ := Aside0.mk ((by rw [hg]; exact (below_size (bz HB)) : w.heap.size ≤ gb304)); have n3_ := Aside0.mk ((by rw [hg]; exact (below_size (bz HB)) : w.heap.size ≤ gb304)); clear HB; have HB := n0_; have BK304 := n1_; have GW304 := n2_; have GE304 := n3_; clear n0_ n1_ n2_ n3_; clear hb hbox hg) | ((with_reducible refine gate_dst (N := 3) rfl ?_); refine box_event ?hg (N := 3) ?hd (cs := #[.int .i64 a1_0, .int .i64 a1_1, .int .i64 a1_2, .int .i64 a1_3]) (t := 107) ?hr ?_; (case hd => rfl); (case hg => rfl); (case hr => first | (go_simp; done) | (go_simp; rfl)); intro gb305 hg w8 hbox hb; have n0_ := Aside0.mk (blk_below (g := gb304) (o := .cells #[.int .i64 a0_0, .int .i64 a0_1, .int .i64 a0_2, .int .i64 a0_3] 107 (0, 0)) (kz BK304) hb); have n1_ := Aside0.mk (below_step (bz1 HB GE304) hb); have n2_ := Aside0.mk (hbox); have n3_ := Aside0.mk ((by rw [hg]; exact (below_size (bz1 HB GE304)) : w.heap.size ≤ gb305)); have n4_ := Aside0.mk ((by rw [hg]; exact (below_size (bz1 HB GE304)) : w.heap.size ≤ gb305)); have n5_ := Aside0.mk ((by rw [hg]; exact Nat.ne_of_lt (blk_lt (g := gb304) (o := .cells #[.int .i64 a0_0, .int .i64 a0_1, .int .i64 a0_2, .int .i64 a0_3] 107 (0, 0)) (kz BK304)) : gb304 ≠ gb305)); have n6_ := Aside0.mk ((by rw [hg]; exact Nat.ne_of_gt (blk_lt (g := gb304) (o := .cells #[.int .i64 a0_0, .int .i64 a0_1, .int .i64 a0_2, .int .i64 a0_3] 107 (0, 0)) (kz BK304)) : gb305 ≠ gb304)); clear BK304; clear HB; have BK304 := n0_; have HB := n1_; have BK305 := n2_; have GW305 := n3_; have GE305 := n4_; have NB304_305 := n5_; have NB305_304 := n6_; clear n0_ n1_ n2_ n3_ n4_ n5_ n6_; clear hb hbox hg; have hnb9 := NB304_305.out; have hnc9 := NB305_304.out; have hcz10_0 : w8.cell? ⟨gb304, 0, none⟩ = some (.int .i64 a0_0) := (blk_cell BK304.out 0).trans rfl; have hcz10_1 : w8.cell? ⟨gb304, 1, none⟩ = some (.int .i64 a0_1) := (blk_cell BK304.out 1).trans rfl; have hcz10_2 : w8.cell? ⟨gb304, 2, none⟩ = some (.int .i64 a0_2) := (blk_cell BK304.out 2).trans rfl; have hcz10_3 : w8.cell? ⟨gb304, 3, none⟩ = some (.int .i64 a0_3) := (blk_cell BK304.out 3).trans rfl; have hfz10_0 := blk_frozen BK304.out 0; have hfz10_1 := blk_frozen BK304.out 1; have hfz10_2 := blk_frozen BK304.out 2; have hfz10_3 := blk_frozen BK304.out 3; have hcz11_0 : w8.cell? ⟨gb305, 0, none⟩ = some (.int .i64 a1_0) := (blk_cell BK305.out 0).trans rfl; have hcz11_1 : w8.cell? ⟨gb305, 1, none⟩ = some (.int .i64 a1_1) := (blk_cell BK305.out 1).trans rfl; have hcz11_2 : w8.cell? ⟨gb305, 2, none⟩ = some (.int .i64 a1_2) := (blk_cell BK305.out 2).trans rfl; have hcz11_3 : w8.cell? ⟨gb305, 3, none⟩ = some (.int .i64 a1_3) := (blk_cell BK305.out 3).trans rfl; have hfz11_0 := blk_frozen BK305.out 0; have hfz11_1 := blk_frozen BK305.out 1; have hfz11_2 := blk_frozen BK305.out 2; have hfz11_3 := blk_frozen BK305.out 3))
     go_ret
     exact ⟨rz, bz2 HB GE304 GE305⟩
    ·
     rw [if_neg c6] at H
     have c6b0 : (a0_3 == a1_3) = false := beq_eq_false_iff_ne.mpr c6
     have c6b1 : (a0_3 != a1_3) = true := bne_iff_ne.mpr c6
     obtain rfl := Option.some.inj H
     go_enter Try.func170, Try.ntmps170
     go_wp2_with (first | ((with_reducible refine gate_dst (N := 2) rfl ?_); refine box_event ?hg (N := 2) ?hd (cs := #[.int .i64 a0_0, .int .i64 a0_1, .int .i64 a0_2, .int .i64 a0_3]) (t := 107) ?hr ?_; (case hd => rfl); (case hg => rfl); (case hr => first | (go_simp; done) | (go_simp; rfl)); intro gb304 hg w12 hbox hb; have n0_ := Aside0.mk (below_step (bz HB) hb); have n1_ := Aside0.mk (hbox); have n2_ := Aside0.mk ((by rw [hg]; exact (below_size (bz HB)) : w.heap.size ≤ gb304)); have n3_ := Aside0.mk ((by rw [hg]; exact (below_size (bz HB)) : w.heap.size ≤ gb304)); clear HB; have HB := n0_; have BK304 := n1_; have GW304 := n2_; have GE304 := n3_; clear n0_ n1_ n2_ n3_; clear hb hbox hg) | ((with_reducible refine gate_dst (N := 3) rfl ?_); refine box_event ?hg (N := 3) ?hd (cs := #[.int .i64 a1_0, .int .i64 a1_1, .int .i64 a1_2, .int .i64 a1_3]) (t := 107) ?hr ?_; (case hd => rfl); (case hg => rfl); (case hr => first | (go_simp; done) | (go_simp; rfl)); intro gb305 hg w13 hbox hb; have n0_ := Aside0.mk (blk_below (g := gb304) (o := .cells #[.int .i64 a0_0, .int .i64 a0_1, .int .i64 a0_2, .int .i64 a0_3] 107 (0, 0)) (kz BK304) hb); have n1_ := Aside0.mk (below_step (bz1 HB GE304) hb); have n2_ := Aside0.mk (hbox); have n3_ := Aside0.mk ((by rw [hg]; exact (below_size (bz1 HB GE304)) : w.heap.size ≤ gb305)); have n4_ := Aside0.mk ((by rw [hg]; exact (below_size (bz1 HB GE304)) : w.heap.size ≤ gb305)); have n5_ := Aside0.mk ((by rw [hg]; exact Nat.ne_of_lt (blk_lt (g := gb304) (o := .cells #[.int .i64 a0_0, .int .i64 a0_1, .int .i64 a0_2, .int .i64 a0_3] 107 (0, 0)) (kz BK304)) : gb304 ≠ gb305)); have n6_ := Aside0.mk ((by rw [hg]; exact Nat.ne_of_gt (blk_lt (g := gb304) (o := .cells #[.int .i64 a0_0, .int .i64 a0_1, .int .i64 a0_2, .int .i64 a0_3] 107 (0, 0)) (kz BK304)) : gb305 ≠ gb304)); clear BK304; clear HB; have BK304 := n0_; have HB := n1_; have BK305 := n2_; have GW305 := n3_; have GE305 := n4_; have NB304_305 := n5_; have NB305_304 := n6_; clear n0_ n1_ n2_ n3_ n4_ n5_ n6_; clear hb hbox hg; have hnb14 := NB304_305.out; have hnc14 := NB305_304.out; have hcz15_0 : w13.cell? ⟨gb304, 0, none⟩ = some (.int .i64 a0_0) := (blk_cell BK304.out 0).trans rfl; have hcz15_1 : w13.cell? ⟨gb304, 1, none⟩ = some (.int .i64 a0_1) := (blk_cell BK304.out 1).trans rfl; have hcz15_2 : w13.cell? ⟨gb304, 2, none⟩ = some (.int .i64 a0_2) := (blk_cell BK304.out 2).trans rfl; have hcz15_3 : w13.cell? ⟨gb304, 3, none⟩ = some (.int .i64 a0_3) := (blk_cell BK304.out 3).trans rfl; have hfz15_0 := blk_frozen BK304.out 0; have hfz15_1 := blk_frozen BK304.out 1; have hfz15_2 := blk_frozen BK304.out 2; have hfz15_3 := blk_frozen BK304.out 3; have hcz16_0 : w13.cell? ⟨gb305, 0, none⟩ = some (.int .i64 a1_0) := (blk_cell BK305.out 0).trans rfl; have hcz16_1 : w13.cell? ⟨gb305, 1, none⟩ = some (.int .i64 a1_1) := (blk_cell BK305.out 1).trans rfl; have hcz16_2 : w13.cell? ⟨gb305, 2, none⟩ = some (.int .i64 a1_2) := (blk_cell BK305.out 2).trans rfl; have hcz16_3 : w13.cell? ⟨gb305, 3, none⟩ = some (.int .i64 a1_3) := (blk_cell BK305.out 3).trans rfl; have hfz16_0 := blk_frozen BK305.out 0; have hfz16_1 := blk_frozen BK305.out 1; have hfz16_2 := blk_frozen BK305.out 2; have hfz16_3 := blk_frozen BK305.out 3))
     go_ret
     exact ⟨rz, bz2 HB GE304 GE305⟩
   ·
    rw [if_neg c5] at H
    have c5b0 : (a0_2 == a1_2) = false := beq_eq_false_iff_ne.mpr c5
    have c5b1 : (a0_2 != a1_2) = true := bne_iff_ne.mpr c5
    obtain rfl := Option.some.inj H
    go_enter Try.func170, Try.ntmps170
    go_wp2_with (first | ((with_reducible refine gate_dst (N := 2) rfl ?_); refine box_event ?hg (N := 2) ?hd (cs := #[.int .i64 a0_0, .int .i64 a0_1, .int .i64 a0_2, .int .i64 a0_3]) (t := 107) ?hr ?_; (case hd => rfl); (case hg => rfl); (case hr => first | (go_simp; done) | (go_simp; rfl)); intro gb304 hg w17 hbox hb; have n0_ := Aside0.mk (below_step (bz HB) hb); have n1_ := Aside0.mk (hbox); have n2_ := Aside0.mk ((by rw [hg]; exact (below_size (bz HB)) : w.heap.size ≤ gb304)); have n3_ := Aside0.mk ((by rw [hg]; exact (below_size (bz HB)) : w.heap.size ≤ gb304)); clear HB; have HB := n0_; have BK304 := n1_; have GW304 := n2_; have GE304 := n3_; clear n0_ n1_ n2_ n3_; clear hb hbox hg) | ((with_reducible refine gate_dst (N := 3) rfl ?_); refine box_event ?hg (N := 3) ?hd (cs := #[.int .i64 a1_0, .int .i64 a1_1, .int .i64 a1_2, .int .i64 a1_3]) (t := 107) ?hr ?_; (case hd => rfl); (case hg => rfl); (case hr => first | (go_simp; done) | (go_simp; rfl)); intro gb305 hg w18 hbox hb; have n0_ := Aside0.mk (blk_below (g := gb304) (o := .cells #[.int .i64 a0_0, .int .i64 a0_1, .int .i64 a0_2, .int .i64 a0_3] 107 (0, 0)) (kz BK304) hb); have n1_ := Aside0.mk (below_step (bz1 HB GE304) hb); have n2_ := Aside0.mk (hbox); have n3_ := Aside0.mk ((by rw [hg]; exact (below_size (bz1 HB GE304)) : w.heap.size ≤ gb305)); have n4_ := Aside0.mk ((by rw [hg]; exact (below_size (bz1 HB GE304)) : w.heap.size ≤ gb305)); have n5_ := Aside0.mk ((by rw [hg]; exact Nat.ne_of_lt (blk_lt (g := gb304) (o := .cells #[.int .i64 a0_0, .int .i64 a0_1, .int .i64 a0_2, .int .i64 a0_3] 107 (0, 0)) (kz BK304)) : gb304 ≠ gb305)); have n6_ := Aside0.mk ((by rw [hg]; exact Nat.ne_of_gt (blk_lt (g := gb304) (o := .cells #[.int .i64 a0_0, .int .i64 a0_1, .int .i64 a0_2, .int .i64 a0_3] 107 (0, 0)) (kz BK304)) : gb305 ≠ gb304)); clear BK304; clear HB; have BK304 := n0_; have HB := n1_; have BK305 := n2_; have GW305 := n3_; have GE305 := n4_; have NB304_305 := n5_; have NB305_304 := n6_; clear n0_ n1_ n2_ n3_ n4_ n5_ n6_; clear hb hbox hg; have hnb19 := NB304_305.out; have hnc19 := NB305_304.out; have hcz20_0 : w18.cell? ⟨gb304, 0, none⟩ = some (.int .i64 a0_0) := (blk_cell BK304.out 0).trans rfl; have hcz20_1 : w18.cell? ⟨gb304, 1, none⟩ = some (.int .i64 a0_1) := (blk_cell BK304.out 1).trans rfl; have hcz20_2 : w18.cell? ⟨gb304, 2, none⟩ = some (.int .i64 a0_2) := (blk_cell BK304.out 2).trans rfl; have hcz20_3 : w18.cell? ⟨gb304, 3, none⟩ = some (.int .i64 a0_3) := (blk_cell BK304.out 3).trans rfl; have hfz20_0 := blk_frozen BK304.out 0; have hfz20_1 := blk_frozen BK304.out 1; have hfz20_2 := blk_frozen BK304.out 2; have hfz20_3 := blk_frozen BK304.out 3; have hcz21_0 : w18.cell? ⟨gb305, 0, none⟩ = some (.int .i64 a1_0) := (blk_cell BK305.out 0).trans rfl; have hcz21_1 : w18.cell? ⟨gb305, 1, none⟩ = some (.int .i64 a1_1) := (blk_cell BK305.out 1).trans rfl; have hcz21_2 : w18.cell? ⟨gb305, 2, none⟩ = some (.int .i64 a1_2) := (blk_cell BK305.out 2).trans rfl; have hcz21_3 : w18.cell? ⟨gb305, 3, none⟩ = some (.int .i64 a1_3) := (blk_cell BK305.out 3).trans rfl; have hfz21_0 := blk_frozen BK305.out 0; have hfz21_1 := blk_frozen BK305.out 1; have hfz21_2 := blk_frozen BK305.out 2; have hfz21_3 := blk_frozen BK305.out 3))
    go_ret
    exact ⟨rz, bz2 HB GE304 GE305⟩
  ·
   rw [if_neg c4] at H
   have c4b0 : (a0_1 == a1_1) = false := beq_eq_false_iff_ne.mpr c4
   have c4b1 : (a0_1 != a1_1) = true := bne_iff_ne.mpr c4
   obtain rfl := Option.some.inj H
   go_enter Try.func170, Try.ntmps170
   go_wp2_with (first | ((with_reducible refine gate_dst (N := 2) rfl ?_); refine box_event ?hg (N := 2) ?hd (cs := #[.int .i64 a0_0, .int .i64 a0_1, .int .i64 a0_2, .int .i64 a0_3]) (t := 107) ?hr ?_; (case hd => rfl); (case hg => rfl); (case hr => first | (go_simp; done) | (go_simp; rfl)); intro gb304 hg w22 hbox hb; have n0_ := Aside0.mk (below_step (bz HB) hb); have n1_ := Aside0.mk (hbox); have n2_ := Aside0.mk ((by rw [hg]; exact (below_size (bz HB)) : w.heap.size ≤ gb304)); have n3_ := Aside0.mk ((by rw [hg]; exact (below_size (bz HB)) : w.heap.size ≤ gb304)); clear HB; have HB := n0_; have BK304 := n1_; have GW304 := n2_; have GE304 := n3_; clear n0_ n1_ n2_ n3_; clear hb hbox hg) | ((with_reducible refine gate_dst (N := 3) rfl ?_); refine box_event ?hg (N := 3) ?hd (cs := #[.int .i64 a1_0, .int .i64 a1_1, .int .i64 a1_2, .int .i64 a1_3]) (t := 107) ?hr ?_; (case hd => rfl); (case hg => rfl); (case hr => first | (go_simp; done) | (go_simp; rfl)); intro gb305 hg w23 hbox hb; have n0_ := Aside0.mk (blk_below (g := gb304) (o := .cells #[.int .i64 a0_0, .int .i64 a0_1, .int .i64 a0_2, .int .i64 a0_3] 107 (0, 0)) (kz BK304) hb); have n1_ := Aside0.mk (below_step (bz1 HB GE304) hb); have n2_ := Aside0.mk (hbox); have n3_ := Aside0.mk ((by rw [hg]; exact (below_size (bz1 HB GE304)) : w.heap.size ≤ gb305)); have n4_ := Aside0.mk ((by rw [hg]; exact (below_size (bz1 HB GE304)) : w.heap.size ≤ gb305)); have n5_ := Aside0.mk ((by rw [hg]; exact Nat.ne_of_lt (blk_lt (g := gb304) (o := .cells #[.int .i64 a0_0, .int .i64 a0_1, .int .i64 a0_2, .int .i64 a0_3] 107 (0, 0)) (kz BK304)) : gb304 ≠ gb305)); have n6_ := Aside0.mk ((by rw [hg]; exact Nat.ne_of_gt (blk_lt (g := gb304) (o := .cells #[.int .i64 a0_0, .int .i64 a0_1, .int .i64 a0_2, .int .i64 a0_3] 107 (0, 0)) (kz BK304)) : gb305 ≠ gb304)); clear BK304; clear HB; have BK304 := n0_; have HB := n1_; have BK305 := n2_; have GW305 := n3_; have GE305 := n4_; have NB304_305 := n5_; have NB305_304 := n6_; clear n0_ n1_ n2_ n3_ n4_ n5_ n6_; clear hb hbox hg; have hnb24 := NB304_305.out; have hnc24 := NB305_304.out; have hcz25_0 : w23.cell? ⟨gb304, 0, none⟩ = some (.int .i64 a0_0) := (blk_cell BK304.out 0).trans rfl; have hcz25_1 : w23.cell? ⟨gb304, 1, none⟩ = some (.int .i64 a0_1) := (blk_cell BK304.out 1).trans rfl; have hcz25_2 : w23.cell? ⟨gb304, 2, none⟩ = some (.int .i64 a0_2) := (blk_cell BK304.out 2).trans rfl; have hcz25_3 : w23.cell? ⟨gb304, 3, none⟩ = some (.int .i64 a0_3) := (blk_cell BK304.out 3).trans rfl; have hfz25_0 := blk_frozen BK304.out 0; have hfz25_1 := blk_frozen BK304.out 1; have hfz25_2 := blk_frozen BK304.out 2; have hfz25_3 := blk_frozen BK304.out 3; have hcz26_0 : w23.cell? ⟨gb305, 0, none⟩ = some (.int .i64 a1_0) := (blk_cell BK305.out 0).trans rfl; have hcz26_1 : w23.cell? ⟨gb305, 1, none⟩ = some (.int .i64 a1_1) := (blk_cell BK305.out 1).trans rfl; have hcz26_2 : w23.cell? ⟨gb305, 2, none⟩ = some (.int .i64 a1_2) := (blk_cell BK305.out 2).trans rfl; have hcz26_3 : w23.cell? ⟨gb305, 3, none⟩ = some (.int .i64 a1_3) := (blk_cell BK305.out 3).trans rfl; have hfz26_0 := blk_frozen BK305.out 0; have hfz26_1 := blk_frozen BK305.out 1; have hfz26_2 := blk_frozen BK305.out 2; have hfz26_3 := blk_frozen BK305.out 3))
   go_ret
   exact ⟨rz, bz2 HB GE304 GE305⟩
 ·
  rw [if_neg c3] at H
  have c3b0 : (a0_0 == a1_0) = false := beq_eq_false_iff_ne.mpr c3
  have c3b1 : (a0_0 != a1_0) = true := bne_iff_ne.mpr c3
  obtain rfl := Option.some.inj H
  go_enter Try.func170, Try.ntmps170
  go_wp2_with (first | ((with_reducible refine gate_dst (N := 2) rfl ?_); refine box_event ?hg (N := 2) ?hd (cs := #[.int .i64 a0_0, .int .i64 a0_1, .int .i64 a0_2, .int .i64 a0_3]) (t := 107) ?hr ?_; (case hd => rfl); (case hg => rfl); (case hr => first | (go_simp; done) | (go_simp; rfl)); intro gb304 hg w27 hbox hb; have n0_ := Aside0.mk (below_step (bz HB) hb); have n1_ := Aside0.mk (hbox); have n2_ := Aside0.mk ((by rw [hg]; exact (below_size (bz HB)) : w.heap.size ≤ gb304)); have n3_ := Aside0.mk ((by rw [hg]; exact (below_size (bz HB)) : w.heap.size ≤ gb304)); clear HB; have HB := n0_; have BK304 := n1_; have GW304 := n2_; have GE304 := n3_; clear n0_ n1_ n2_ n3_; clear hb hbox hg) | ((with_reducible refine gate_dst (N := 3) rfl ?_); refine box_event ?hg (N := 3) ?hd (cs := #[.int .i64 a1_0, .int .i64 a1_1, .int .i64 a1_2, .int .i64 a1_3]) (t := 107) ?hr ?_; (case hd => rfl); (case hg => rfl); (case hr => first | (go_simp; done) | (go_simp; rfl)); intro gb305 hg w28 hbox hb; have n0_ := Aside0.mk (blk_below (g := gb304) (o := .cells #[.int .i64 a0_0, .int .i64 a0_1, .int .i64 a0_2, .int .i64 a0_3] 107 (0, 0)) (kz BK304) hb); have n1_ := Aside0.mk (below_step (bz1 HB GE304) hb); have n2_ := Aside0.mk (hbox); have n3_ := Aside0.mk ((by rw [hg]; exact (below_size (bz1 HB GE304)) : w.heap.size ≤ gb305)); have n4_ := Aside0.mk ((by rw [hg]; exact (below_size (bz1 HB GE304)) : w.heap.size ≤ gb305)); have n5_ := Aside0.mk ((by rw [hg]; exact Nat.ne_of_lt (blk_lt (g := gb304) (o := .cells #[.int .i64 a0_0, .int .i64 a0_1, .int .i64 a0_2, .int .i64 a0_3] 107 (0, 0)) (kz BK304)) : gb304 ≠ gb305)); have n6_ := Aside0.mk ((by rw [hg]; exact Nat.ne_of_gt (blk_lt (g := gb304) (o := .cells #[.int .i64 a0_0, .int .i64 a0_1, .int .i64 a0_2, .int .i64 a0_3] 107 (0, 0)) (kz BK304)) : gb305 ≠ gb304)); clear BK304; clear HB; have BK304 := n0_; have HB := n1_; have BK305 := n2_; have GW305 := n3_; have GE305 := n4_; have NB304_305 := n5_; have NB305_304 := n6_; clear n0_ n1_ n2_ n3_ n4_ n5_ n6_; clear hb hbox hg; have hnb29 := NB304_305.out; have hnc29 := NB305_304.out; have hcz30_0 : w28.cell? ⟨gb304, 0, none⟩ = some (.int .i64 a0_0) := (blk_cell BK304.out 0).trans rfl; have hcz30_1 : w28.cell? ⟨gb304, 1, none⟩ = some (.int .i64 a0_1) := (blk_cell BK304.out 1).trans rfl; have hcz30_2 : w28.cell? ⟨gb304, 2, none⟩ = some (.int .i64 a0_2) := (blk_cell BK304.out 2).trans rfl; have hcz30_3 : w28.cell? ⟨gb304, 3, none⟩ = some (.int .i64 a0_3) := (blk_cell BK304.out 3).trans rfl; have hfz30_0 := blk_frozen BK304.out 0; have hfz30_1 := blk_frozen BK304.out 1; have hfz30_2 := blk_frozen BK304.out 2; have hfz30_3 := blk_frozen BK304.out 3; have hcz31_0 : w28.cell? ⟨gb305, 0, none⟩ = some (.int .i64 a1_0) := (blk_cell BK305.out 0).trans rfl; have hcz31_1 : w28.cell? ⟨gb305, 1, none⟩ = some (.int .i64 a1_1) := (blk_cell BK305.out 1).trans rfl; have hcz31_2 : w28.cell? ⟨gb305, 2, none⟩ = some (.int .i64 a1_2) := (blk_cell BK305.out 2).trans rfl; have hcz31_3 : w28.cell? ⟨gb305, 3, none⟩ = some (.int .i64 a1_3) := (blk_cell BK305.out 3).trans rfl; have hfz31_0 := blk_frozen BK305.out 0; have hfz31_1 := blk_frozen BK305.out 1; have hfz31_2 := blk_frozen BK305.out 2; have hfz31_3 := blk_frozen BK305.out 3))
  go_ret
  exact ⟨rz, bz2 HB GE304 GE305⟩
end Go.Proofs.Ytndmhmekmkgccaa.PFnExactInRange
end
section
namespace Go.Proofs.Ytndmhmekmkgccaa.PFnExactInRange
open Go.RowKit Go.Proofs.YtndmhmekmkgccaaW.PrintWords Go.Proofs.YtndmhmekmkgccaaW.PrintLast Go.Proofs.YtndmhmekmkgccaaW.PrintMore
attribute [local go_sem] max2_int min2_int max_two min_two max_three min_three max_four min_four   -- for this text's walks alone
set_option linter.unusedVariables false
set_option linter.unusedSimpArgs false
def laws_eqTermS.T6 : Bool × List (List Nat × List Nat) := (true, [([], []), ([], []), ([0, 1], [0, 1]), ([2], [2]), ([], []), ([], []), ([4, 5], [4, 5]), ([6], [6]), ([3, 7], [3, 7]), ([8], [8])])
def laws_eqTermS.B6 : List Nat := [0, 0, 3, 7, 0, 0, 48, 112, 255, 511]
theorem laws_eqTermS.tab6 : rtab .any (opsOf Try.f162 6) = laws_eqTermS.T6 := by kernel_rfl
theorem laws_eqTermS.bits6 : waitsOk laws_eqTermS.T6.2 laws_eqTermS.B6 = true := by kernel_rfl
set_option maxHeartbeats 8000000 in
set_option maxRecDepth 100000 in
theorem laws_eqTermS.calls (k : Nat) (A0 : Option Addr) (c0 : Nat) (l0 : List (ITerm)) (A1 : Option Addr) (c1 : Nat) (l1 : List (ITerm)) (r : Bool) (w : World) (hr0 : Kd.C k107 w A0 l0.length l0) (hc0 : l0.length ≤ c0) (hr1 : Kd.C k107 w A1 l1.length l1) (hc1 : l1.length ≤ c1) (h : laws_eqTermS.f k l0 l1 = some r) :
  Calls Try.prog 162 #[.slice A0 l0.length c0, .slice A1 l1.length c1] w fun e w' => e = .returned (.bool r) ∧ Below w.heap.size w w' := by
 have hu107 := Try.underlying107
 have HR0 := Aside0.mk hr0
 have HC0 := Aside0.mk hc0
 clear hr0 hc0
 have HR1 := Aside0.mk hr1
 have HC1 := Aside0.mk hc1
 clear hr1 hc1
 have HB := Aside0.mk (Below.refl w.heap.size w)
 have H : (if (l0.length : Int) = (l1.length : Int) then (laws_eqTermS.l0 k l0 l1 0) else (some false)) = some r := h
 clear h
 by_cases c3 : (l0.length : Int) = (l1.length : Int)
 ·
  rw [if_pos c3] at H
  have c3b0 : ((l0.length : Int) == (l1.length : Int)) = true := beq_iff_eq.mpr c3
  have c3b1 : ((l0.length : Int) != (l1.length : Int)) = false := bne_eq_false_iff_eq.mpr c3
  have c3b2 : (l0.length == l1.length) = true := by first | simpa using c3 | (simp at c3 ⊢; omega)
  clear c3
  have H' := Aside0.mk H
  clear H
  go_enter Try.func162, Try.ntmps162
  go_wp2
  go_loopg [5] k (fun kq v5 w' => ∃ (x5_1 : Int), v5 = .int .i64 x5_1 ∧ Aside0 (laws_eqTermS.l0 kq l0 l1 x5_1 = some r) ∧ Aside0 (kq ≤ k) ∧ Aside0 (Below w.heap.size w w'))
  case atStart => exact ⟨(0), rq, H', ⟨Nat.le_refl _⟩, ⟨bz HB⟩⟩
  case round =>
   clear H'
   try clear c1
   try clear p2
   try clear c3
   try clear c3b0
   try clear c3b1
   try clear c3b2
   obtain ⟨x5_1, rfl, HA, HK1, HB⟩ := hrel
   cases gk with
   | zero => exact absurd HA.out (by simp [laws_eqTermS.l0])
   | succ k1 =>
    have H := HA.out
    clear HA
    simp only [laws_eqTermS.l0] at H
    by_cases c4 : x5_1 < (l0.length : Int)
    ·
     rw [if_pos c4] at H
     have c4b0 : decide (x5_1 < (l0.length : Int)) = true := decide_eq_true c4
     clear c4
     by_cases c5 : 0 ≤ x5_1
     ·
      rw [if_pos c5] at H
      have c5b0 : decide (0 ≤ x5_1) = true := decide_eq_true c5
      clear c5
      by_cases c6 : x5_1 < (l1.length : Int)
      ·
       rw [if_pos c6] at H
       have c6b0 : decide (x5_1 < (l1.length : Int)) = true := decide_eq_true c6
       clear c6
       replace H := Option.bind_eq_some_iff.mp H
       obtain ⟨t308, A70, H⟩ := H
       have A7 := Aside0.mk A70
       clear A70
       by_cases c8 : t308 = true
       ·
        subst c8
        rw [if_pos rfl] at H
        have H' := Aside0.mk H
        clear H
        try go_wp2
        have n0_ := Aside0.mk (below_drew1 HB.out)
        clear HB
        have HB := n0_
        clear n0_
        have p306 : 0 ≤ (x5_1 : Int) := dz
        have q306 : x5_1 < (l0.length : Int) := dz
        obtain ⟨ad306, e306, hx306_0, hx306_1, hx306_2, hx306_3⟩ := at_ITerm HR0.out x5_1 p306 q306
        have hw306_3 := hx306_3
        have hw306_2 := hx306_2
        have hw306_1 := hx306_1
        have hw306_0 := hx306_0
        cases e306
        replace hx306_0 := xz HB hx306_0
        replace hx306_1 := xz HB hx306_1
        replace hx306_2 := xz HB hx306_2
        replace hx306_3 := xz HB hx306_3
        replace p306 := eq_true p306
        replace q306 := eq_true q306
        have p307 : 0 ≤ (x5_1 : Int) := dz
        have q307 : x5_1 < (l1.length : Int) := dz
        obtain ⟨ad307, e307, hx307_0, hx307_1, hx307_2, hx307_3⟩ := at_ITerm HR1.out x5_1 p307 q307
        have hw307_3 := hx307_3
        have hw307_2 := hx307_2
        have hw307_1 := hx307_1
        have hw307_0 := hx307_0
        cases e307
        replace hx307_0 := xz HB hx307_0
        replace hx307_1 := xz HB hx307_1
        replace hx307_2 := xz HB hx307_2
        replace hx307_3 := xz HB hx307_3
        replace p307 := eq_true p307
        replace q307 := eq_true q307
        refine start_ (n := 10) (S := fun w' => w'.cell? (ad306.add ((x5_1).toNat * 4)) = some (.int .i64 ((rd_ITerm l0 x5_1).f0)) ∧ w'.cell? ⟨(ad306.add ((x5_1).toNat * 4)).block, (ad306.add ((x5_1).toNat * 4)).off + 1, none⟩ = some (.int .i64 ((rd_ITerm l0 x5_1).f1)) ∧ w'.cell? ⟨(ad306.add ((x5_1).toNat * 4)).block, (ad306.add ((x5_1).toNat * 4)).off + 2, none⟩ = some (.int .i64 ((rd_ITerm l0 x5_1).f2)) ∧ w'.cell? ⟨(ad306.add ((x5_1).toNat * 4)).block, (ad306.add ((x5_1).toNat * 4)).off + 3, none⟩ = some (.int .i64 ((rd_ITerm l0 x5_1).f3)) ∧ w'.cell? (ad307.add ((x5_1).toNat * 4)) = some (.int .i64 ((rd_ITerm l1 x5_1).f0)) ∧ w'.cell? ⟨(ad307.add ((x5_1).toNat * 4)).block, (ad307.add ((x5_1).toNat * 4)).off + 1, none⟩ = some (.int .i64 ((rd_ITerm l1 x5_1).f1)) ∧ w'.cell? ⟨(ad307.add ((x5_1).toNat * 4)).block, (ad307.add ((x5_1).toNat * 4)).off + 2, none⟩ = some (.int .i64 ((rd_ITerm l1 x5_1).f2)) ∧ w'.cell? ⟨(ad307.add ((x5_1).toNat * 4)).block, (ad307.add ((x5_1).toNat * 4)).off + 3, none⟩ = some (.int .i64 ((rd_ITerm l1 x5_1).f3))) (ds := []) #[false, false, false, false, false, false, false, false, false, false] (by kernel_rfl) rfl rfl ⟨((HB.out.cell (World.block_lt_of_cell? w _ hw306_0)).trans hw306_0), ((HB.out.cell (World.block_lt_of_cell? w _ hw306_1)).trans hw306_1), ((HB.out.cell (World.block_lt_of_cell? w _ hw306_2)).trans hw306_2), ((HB.out.cell (World.block_lt_of_cell? w _ hw306_3)).trans hw306_3), ((HB.out.cell (World.block_lt_of_cell? w _ hw307_0)).trans hw307_0), ((HB.out.cell (World.block_lt_of_cell? w _ hw307_1)).trans hw307_1), ((HB.out.cell (World.block_lt_of_cell? w _ hw307_2)).trans hw307_2), ((HB.out.cell (World.block_lt_of_cell? w _ hw307_3)).trans hw307_3)⟩ (fun hHeld => ?_); refine with_tabW laws_eqTermS.tab6 laws_eqTermS.bits6 (fun HT_ HW_ => ?_)
        generalize wr.drew = w9 at HB hx306_0 hx306_1 hx306_2 hx306_3 hx307_0 hx307_1 hx307_2 hx307_3 hHeld ⊢
        refine pure_ (i := 0) (N := some 17) (v := ?_) (a' := ?_) #[true, false, false, false, false, false, false, false, false, false] rfl rfl (any_of HT_.out (by kernel_rfl)) (fun _ _ _ h => h) (Or.inl ⟨by rfl, ?_⟩) ?_ ?_
        rotate_left
        ·
         intro w'
         go_simp
         with_reducible rfl
        rotate_left
        ·
         simp only [Act.put, sb_, sc0_, sc1_, i64_w, i32_w]
         rfl
        refine pure_ (i := 1) (N := some 18) (v := ?_) (a' := ?_) #[true, true, false, false, false, false, false, false, false, false] rfl rfl (any_of HT_.out (by kernel_rfl)) (fun _ _ _ h => h) (Or.inl ⟨by rfl, ?_⟩) ?_ ?_
        rotate_left
        ·
         intro w'
         go_simp
         with_reducible rfl
        rotate_left
        ·
         simp only [Act.put, sb_, sc0_, sc1_, i64_w, i32_w]
         rfl
        refine pure_ (i := 2) (N := some 19) (v := ?_) (a' := ?_) #[true, true, true, false, false, false, false, false, false, false] rfl rfl (any_of HT_.out (by kernel_rfl)) (fun _ _ _ h => h) (Or.inl ⟨by rfl, ?_⟩) ?_ ?_
        rotate_left
        ·
         intro w'
         go_simp
         with_reducible rfl
        rotate_left
        ·
         simp only [Act.put, sb_, sc0_, sc1_, i64_w, i32_w]
         rfl
        refine pure_ (i := 4) (N := some 21) (v := ?_) (a' := ?_) #[true, true, true, false, true, false, false, false, false, false] rfl rfl (any_of HT_.out (by kernel_rfl)) (fun _ _ _ h => h) (Or.inl ⟨by rfl, ?_⟩) ?_ ?_
        rotate_left
        ·
         intro w'
         go_simp
         with_reducible rfl
        rotate_left
        ·
         simp only [Act.put, sb_, sc0_, sc1_, i64_w, i32_w]
         rfl
        refine pure_ (i := 5) (N := some 22) (v := ?_) (a' := ?_) #[true, true, true, false, true, true, false, false, false, false] rfl rfl (any_of HT_.out (by kernel_rfl)) (fun _ _ _ h => h) (Or.inl ⟨by rfl, ?_⟩) ?_ ?_
        rotate_left
        ·
         intro w'
         go_simp
         with_reducible rfl
        rotate_left
        ·
         simp only [Act.put, sb_, sc0_, sc1_, i64_w, i32_w]
         rfl
        refine pure_ (i := 6) (N := some 23) (v := ?_) (a' := ?_) #[true, true, true, false, true, true, true, false, false, false] rfl rfl (any_of HT_.out (by kernel_rfl)) (fun _ _ _ h => h) (Or.inl ⟨by rfl, ?_⟩) ?_ ?_
        rotate_left
        ·
         intro w'
         go_simp
         with_reducible rfl
        rotate_left
        ·
         simp only [Act.put, sb_, sc0_, sc1_, i64_w, i32_w]
         rfl
        refine take_ (i := 3) (N := some 20) (v := ?_) (a' := ?_) #[true, true, true, true, true, true, true, false, false, false] rfl rfl (take_ofW HT_.out HW_.out (by kernel_rfl)) (fun _ _ _ h => h) (Or.inl ⟨by rfl, ?_⟩) hHeld ?_ ?_
        rotate_left
        ·
         rintro w' ⟨s0, s1, s2, s3, s4, s5, s6, s7⟩
         go_simp
         with_reducible rfl
        rotate_left
        ·
         simp only [Act.put, sb_, sc0_, sc1_, i64_w, i32_w]
         rfl
        refine take_ (i := 7) (N := some 24) (v := ?_) (a' := ?_) #[true, true, true, true, true, true, true, true, false, false] rfl rfl (take_ofW HT_.out HW_.out (by kernel_rfl)) (fun _ _ _ h => h) (Or.inl ⟨by rfl, ?_⟩) hHeld ?_ ?_
        rotate_left
        ·
         rintro w' ⟨s0, s1, s2, s3, s4, s5, s6, s7⟩
         go_simp
         with_reducible rfl
        rotate_left
        ·
         simp only [Act.put, sb_, sc0_, sc1_, i64_w, i32_w]
         rfl
        refine one_ (i := 8) (N := some 25) #[true, true, true, true, true, true, true, true, true, false] rfl rfl (one_of HT_.out (by kernel_rfl)) (by decide) (fun K hK => ?_)
        refine goes_ Try.func170 (by kernel_rfl) rfl #[.agg #[.int .i64 ((rd_ITerm l0 x5_1).f0), .int .i64 ((rd_ITerm l0 x5_1).f1), .int .i64 ((rd_ITerm l0 x5_1).f2), .int .i64 ((rd_ITerm l0 x5_1).f3)], .agg #[.int .i64 ((rd_ITerm l1 x5_1).f0), .int .i64 ((rd_ITerm l1 x5_1).f1), .int .i64 ((rd_ITerm l1 x5_1).f2), .int .i64 ((rd_ITerm l1 x5_1).f3)]] (by rfl) rfl rfl az ?_
        with_reducible refine (laws_eqTerm.calls ((rd_ITerm l0 x5_1).f0) ((rd_ITerm l0 x5_1).f1) ((rd_ITerm l0 x5_1).f2) ((rd_ITerm l0 x5_1).f3) ((rd_ITerm l1 x5_1).f0) ((rd_ITerm l1 x5_1).f1) ((rd_ITerm l1 x5_1).f2) ((rd_ITerm l1 x5_1).f3) true _ A7.out).mono ?_
        rintro e w10 ⟨rfl, hb⟩
        refine ⟨_, rfl, ?_⟩
        have n0_ := Aside0.mk (below_step (bz HB) hb)
        clear HB
        have HB := n0_
        clear n0_
        (try clear hb)
        (try clear hb2)
        (try clear hk)
        (try clear hi)
        refine hK.out _ _ ⟨((HB.out.cell (World.block_lt_of_cell? w _ hw306_0)).trans hw306_0), ((HB.out.cell (World.block_lt_of_cell? w _ hw306_1)).trans hw306_1), ((HB.out.cell (World.block_lt_of_cell? w _ hw306_2)).trans hw306_2), ((HB.out.cell (World.block_lt_of_cell? w _ hw306_3)).trans hw306_3), ((HB.out.cell (World.block_lt_of_cell? w _ hw307_0)).trans hw307_0), ((HB.out.cell (World.block_lt_of_cell? w _ hw307_1)).trans hw307_1), ((HB.out.cell (World.block_lt_of_cell? w _ hw307_2)).trans hw307_2), ((HB.out.cell (World.block_lt_of_cell? w _ hw307_3)).trans hw307_3)⟩ (fun hHeld => ?_)
        clear hK K
        refine norm_ (a' := ?_) ?_ ?_
        rotate_left
        ·
         show Act.put _ (some 25) _ = _
         simp only [Act.put, sb_, sc0_, sc1_, i64_w, i32_w]
         rfl
        refine pure_ (i := 9) (N := some 26) (v := ?_) (a' := ?_) #[true, true, true, true, true, true, true, true, true, true] rfl rfl (any_of HT_.out (by kernel_rfl)) (fun _ _ _ h => h) (Or.inl ⟨by rfl, ?_⟩) ?_ ?_
        rotate_left
        ·
         intro w'
         go_simp
         with_reducible rfl
        rotate_left
        ·
         simp only [Act.put, sb_, sc0_, sc1_, i64_w, i32_w]
         rfl
        refine done_ (done_of HT_.out (by kernel_rfl)) ?_
        try go_wp2
        go_roundg k1
        case measure => have := HK1.out; omega
        case rel => exact ⟨(wrap64 (x5_1 + 1)), rq, H', ⟨by have := HK1.out; omega⟩, ⟨bz HB⟩⟩
       ·
        replace c8 := Bool.eq_false_iff.mpr c8
        subst c8
        rw [if_neg nt_] at H
        obtain rfl := Option.some.inj H
        try go_wp2
        have n0_ := Aside0.mk (below_drew1 HB.out)
        clear HB
        have HB := n0_
        clear n0_
        have p306 : 0 ≤ (x5_1 : Int) := dz
        have q306 : x5_1 < (l0.length : Int) := dz
        obtain ⟨ad306, e306, hx306_0, hx306_1, hx306_2, hx306_3⟩ := at_ITerm HR0.out x5_1 p306 q306
        have hw306_3 := hx306_3
        have hw306_2 := hx306_2
        have hw306_1 := hx306_1
        have hw306_0 := hx306_0
        cases e306
        replace hx306_0 := xz HB hx306_0
        replace hx306_1 := xz HB hx306_1
        replace hx306_2 := xz HB hx306_2
        replace hx306_3 := xz HB hx306_3
        replace p306 := eq_true p306
        replace q306 := eq_true q306
        have p307 : 0 ≤ (x5_1 : Int) := dz
        have q307 : x5_1 < (l1.length : Int) := dz
        obtain ⟨ad307, e307, hx307_0, hx307_1, hx307_2, hx307_3⟩ := at_ITerm HR1.out x5_1 p307 q307
        have hw307_3 := hx307_3
        have hw307_2 := hx307_2
        have hw307_1 := hx307_1
        have hw307_0 := hx307_0
        cases e307
        replace hx307_0 := xz HB hx307_0
        replace hx307_1 := xz HB hx307_1
        replace hx307_2 := xz HB hx307_2
        replace hx307_3 := xz HB hx307_3
        replace p307 := eq_true p307
        replace q307 := eq_true q307
        refine start_ (n := 10) (S := fun w' => w'.cell? (ad306.add ((x5_1).toNat * 4)) = some (.int .i64 ((rd_ITerm l0 x5_1).f0)) ∧ w'.cell? ⟨(ad306.add ((x5_1).toNat * 4)).block, (ad306.add ((x5_1).toNat * 4)).off + 1, none⟩ = some (.int .i64 ((rd_ITerm l0 x5_1).f1)) ∧ w'.cell? ⟨(ad306.add ((x5_1).toNat * 4)).block, (ad306.add ((x5_1).toNat * 4)).off + 2, none⟩ = some (.int .i64 ((rd_ITerm l0 x5_1).f2)) ∧ w'.cell? ⟨(ad306.add ((x5_1).toNat * 4)).block, (ad306.add ((x5_1).toNat * 4)).off + 3, none⟩ = some (.int .i64 ((rd_ITerm l0 x5_1).f3)) ∧ w'.cell? (ad307.add ((x5_1).toNat * 4)) = some (.int .i64 ((rd_ITerm l1 x5_1).f0)) ∧ w'.cell? ⟨(ad307.add ((x5_1).toNat * 4)).block, (ad307.add ((x5_1).toNat * 4)).off + 1, none⟩ = some (.int .i64 ((rd_ITerm l1 x5_1).f1)) ∧ w'.cell? ⟨(ad307.add ((x5_1).toNat * 4)).block, (ad307.add ((x5_1).toNat * 4)).off + 2, none⟩ = some (.int .i64 ((rd_ITerm l1 x5_1).f2)) ∧ w'.cell? ⟨(ad307.add ((x5_1).toNat * 4)).block, (ad307.add ((x5_1).toNat * 4)).off + 3, none⟩ = some (.int .i64 ((rd_ITerm l1 x5_1).f3))) (ds := []) #[false, false, false, false, false, false, false, false, false, false] (by kernel_rfl) rfl rfl ⟨((HB.out.cell (World.block_lt_of_cell? w _ hw306_0)).trans hw306_0), ((HB.out.cell (World.block_lt_of_cell? w _ hw306_1)).trans hw306_1), ((HB.out.cell (World.block_lt_of_cell? w _ hw306_2)).trans hw306_2), ((HB.out.cell (World.block_lt_of_cell? w _ hw306_3)).trans hw306_3), ((HB.out.cell (World.block_lt_of_cell? w _ hw307_0)).trans hw307_0), ((HB.out.cell (World.block_lt_of_cell? w _ hw307_1)).trans hw307_1), ((HB.out.cell (World.block_lt_of_cell? w _ hw307_2)).trans hw307_2), ((HB.out.cell (World.block_lt_of_cell? w _ hw307_3)).trans hw307_3)⟩ (fun hHeld => ?_); refine with_tabW laws_eqTermS.tab6 laws_eqTermS.bits6 (fun HT_ HW_ => ?_)
        generalize wr.drew = w11 at HB hx306_0 hx306_1 hx306_2 hx306_3 hx307_0 hx307_1 hx307_2 hx307_3 hHeld ⊢
        refine pure_ (i := 0) (N := some 17) (v := ?_) (a' := ?_) #[true, false, false, false, false, false, false, false, false, false] rfl rfl (any_of HT_.out (by kernel_rfl)) (fun _ _ _ h => h) (Or.inl ⟨by rfl, ?_⟩) ?_ ?_
        rotate_left
        ·
         intro w'
         go_simp
         with_reducible rfl
        rotate_left
        ·
         simp only [Act.put, sb_, sc0_, sc1_, i64_w, i32_w]
         rfl
        refine pure_ (i := 1) (N := some 18) (v := ?_) (a' := ?_) #[true, true, false, false, false, false, false, false, false, false] rfl rfl (any_of HT_.out (by kernel_rfl)) (fun _ _ _ h => h) (Or.inl ⟨by rfl, ?_⟩) ?_ ?_
        rotate_left
        ·
         intro w'
         go_simp
         with_reducible rfl
        rotate_left
        ·
         simp only [Act.put, sb_, sc0_, sc1_, i64_w, i32_w]
         rfl
        refine pure_ (i := 2) (N := some 19) (v := ?_) (a' := ?_) #[true, true, true, false, false, false, false, false, false, false] rfl rfl (any_of HT_.out (by kernel_rfl)) (fun _ _ _ h => h) (Or.inl ⟨by rfl, ?_⟩) ?_ ?_
        rotate_left
        ·
         intro w'
         go_simp
         with_reducible rfl
        rotate_left
        ·
         simp only [Act.put, sb_, sc0_, sc1_, i64_w, i32_w]
         rfl
        refine pure_ (i := 4) (N := some 21) (v := ?_) (a' := ?_) #[true, true, true, false, true, false, false, false, false, false] rfl rfl (any_of HT_.out (by kernel_rfl)) (fun _ _ _ h => h) (Or.inl ⟨by rfl, ?_⟩) ?_ ?_
        rotate_left
        ·
         intro w'
         go_simp
         with_reducible rfl
        rotate_left
        ·
         simp only [Act.put, sb_, sc0_, sc1_, i64_w, i32_w]
         rfl
        refine pure_ (i := 5) (N := some 22) (v := ?_) (a' := ?_) #[true, true, true, false, true, true, false, false, false, false] rfl rfl (any_of HT_.out (by kernel_rfl)) (fun _ _ _ h => h) (Or.inl ⟨by rfl, ?_⟩) ?_ ?_
        rotate_left
        ·
         intro w'
         go_simp
         with_reducible rfl
        rotate_left
        ·
         simp only [Act.put, sb_, sc0_, sc1_, i64_w, i32_w]
         rfl
        refine pure_ (i := 6) (N := some 23) (v := ?_) (a' := ?_) #[true, true, true, false, true, true, true, false, false, false] rfl rfl (any_of HT_.out (by kernel_rfl)) (fun _ _ _ h => h) (Or.inl ⟨by rfl, ?_⟩) ?_ ?_
        rotate_left
        ·
         intro w'
         go_simp
         with_reducible rfl
        rotate_left
        ·
         simp only [Act.put, sb_, sc0_, sc1_, i64_w, i32_w]
         rfl
        refine take_ (i := 3) (N := some 20) (v := ?_) (a' := ?_) #[true, true, true, true, true, true, true, false, false, false] rfl rfl (take_ofW HT_.out HW_.out (by kernel_rfl)) (fun _ _ _ h => h) (Or.inl ⟨by rfl, ?_⟩) hHeld ?_ ?_
        rotate_left
        ·
         rintro w' ⟨s0, s1, s2, s3, s4, s5, s6, s7⟩
         go_simp
         with_reducible rfl
        rotate_left
        ·
         simp only [Act.put, sb_, sc0_, sc1_, i64_w, i32_w]
         rfl
        refine take_ (i := 7) (N := some 24) (v := ?_) (a' := ?_) #[true, true, true, true, true, true, true, true, false, false] rfl rfl (take_ofW HT_.out HW_.out (by kernel_rfl)) (fun _ _ _ h => h) (Or.inl ⟨by rfl, ?_⟩) hHeld ?_ ?_
        rotate_left
        ·
         rintro w' ⟨s0, s1, s2, s3, s4, s5, s6, s7⟩
         go_simp
         with_reducible rfl
        rotate_left
        ·
         simp only [Act.put, sb_, sc0_, sc1_, i64_w, i32_w]
         rfl
        refine one_ (i := 8) (N := some 25) #[true, true, true, true, true, true, true, true, true, false] rfl rfl (one_of HT_.out (by kernel_rfl)) (by decide) (fun K hK => ?_)
        refine goes_ Try.func170 (by kernel_rfl) rfl #[.agg #[.int .i64 ((rd_ITerm l0 x5_1).f0), .int .i64 ((rd_ITerm l0 x5_1).f1), .int .i64 ((rd_ITerm l0 x5_1).f2), .int .i64 ((rd_ITerm l0 x5_1).f3)], .agg #[.int .i64 ((rd_ITerm l1 x5_1).f0), .int .i64 ((rd_ITerm l1 x5_1).f1), .int .i64 ((rd_ITerm l1 x5_1).f2), .int .i64 ((rd_ITerm l1 x5_1).f3)]] (by rfl) rfl rfl az ?_
        with_reducible refine (laws_eqTerm.calls ((rd_ITerm l0 x5_1).f0) ((rd_ITerm l0 x5_1).f1) ((rd_ITerm l0 x5_1).f2) ((rd_ITerm l0 x5_1).f3) ((rd_ITerm l1 x5_1).f0) ((rd_ITerm l1 x5_1).f1) ((rd_ITerm l1 x5_1).f2) ((rd_ITerm l1 x5_1).f3) false _ A7.out).mono ?_
        rintro e w12 ⟨rfl, hb⟩
        refine ⟨_, rfl, ?_⟩
        have n0_ := Aside0.mk (below_step (bz HB) hb)
        clear HB
        have HB := n0_
        clear n0_
        (try clear hb)
        (try clear hb2)
        (try clear hk)
        (try clear hi)
        refine hK.out _ _ ⟨((HB.out.cell (World.block_lt_of_cell? w _ hw306_0)).trans hw306_0), ((HB.out.cell (World.block_lt_of_cell? w _ hw306_1)).trans hw306_1), ((HB.out.cell (World.block_lt_of_cell? w _ hw306_2)).trans hw306_2), ((HB.out.cell (World.block_lt_of_cell? w _ hw306_3)).trans hw306_3), ((HB.out.cell (World.block_lt_of_cell? w _ hw307_0)).trans hw307_0), ((HB.out.cell (World.block_lt_of_cell? w _ hw307_1)).trans hw307_1), ((HB.out.cell (World.block_lt_of_cell? w _ hw307_2)).trans hw307_2), ((HB.out.cell (World.block_lt_of_cell? w _ hw307_3)).trans hw307_3)⟩ (fun hHeld => ?_)
        clear hK K
        refine norm_ (a' := ?_) ?_ ?_
        rotate_left
        ·
         show Act.put _ (some 25) _ = _
         simp only [Act.put, sb_, sc0_, sc1_, i64_w, i32_w]
         rfl
        refine pure_ (i := 9) (N := some 26) (v := ?_) (a' := ?_) #[true, true, true, true, true, true, true, true, true, true] rfl rfl (any_of HT_.out (by kernel_rfl)) (fun _ _ _ h => h) (Or.inl ⟨by rfl, ?_⟩) ?_ ?_
        rotate_left
        ·
         intro w'
         go_simp
         with_reducible rfl
        rotate_left
        ·
         simp only [Act.put, sb_, sc0_, sc1_, i64_w, i32_w]
         rfl
        refine done_ (done_of HT_.out (by kernel_rfl)) ?_
        try go_wp2
        go_ret
        exact ⟨rz, bz HB⟩
      ·
       rw [if_neg c6] at H
       exact absurd H (by simp)
     ·
      rw [if_neg c5] at H
      exact absurd H (by simp)
    ·
     rw [if_neg c4] at H
     have c4b0 : decide (x5_1 < (l0.length : Int)) = false := decide_eq_false c4
     clear c4
     obtain rfl := Option.some.inj H
     go_wp2
     go_ret
     exact ⟨rz, bz HB⟩
 ·
  rw [if_neg c3] at H
  have c3b0 : ((l0.length : Int) == (l1.length : Int)) = false := beq_eq_false_iff_ne.mpr c3
  have c3b1 : ((l0.length : Int) != (l1.length : Int)) = true := bne_iff_ne.mpr c3
  have c3b2 : (l0.length == l1.length) = false := by first | simpa using c3 | (simp at c3 ⊢; omega)
  obtain rfl := Option.some.inj H
  go_enter Try.func162, Try.ntmps162
  go_wp2
  go_ret
  exact ⟨rz, bz HB⟩
end Go.Proofs.Ytndmhmekmkgccaa.PFnExactInRange
end
section
namespace Go.Proofs.Ytndmhmekmkgccaa.PFnExactInRange
open Go.RowKit Go.Proofs.YtndmhmekmkgccaaW.PrintWords Go.Proofs.YtndmhmekmkgccaaW.PrintLast Go.Proofs.YtndmhmekmkgccaaW.PrintMore
attribute [local go_sem] max2_int min2_int max_two min_two max_three min_three max_four min_four   -- for this text's walks alone
set_option linter.unusedVariables false
set_option linter.unusedSimpArgs false
def laws_eqTermSS.T6 : Bool × List (List Nat × List Nat) := (true, [([], []), ([], []), ([0, 1], [0, 1]), ([2], [2]), ([], []), ([], []), ([4, 5], [4, 5]), ([6], [6]), ([3, 7], [3, 7]), ([8], [8])])
def laws_eqTermSS.B6 : List Nat := [0, 0, 3, 7, 0, 0, 48, 112, 255, 511]
theorem laws_eqTermSS.tab6 : rtab .any (opsOf Try.f163 6) = laws_eqTermSS.T6 := by kernel_rfl
theorem laws_eqTermSS.bits6 : waitsOk laws_eqTermSS.T6.2 laws_eqTermSS.B6 = true := by kernel_rfl
set_option maxHeartbeats 8000000 in
set_option maxRecDepth 100000 in
theorem laws_eqTermSS.calls (k : Nat) (A0 : Option Addr) (c0 : Nat) (l0 : List (List (ITerm))) (A1 : Option Addr) (c1 : Nat) (l1 : List (List (ITerm))) (r : Bool) (w : World) (hr0 : Kd.C (Kd.slice 107 k107) w A0 l0.length l0) (hc0 : l0.length ≤ c0) (hr1 : Kd.C (Kd.slice 107 k107) w A1 l1.length l1) (hc1 : l1.length ≤ c1) (h : laws_eqTermSS.f k l0 l1 = some r) :
  Calls Try.prog 163 #[.slice A0 l0.length c0, .slice A1 l1.length c1] w fun e w' => e = .returned (.bool r) ∧ Below w.heap.size w w' := by
 have HR0 := Aside0.mk hr0
 have HC0 := Aside0.mk hc0
 clear hr0 hc0
 have HR1 := Aside0.mk hr1
 have HC1 := Aside0.mk hc1
 clear hr1 hc1
 have HB := Aside0.mk (Below.refl w.heap.size w)
 have H : (if (l0.length : Int) = (l1.length : Int) then (laws_eqTermSS.l0 k l0 l1 0) else (some false)) = some r := h
 clear h
 by_cases c3 : (l0.length : Int) = (l1.length : Int)
 ·
  rw [if_pos c3] at H
  have c3b0 : ((l0.length : Int) == (l1.length : Int)) = true := beq_iff_eq.mpr c3
  have c3b1 : ((l0.length : Int) != (l1.length : Int)) = false := bne_eq_false_iff_eq.mpr c3
  have c3b2 : (l0.length == l1.length) = true := by first | simpa using c3 | (simp at c3 ⊢; omega)
  clear c3
  have H' := Aside0.mk H
  clear H
  go_enter Try.func163, Try.ntmps163
  go_wp2
  go_loopg [5] k (fun kq v5 w' => ∃ (x5_1 : Int), v5 = .int .i64 x5_1 ∧ Aside0 (laws_eqTermSS.l0 kq l0 l1 x5_1 = some r) ∧ Aside0 (kq ≤ k) ∧ Aside0 (Below w.heap.size w w'))
  case atStart => exact ⟨(0), rq, H', ⟨Nat.le_refl _⟩, ⟨bz HB⟩⟩
  case round =>
   clear H'
   try clear c1
   try clear p2
   try clear c3
   try clear c3b0
   try clear c3b1
   try clear c3b2
   obtain ⟨x5_1, rfl, HA, HK1, HB⟩ := hrel
   cases gk with
   | zero => exact absurd HA.out (by simp [laws_eqTermSS.l0])
   | succ k1 =>
    have H := HA.out
    clear HA
    simp only [laws_eqTermSS.l0] at H
    by_cases c4 : x5_1 < (l0.length : Int)
    ·
     rw [if_pos c4] at H
     have c4b0 : decide (x5_1 < (l0.length : Int)) = true := decide_eq_true c4
     clear c4
     by_cases c5 : 0 ≤ x5_1
     ·
      rw [if_pos c5] at H
      have c5b0 : decide (0 ≤ x5_1) = true := decide_eq_true c5
      clear c5
      by_cases c6 : x5_1 < (l1.length : Int)
      ·
       rw [if_pos c6] at H
       have c6b0 : decide (x5_1 < (l1.length : Int)) = true := decide_eq_true c6
       clear c6
       replace H := Option.bind_eq_some_iff.mp H
       obtain ⟨t311, A70, H⟩ := H
       have A7 := Aside0.mk A70
       clear A70
       by_cases c8 : t311 = true
       ·
        subst c8
        rw [if_pos rfl] at H
        have H' := Aside0.mk H
        clear H
        try go_wp2
        have n0_ := Aside0.mk (below_drew1 HB.out)
        clear HB
        have HB := n0_
        clear n0_
        have p309 : 0 ≤ (x5_1 : Int) := dz
        have q309 : x5_1 < (l0.length : Int) := dz
        obtain ⟨ad309, A309_0, c309_0, e309, hx309_0, hl309_0, hi309_0⟩ := at_LITerm HR0.out x5_1 p309 q309
        have hw309_0 := hx309_0
        cases e309
        replace hx309_0 := xz HB hx309_0
        have HR309_0 := Aside0.mk hi309_0
        have HC309_0 := Aside0.mk hl309_0
        clear hi309_0 hl309_0
        replace p309 := eq_true p309
        replace q309 := eq_true q309
        have p310 : 0 ≤ (x5_1 : Int) := dz
        have q310 : x5_1 < (l1.length : Int) := dz
        obtain ⟨ad310, A310_0, c310_0, e310, hx310_0, hl310_0, hi310_0⟩ := at_LITerm HR1.out x5_1 p310 q310
        have hw310_0 := hx310_0
        cases e310
        replace hx310_0 := xz HB hx310_0
        have HR310_0 := Aside0.mk hi310_0
        have HC310_0 := Aside0.mk hl310_0
        clear hi310_0 hl310_0
        replace p310 := eq_true p310
        replace q310 := eq_true q310
        refine start_ (n := 10) (S := fun w' => w'.cell? (ad309.add (x5_1).toNat) = some (.slice A309_0 (rd_LITerm l0 x5_1).length c309_0) ∧ w'.cell? (ad310.add (x5_1).toNat) = some (.slice A310_0 (rd_LITerm l1 x5_1).length c310_0)) (ds := []) #[false, false, false, false, false, false, false, false, false, false] (by kernel_rfl) rfl rfl ⟨((HB.out.cell (World.block_lt_of_cell? w _ hw309_0)).trans hw309_0), ((HB.out.cell (World.block_lt_of_cell? w _ hw310_0)).trans hw310_0)⟩ (fun hHeld => ?_); refine with_tabW laws_eqTermSS.tab6 laws_eqTermSS.bits6 (fun HT_ HW_ => ?_)
        generalize wr.drew = w9 at HB HR309_0 HR310_0 hx309_0 hx310_0 hHeld ⊢
        refine pure_ (i := 0) (N := some 17) (v := ?_) (a' := ?_) #[true, false, false, false, false, false, false, false, false, false] rfl rfl (any_of HT_.out (by kernel_rfl)) (fun _ _ _ h => h) (Or.inl ⟨by rfl, ?_⟩) ?_ ?_
        rotate_left
        ·
         intro w'
         go_simp
         with_reducible rfl
        rotate_left
        ·
         simp only [Act.put, sb_, sc0_, sc1_, i64_w, i32_w]
         rfl
        refine pure_ (i := 1) (N := some 18) (v := ?_) (a' := ?_) #[true, true, false, false, false, false, false, false, false, false] rfl rfl (any_of HT_.out (by kernel_rfl)) (fun _ _ _ h => h) (Or.inl ⟨by rfl, ?_⟩) ?_ ?_
        rotate_left
        ·
         intro w'
         go_simp
         with_reducible rfl
        rotate_left
        ·
         simp only [Act.put, sb_, sc0_, sc1_, i64_w, i32_w]
         rfl
        refine pure_ (i := 2) (N := some 19) (v := ?_) (a' := ?_) #[true, true, true, false, false, false, false, false, false, false] rfl rfl (any_of HT_.out (by kernel_rfl)) (fun _ _ _ h => h) (Or.inl ⟨by rfl, ?_⟩) ?_ ?_
        rotate_left
        ·
         intro w'
         go_simp
         with_reducible rfl
        rotate_left
        ·
         simp only [Act.put, sb_, sc0_, sc1_, i64_w, i32_w]
         rfl
        refine pure_ (i := 4) (N := some 21) (v := ?_) (a' := ?_) #[true, true, true, false, true, false, false, false, false, false] rfl rfl (any_of HT_.out (by kernel_rfl)) (fun _ _ _ h => h) (Or.inl ⟨by rfl, ?_⟩) ?_ ?_
        rotate_left
        ·
         intro w'
         go_simp
         with_reducible rfl
        rotate_left
        ·
         simp only [Act.put, sb_, sc0_, sc1_, i64_w, i32_w]
         rfl
        refine pure_ (i := 5) (N := some 22) (v := ?_) (a' := ?_) #[true, true, true, false, true, true, false, false, false, false] rfl rfl (any_of HT_.out (by kernel_rfl)) (fun _ _ _ h => h) (Or.inl ⟨by rfl, ?_⟩) ?_ ?_
        rotate_left
        ·
         intro w'
         go_simp
         with_reducible rfl
        rotate_left
        ·
         simp only [Act.put, sb_, sc0_, sc1_, i64_w, i32_w]
         rfl
        refine pure_ (i := 6) (N := some 23) (v := ?_) (a' := ?_) #[true, true, true, false, true, true, true, false, false, false] rfl rfl (any_of HT_.out (by kernel_rfl)) (fun _ _ _ h => h) (Or.inl ⟨by rfl, ?_⟩) ?_ ?_
        rotate_left
        ·
         intro w'
         go_simp
         with_reducible rfl
        rotate_left
        ·
         simp only [Act.put, sb_, sc0_, sc1_, i64_w, i32_w]
         rfl
        refine take_ (i := 3) (N := some 20) (v := ?_) (a' := ?_) #[true, true, true, true, true, true, true, false, false, false] rfl rfl (take_ofW HT_.out HW_.out (by kernel_rfl)) (fun _ _ _ h => h) (Or.inl ⟨by rfl, ?_⟩) hHeld ?_ ?_
        rotate_left
        ·
         rintro w' ⟨s0, s1⟩
         go_simp
         with_reducible rfl
        rotate_left
        ·
         simp only [Act.put, sb_, sc0_, sc1_, i64_w, i32_w]
         rfl
        refine take_ (i := 7) (N := some 24) (v := ?_) (a' := ?_) #[true, true, true, true, true, true, true, true, false, false] rfl rfl (take_ofW HT_.out HW_.out (by kernel_rfl)) (fun _ _ _ h => h) (Or.inl ⟨by rfl, ?_⟩) hHeld ?_ ?_
        rotate_left
        ·
         rintro w' ⟨s0, s1⟩
         go_simp
         with_reducible rfl
        rotate_left
        ·
         simp only [Act.put, sb_, sc0_, sc1_, i64_w, i32_w]
         rfl
        refine one_ (i := 8) (N := some 25) #[true, true, true, true, true, true, true, true, true, false] rfl rfl (one_of HT_.out (by kernel_rfl)) (by decide) (fun K hK => ?_)
        refine goes_ Try.func162 (by kernel_rfl) rfl #[.slice A309_0 (rd_LITerm l0 x5_1).length c309_0, .slice A310_0 (rd_LITerm l1 x5_1).length c310_0] (by rfl) rfl rfl az ?_
        with_reducible refine (laws_eqTermS.calls k1 _ _ (rd_LITerm l0 x5_1) _ _ (rd_LITerm l1 x5_1) true _ ?side1 ?side2 ?side3 ?side4 A7.out).mono ?_
        (case side1 => exact cz HR309_0 HB)
        (case side2 => exact HC309_0.out)
        (case side3 => exact cz HR310_0 HB)
        (case side4 => exact HC310_0.out)
        rintro e w10 ⟨rfl, hb⟩
        refine ⟨_, rfl, ?_⟩
        have n0_ := Aside0.mk (below_step (bz HB) hb)
        clear HB
        have HB := n0_
        clear n0_
        (try clear hb)
        (try clear hb2)
        (try clear hk)
        (try clear hi)
        refine hK.out _ _ ⟨((HB.out.cell (World.block_lt_of_cell? w _ hw309_0)).trans hw309_0), ((HB.out.cell (World.block_lt_of_cell? w _ hw310_0)).trans hw310_0)⟩ (fun hHeld => ?_)
        clear hK K
        refine norm_ (a' := ?_) ?_ ?_
        rotate_left
        ·
         show Act.put _ (some 25) _ = _
         simp only [Act.put, sb_, sc0_, sc1_, i64_w, i32_w]
         rfl
        refine pure_ (i := 9) (N := some 26) (v := ?_) (a' := ?_) #[true, true, true, true, true, true, true, true, true, true] rfl rfl (any_of HT_.out (by kernel_rfl)) (fun _ _ _ h => h) (Or.inl ⟨by rfl, ?_⟩) ?_ ?_
        rotate_left
        ·
         intro w'
         go_simp
         with_reducible rfl
        rotate_left
        ·
         simp only [Act.put, sb_, sc0_, sc1_, i64_w, i32_w]
         rfl
        refine done_ (done_of HT_.out (by kernel_rfl)) ?_
        try go_wp2
        go_roundg k1
        case measure => have := HK1.out; omega
        case rel => exact ⟨(wrap64 (x5_1 + 1)), rq, H', ⟨by have := HK1.out; omega⟩, ⟨bz HB⟩⟩
       ·
        replace c8 := Bool.eq_false_iff.mpr c8
        subst c8
        rw [if_neg nt_] at H
        obtain rfl := Option.some.inj H
        try go_wp2
        have n0_ := Aside0.mk (below_drew1 HB.out)
        clear HB
        have HB := n0_
        clear n0_
        have p309 : 0 ≤ (x5_1 : Int) := dz
        have q309 : x5_1 < (l0.length : Int) := dz
        obtain ⟨ad309, A309_0, c309_0, e309, hx309_0, hl309_0, hi309_0⟩ := at_LITerm HR0.out x5_1 p309 q309
        have hw309_0 := hx309_0
        cases e309
        replace hx309_0 := xz HB hx309_0
        have HR309_0 := Aside0.mk hi309_0
        have HC309_0 := Aside0.mk hl309_0
        clear hi309_0 hl309_0
        replace p309 := eq_true p309
        replace q309 := eq_true q309
        have p310 : 0 ≤ (x5_1 : Int) := dz
        have q310 : x5_1 < (l1.length : Int) := dz
        obtain ⟨ad310, A310_0, c310_0, e310, hx310_0, hl310_0, hi310_0⟩ := at_LITerm HR1.out x5_1 p310 q310
        have hw310_0 := hx310_0
        cases e310
        replace hx310_0 := xz HB hx310_0
        have HR310_0 := Aside0.mk hi310_0
        have HC310_0 := Aside0.mk hl310_0
        clear hi310_0 hl310_0
        replace p310 := eq_true p310
        replace q310 := eq_true q310
        refine start_ (n := 10) (S := fun w' => w'.cell? (ad309.add (x5_1).toNat) = some (.slice A309_0 (rd_LITerm l0 x5_1).length c309_0) ∧ w'.cell? (ad310.add (x5_1).toNat) = some (.slice A310_0 (rd_LITerm l1 x5_1).length c310_0)) (ds := []) #[false, false, false, false, false, false, false, false, false, false] (by kernel_rfl) rfl rfl ⟨((HB.out.cell (World.block_lt_of_cell? w _ hw309_0)).trans hw309_0), ((HB.out.cell (World.block_lt_of_cell? w _ hw310_0)).trans hw310_0)⟩ (fun hHeld => ?_); refine with_tabW laws_eqTermSS.tab6 laws_eqTermSS.bits6 (fun HT_ HW_ => ?_)
        generalize wr.drew = w11 at HB HR309_0 HR310_0 hx309_0 hx310_0 hHeld ⊢
        refine pure_ (i := 0) (N := some 17) (v := ?_) (a' := ?_) #[true, false, false, false, false, false, false, false, false, false] rfl rfl (any_of HT_.out (by kernel_rfl)) (fun _ _ _ h => h) (Or.inl ⟨by rfl, ?_⟩) ?_ ?_
        rotate_left
        ·
         intro w'
         go_simp
         with_reducible rfl
        rotate_left
        ·
         simp only [Act.put, sb_, sc0_, sc1_, i64_w, i32_w]
         rfl
        refine pure_ (i := 1) (N := some 18) (v := ?_) (a' := ?_) #[true, true, false, false, false, false, false, false, false, false] rfl rfl (any_of HT_.out (by kernel_rfl)) (fun _ _ _ h => h) (Or.inl ⟨by rfl, ?_⟩) ?_ ?_
        rotate_left
        ·
         intro w'
         go_simp
         with_reducible rfl
        rotate_left
        ·
         simp only [Act.put, sb_, sc0_, sc1_, i64_w, i32_w]
         rfl
        refine pure_ (i := 2) (N := some 19) (v := ?_) (a' := ?_) #[true, true, true, false, false, false, false, false, false, false] rfl rfl (any_of HT_.out (by kernel_rfl)) (fun _ _ _ h => h) (Or.inl ⟨by rfl, ?_⟩) ?_ ?_
        rotate_left
        ·
         intro w'
         go_simp
         with_reducible rfl
        rotate_left
        ·
         simp only [Act.put, sb_, sc0_, sc1_, i64_w, i32_w]
         rfl
        refine pure_ (i := 4) (N := some 21) (v := ?_) (a' := ?_) #[true, true, true, false, true, false, false, false, false, false] rfl rfl (any_of HT_.out (by kernel_rfl)) (fun _ _ _ h => h) (Or.inl ⟨by rfl, ?_⟩) ?_ ?_
        rotate_left
        ·
         intro w'
         go_simp
         with_reducible rfl
        rotate_left
        ·
         simp only [Act.put, sb_, sc0_, sc1_, i64_w, i32_w]
         rfl
        refine pure_ (i := 5) (N := some 22) (v := ?_) (a' := ?_) #[true, true, true, false, true, true, false, false, false, false] rfl rfl (any_of HT_.out (by kernel_rfl)) (fun _ _ _ h => h) (Or.inl ⟨by rfl, ?_⟩) ?_ ?_
        rotate_left
        ·
         intro w'
         go_simp
         with_reducible rfl
        rotate_left
        ·
         simp only [Act.put, sb_, sc0_, sc1_, i64_w, i32_w]
         rfl
        refine pure_ (i := 6) (N := some 23) (v := ?_) (a' := ?_) #[true, true, true, false, true, true, true, false, false, false] rfl rfl (any_of HT_.out (by kernel_rfl)) (fun _ _ _ h => h) (Or.inl ⟨by rfl, ?_⟩) ?_ ?_
        rotate_left
        ·
         intro w'
         go_simp
         with_reducible rfl
        rotate_left
        ·
         simp only [Act.put, sb_, sc0_, sc1_, i64_w, i32_w]
         rfl
        refine take_ (i := 3) (N := some 20) (v := ?_) (a' := ?_) #[true, true, true, true, true, true, true, false, false, false] rfl rfl (take_ofW HT_.out HW_.out (by kernel_rfl)) (fun _ _ _ h => h) (Or.inl ⟨by rfl, ?_⟩) hHeld ?_ ?_
        rotate_left
        ·
         rintro w' ⟨s0, s1⟩
         go_simp
         with_reducible rfl
        rotate_left
        ·
         simp only [Act.put, sb_, sc0_, sc1_, i64_w, i32_w]
         rfl
        refine take_ (i := 7) (N := some 24) (v := ?_) (a' := ?_) #[true, true, true, true, true, true, true, true, false, false] rfl rfl (take_ofW HT_.out HW_.out (by kernel_rfl)) (fun _ _ _ h => h) (Or.inl ⟨by rfl, ?_⟩) hHeld ?_ ?_
        rotate_left
        ·
         rintro w' ⟨s0, s1⟩
         go_simp
         with_reducible rfl
        rotate_left
        ·
         simp only [Act.put, sb_, sc0_, sc1_, i64_w, i32_w]
         rfl
        refine one_ (i := 8) (N := some 25) #[true, true, true, true, true, true, true, true, true, false] rfl rfl (one_of HT_.out (by kernel_rfl)) (by decide) (fun K hK => ?_)
        refine goes_ Try.func162 (by kernel_rfl) rfl #[.slice A309_0 (rd_LITerm l0 x5_1).length c309_0, .slice A310_0 (rd_LITerm l1 x5_1).length c310_0] (by rfl) rfl rfl az ?_
        with_reducible refine (laws_eqTermS.calls k1 _ _ (rd_LITerm l0 x5_1) _ _ (rd_LITerm l1 x5_1) false _ ?side1 ?side2 ?side3 ?side4 A7.out).mono ?_
        (case side1 => exact cz HR309_0 HB)
        (case side2 => exact HC309_0.out)
        (case side3 => exact cz HR310_0 HB)
        (case side4 => exact HC310_0.out)
        rintro e w12 ⟨rfl, hb⟩
        refine ⟨_, rfl, ?_⟩
        have n0_ := Aside0.mk (below_step (bz HB) hb)
        clear HB
        have HB := n0_
        clear n0_
        (try clear hb)
        (try clear hb2)
        (try clear hk)
        (try clear hi)
        refine hK.out _ _ ⟨((HB.out.cell (World.block_lt_of_cell? w _ hw309_0)).trans hw309_0), ((HB.out.cell (World.block_lt_of_cell? w _ hw310_0)).trans hw310_0)⟩ (fun hHeld => ?_)
        clear hK K
        refine norm_ (a' := ?_) ?_ ?_
        rotate_left
        ·
         show Act.put _ (some 25) _ = _
         simp only [Act.put, sb_, sc0_, sc1_, i64_w, i32_w]
         rfl
        refine pure_ (i := 9) (N := some 26) (v := ?_) (a' := ?_) #[true, true, true, true, true, true, true, true, true, true] rfl rfl (any_of HT_.out (by kernel_rfl)) (fun _ _ _ h => h) (Or.inl ⟨by rfl, ?_⟩) ?_ ?_
        rotate_left
        ·
         intro w'
         go_simp
         with_reducible rfl
        rotate_left
        ·
         simp only [Act.put, sb_, sc0_, sc1_, i64_w, i32_w]
         rfl
        refine done_ (done_of HT_.out (by kernel_rfl)) ?_
        try go_wp2
        go_ret
        exact ⟨rz, bz HB⟩
      ·
       rw [if_neg c6] at H
       exact absurd H (by simp)
     ·
      rw [if_neg c5] at H
      exact absurd H (by simp)
    ·
     rw [if_neg c4] at H
     have c4b0 : decide (x5_1 < (l0.length : Int)) = false := decide_eq_false c4
     clear c4
     obtain rfl := Option.some.inj H
     go_wp2
     go_ret
     exact ⟨rz, bz HB⟩
 ·
  rw [if_neg c3] at H
  have c3b0 : ((l0.length : Int) == (l1.length : Int)) = false := beq_eq_false_iff_ne.mpr c3
  have c3b1 : ((l0.length : Int) != (l1.length : Int)) = true := bne_iff_ne.mpr c3
  have c3b2 : (l0.length == l1.length) = false := by first | simpa using c3 | (simp at c3 ⊢; omega)
  obtain rfl := Option.some.inj H
  go_enter Try.func163, Try.ntmps163
  go_wp2
  go_ret
  exact ⟨rz, bz HB⟩
end Go.Proofs.Ytndmhmekmkgccaa.PFnExactInRange
end
section
namespace Go.Proofs.Ytndmhmekmkgccaa.PFnExactInRange
open Go.RowKit Go.Proofs.YtndmhmekmkgccaaW.PrintWords Go.Proofs.YtndmhmekmkgccaaW.PrintLast Go.Proofs.YtndmhmekmkgccaaW.PrintMore
attribute [local go_sem] max2_int min2_int max_two min_two max_three min_three max_four min_four   -- for this text's walks alone
set_option linter.unusedVariables false
set_option linter.unusedSimpArgs false
set_option maxHeartbeats 8000000 in
set_option maxRecDepth 100000 in
theorem laws_eqRule.calls (k : Nat) (A0_0 : Option Addr) (c0_0 : Nat) (l0_0 : List (ITerm)) (A0_1 : Option Addr) (c0_1 : Nat) (l0_1 : List Int) (A0_2 : Option Addr) (c0_2 : Nat) (l0_2 : List (List (ITerm))) (A1_0 : Option Addr) (c1_0 : Nat) (l1_0 : List (ITerm)) (A1_1 : Option Addr) (c1_1 : Nat) (l1_1 : List Int) (A1_2 : Option Addr) (c1_2 : Nat) (l1_2 : List (List (ITerm))) (r : Bool) (w : World) (hr0_0 : Kd.C k107 w A0_0 l0_0.length l0_0) (hc0_0 : l0_0.length ≤ c0_0) (hr0_1 : Kd.C (Kd.int .i64) w A0_1 l0_1.length l0_1) (hc0_1 : l0_1.length ≤ c0_1) (hr0_2 : Kd.C (Kd.slice 107 k107) w A0_2 l0_2.length l0_2) (hc0_2 : l0_2.length ≤ c0_2) (hr1_0 : Kd.C k107 w A1_0 l1_0.length l1_0) (hc1_0 : l1_0.length ≤ c1_0) (hr1_1 : Kd.C (Kd.int .i64) w A1_1 l1_1.length l1_1) (hc1_1 : l1_1.length ≤ c1_1) (hr1_2 : Kd.C (Kd.slice 107 k107) w A1_2 l1_2.length l1_2) (hc1_2 : l1_2.length ≤ c1_2) (h : laws_eqRule.f k l0_0 l0_1 l0_2 l1_0 l1_1 l1_2 = some r) :
  Calls Try.prog 125 #[.agg #[.slice A0_0 l0_0.length c0_0, .slice A0_1 l0_1.length c0_1, .slice A0_2 l0_2.length c0_2], .agg #[.slice A1_0 l1_0.length c1_0, .slice A1_1 l1_1.length c1_1, .slice A1_2 l1_2.length c1_2]] w fun e w' => e = .returned (.bool r) ∧ Below w.heap.size w w' := by
 have hu145 := Try.underlying145
 have HR0_0 := Aside0.mk hr0_0
 have HC0_0 := Aside0.mk hc0_0
 clear hr0_0 hc0_0
 have HR0_1 := Aside0.mk hr0_1
 have HC0_1 := Aside0.mk hc0_1
 clear hr0_1 hc0_1
 have HR0_2 := Aside0.mk hr0_2
 have HC0_2 := Aside0.mk hc0_2
 clear hr0_2 hc0_2
 have HR1_0 := Aside0.mk hr1_0
 have HC1_0 := Aside0.mk hc1_0
 clear hr1_0 hc1_0
 have HR1_1 := Aside0.mk hr1_1
 have HC1_1 := Aside0.mk hc1_1
 clear hr1_1 hc1_1
 have HR1_2 := Aside0.mk hr1_2
 have HC1_2 := Aside0.mk hc1_2
 clear hr1_2 hc1_2
 have HB := Aside0.mk (Below.refl w.heap.size w)
 have H : ((laws_eqTermS.f k l0_0 l1_0).bind fun t314 => (if t314 = true then ((laws_eqIntS.f k l0_1 l1_1).bind fun t315 => (if t315 = true then ((laws_eqTermSS.f k l0_2 l1_2).bind fun t316 => (if t316 = true then (some true) else (some false))) else (some false))) else (some false))) = some r := h
 clear h
 replace H := Option.bind_eq_some_iff.mp H
 obtain ⟨t314, A30, H⟩ := H
 have A3 := Aside0.mk A30
 clear A30
 by_cases c4 : t314 = true
 ·
  subst c4
  rw [if_pos rfl] at H
  replace H := Option.bind_eq_some_iff.mp H
  obtain ⟨t315, A50, H⟩ := H
  have A5 := Aside0.mk A50
  clear A50
  by_cases c6 : t315 = true
  ·
   subst c6
   rw [if_pos rfl] at H
   replace H := Option.bind_eq_some_iff.mp H
   obtain ⟨t316, A70, H⟩ := H
   have A7 := Aside0.mk A70
   clear A70
   by_cases c8 : t316 = true
   ·
    subst c8
    rw [if_pos rfl] at H
    obtain rfl := Option.some.inj H
    go_enter Try.func125, Try.ntmps125
    go_wp2_with (first | ((with_reducible refine gate_dst (N := 2) rfl ?_); refine box_event ?hg (N := 2) ?hd (cs := #[.slice A0_0 l0_0.length c0_0, .slice A0_1 l0_1.length c0_1, .slice A0_2 l0_2.length c0_2]) (t := 145) ?hr ?_; (case hd => rfl); (case hg => rfl); (case hr => first | (go_simp; done) | (go_simp; rfl)); intro gb312 hg w9 hbox hb; have n0_ := Aside0.mk (below_step (bz HB) hb); have n1_ := Aside0.mk (hbox); have n2_ := Aside0.mk ((by rw [hg]; exact (below_size (bz HB)) : w.heap.size ≤ gb312)); have n3_ := Aside0.mk ((by rw [hg]; exact (below_size (bz HB)) : w.heap.size ≤ gb312)); clear HB; have HB := n0_; have BK312 := n1_; have GW312 := n2_; have GE312 := n3_; clear n0_ n1_ n2_ n3_; clear hb hbox hg) | ((with_reducible refine gate_dst (N := 3) rfl ?_); refine box_event ?hg (N := 3) ?hd (cs := #[.slice A1_0 l1_0.length c1_0, .slice A1_1 l1_1.length c1_1, .slice A1_2 l1_2.length c1_2]) (t := 145) ?hr ?_; (case hd => rfl); (case hg => rfl); (case hr => first | (go_simp; done) | (go_simp; rfl)); intro gb313 hg w10 hbox hb; have n0_ := Aside0.mk (blk_below (g := gb312) (o := .cells #[.slice A0_0 l0_0.length c0_0, .slice A0_1 l0_1.length c0_1, .slice A0_2 l0_2.length c0_2] 145 (0, 0)) (kz BK312) hb); have n1_ := Aside0.mk (below_step (bz1 HB GE312) hb); have n2_ := Aside0.mk (hbox); have n3_ := Aside0.mk ((by rw [hg]; exact (below_size (bz1 HB GE312)) : w.heap.size ≤ gb313)); have n4_ := Aside0.mk ((by rw [hg]; exact (below_size (bz1 HB GE312)) : w.heap.size ≤ gb313)); have n5_ := Aside0.mk ((by rw [hg]; exact Nat.ne_of_lt (blk_lt (g := gb312) (o := .cells #[.slice A0_0 l0_0.length c0_0, .slice A0_1 l0_1.length c0_1, .slice A0_2 l0_2.length c0_2] 145 (0, 0)) (kz BK312)) : gb312 ≠ gb313)); have n6_ := Aside0.mk ((by rw [hg]; exact Nat.ne_of_gt (blk_lt (g := gb312) (o := .cells #[.slice A0_0 l0_0.length c0_0, .slice A0_1 l0_1.length c0_1, .slice A0_2 l0_2.length c0_2] 145 (0, 0)) (kz BK312)) : gb313 ≠ gb312)); clear BK312; clear HB; have BK312 := n0_; have HB := n1_; have BK313 := n2_; have GW313 := n3_; have GE313 := n4_; have NB312_313 := n5_; have NB313_312 := n6_; clear n0_ n1_ n2_ n3_ n4_ n5_ n6_; clear hb hbox hg; have hnb11 := NB312_313.out; have hnc11 := NB313_312.out; have hcz12_0 : w10.cell? ⟨gb312, 0, none⟩ = some (.slice A0_0 l0_0.length c0_0) := (blk_cell BK312.out 0).trans rfl; have hcz12_1 : w10.cell? ⟨gb312, 1, none⟩ = some (.slice A0_1 l0_1.length c0_1) := (blk_cell BK312.out 1).trans rfl; have hcz12_2 : w10.cell? ⟨gb312, 2, none⟩ = some (.slice A0_2 l0_2.length c0_2) := (blk_cell BK312.out 2).trans rfl; have hfz12_0 := blk_frozen BK312.out 0; have hfz12_1 := blk_frozen BK312.out 1; have hfz12_2 := blk_frozen BK312.out 2; have hcz13_0 : w10.cell? ⟨gb313, 0, none⟩ = some (.slice A1_0 l1_0.length c1_0) := (blk_cell BK313.out 0).trans rfl; have hcz13_1 : w10.cell? ⟨gb313, 1, none⟩ = some (.slice A1_1 l1_1.length c1_1) := (blk_cell BK313.out 1).trans rfl; have hcz13_2 : w10.cell? ⟨gb313, 2, none⟩ = some (.slice A1_2 l1_2.length c1_2) := (blk_cell BK313.out 2).trans rfl; have hfz13_0 := blk_frozen BK313.out 0; have hfz13_1 := blk_frozen BK313.out 1; have hfz13_2 := blk_frozen BK313.out 2) | ((with_reducible refine gate_callee (f := 162) rfl ?_); refine goesL_ (some 9) rfl rfl Try.func162 (by kernel_rfl) rfl #[.slice A0_0 l0_0.length c0_0, .slice A1_0 l1_0.length c1_0] rfl az ?_; (with_reducible refine (laws_eqTermS.calls k _ _ l0_0 _ _ l1_0 true _ ?side1 HC0_0.out ?side3 HC1_0.out A3.out).mono ?_); (case side1 => exact cz HR0_0 HB); (case side3 => exact cz HR1_0 HB); rintro e w14 ⟨rfl, hb⟩; refine ⟨_, rfl, ?_⟩; replace BK312 := Aside0.mk (blk_below (g := gb312) (o := .cells #[.slice A0_0 l0_0.length c0_0, .slice A0_1 l0_1.length c0_1, .slice A0_2 l0_2.length c0_2] 145 (0, 0)) (kz BK312) hb); replace BK313 := Aside0.mk (blk_below (g := gb313) (o := .cells #[.slice A1_0 l1_0.length c1_0, .slice A1_1 l1_1.length c1_1, .slice A1_2 l1_2.length c1_2] 145 (0, 0)) (kz BK313) hb); replace HB := Aside0.mk (below_step (bz2 HB GE312 GE313) hb); clear hb; have hcz15_0 : w14.cell? ⟨gb312, 0, none⟩ = some (.slice A0_0 l0_0.length c0_0) := (blk_cell BK312.out 0).trans rfl; have hcz15_1 : w14.cell? ⟨gb312, 1, none⟩ = some (.slice A0_1 l0_1.length c0_1) := (blk_cell BK312.out 1).trans rfl; have hcz15_2 : w14.cell? ⟨gb312, 2, none⟩ = some (.slice A0_2 l0_2.length c0_2) := (blk_cell BK312.out 2).trans rfl; have hfz15_0 := blk_frozen BK312.out 0; have hfz15_1 := blk_frozen BK312.out 1; have hfz15_2 := blk_frozen BK312.out 2; have hcz16_0 : w14.cell? ⟨gb313, 0, none⟩ = some (.slice A1_0 l1_0.length c1_0) := (blk_cell BK313.out 0).trans rfl; have hcz16_1 : w14.cell? ⟨gb313, 1, none⟩ = some (.slice A1_1 l1_1.length c1_1) := (blk_cell BK313.out 1).trans rfl; have hcz16_2 : w14.cell? ⟨gb313, 2, none⟩ = some (.slice A1_2 l1_2.length c1_2) := (blk_cell BK313.out 2).trans rfl; have hfz16_0 := blk_frozen BK313.out 0; have hfz16_1 := blk_frozen BK313.out 1; have hfz16_2 := blk_frozen BK313.out 2) | ((with_reducible refine gate_callee (f := 21) rfl ?_); refine goesL_ (some 15) rfl rfl Try.func21 (by kernel_rfl) rfl #[.slice A0_1 l0_1.length c0_1, .slice A1_1 l1_1.length c1_1] rfl az ?_; (with_reducible refine (laws_eqIntS.calls k _ _ l0_1 _ _ l1_1 true _ ?side1 HC0_1.out ?side3 HC1_1.out A5.out).mono ?_); (case side1 => exact cz HR0_1 HB); (case side3 => exact cz HR1_1 HB); rintro e w' ⟨rfl, ⟨nd, rfl⟩⟩; refine ⟨_, rfl, ?_⟩) | ((with_reducible refine gate_callee (f := 163) rfl ?_); refine goesL_ (some 21) rfl rfl Try.func163 (by kernel_rfl) rfl #[.slice A0_2 l0_2.length c0_2, .slice A1_2 l1_2.length c1_2] rfl az ?_; (with_reducible refine (laws_eqTermSS.calls k _ _ l0_2 _ _ l1_2 true _ ?side1 HC0_2.out ?side3 HC1_2.out A7.out).mono ?_); (case side1 => repeat (first | exact (Kd.C_below HR0_2.out (bz2 HB GE312 GE313)) | (with_reducible refine Kd.C_alloc ?_ _) | (with_reducible refine Kd.C_drewN ?_ _) | (with_reducible refine Kd.C_drew ?_))); (case side3 => repeat (first | exact (Kd.C_below HR1_2.out (bz2 HB GE312 GE313)) | (with_reducible refine Kd.C_alloc ?_ _) | (with_reducible refine Kd.C_drewN ?_ _) | (with_reducible refine Kd.C_drew ?_))); rintro e w17 ⟨rfl, hb⟩; refine ⟨_, rfl, ?_⟩; replace BK312 := Aside0.mk (blk_below (g := gb312) (o := .cells #[.slice A0_0 l0_0.length c0_0, .slice A0_1 l0_1.length c0_1, .slice A0_2 l0_2.length c0_2] 145 (0, 0)) (kz BK312) hb); replace BK313 := Aside0.mk (blk_below (g := gb313) (o := .cells #[.slice A1_0 l1_0.length c1_0, .slice A1_1 l1_1.length c1_1, .slice A1_2 l1_2.length c1_2] 145 (0, 0)) (kz BK313) hb); replace HB := Aside0.mk (below_step (bz2 HB GE312 GE313) hb); clear hb))
    go_ret
    exact ⟨rz, bz2 HB GE312 GE313⟩
   ·
    replace c8 := Bool.eq_false_iff.mpr c8
    subst c8
    rw [if_neg nt_] at H
    obtain rfl := Option.some.inj H
    go_enter Try.func125, Try.ntmps125
    go_wp2_with (first | ((with_reducible refine gate_dst (N := 2) rfl ?_); refine box_event ?hg (N := 2) ?hd (cs := #[.slice A0_0 l0_0.length c0_0, .slice A0_1 l0_1.length c0_1, .slice A0_2 l0_2.length c0_2]) (t := 145) ?hr ?_; (case hd => rfl); (case hg => rfl); (case hr => first | (go_simp; done) | (go_simp; rfl)); intro gb312 hg w18 hbox hb; have n0_ := Aside0.mk (below_step (bz HB) hb); have n1_ := Aside0.mk (hbox); have n2_ := Aside0.mk ((by rw [hg]; exact (below_size (bz HB)) : w.heap.size ≤ gb312)); have n3_ := Aside0.mk ((by rw [hg]; exact (below_size (bz HB)) : w.heap.size ≤ gb312)); clear HB; have HB := n0_; have BK312 := n1_; have GW312 := n2_; have GE312 := n3_; clear n0_ n1_ n2_ n3_; clear hb hbox hg) | ((with_reducible refine gate_dst (N := 3) rfl ?_); refine box_event ?hg (N := 3) ?hd (cs := #[.slice A1_0 l1_0.length c1_0, .slice A1_1 l1_1.length c1_1, .slice A1_2 l1_2.length c1_2]) (t := 145) ?hr ?_; (case hd => rfl); (case hg => rfl); (case hr => first | (go_simp; done) | (go_simp; rfl)); intro gb313 hg w19 hbox hb; have n0_ := Aside0.mk (blk_below (g := gb312) (o := .cells #[.slice A0_0 l0_0.length c0_0, .slice A0_1 l0_1.length c0_1, .slice A0_2 l0_2.length c0_2] 145 (0, 0)) (kz BK312) hb); have n1_ := Aside0.mk (below_step (bz1 HB GE312) hb); have n2_ := Aside0.mk (hbox); have n3_ := Aside0.mk ((by rw [hg]; exact (below_size (bz1 HB GE312)) : w.heap.size ≤ gb313)); have n4_ := Aside0.mk ((by rw [hg]; exact (below_size (bz1 HB GE312)) : w.heap.size ≤ gb313)); have n5_ := Aside0.mk ((by rw [hg]; exact Nat.ne_of_lt (blk_lt (g := gb312) (o := .cells #[.slice A0_0 l0_0.length c0_0, .slice A0_1 l0_1.length c0_1, .slice A0_2 l0_2.length c0_2] 145 (0, 0)) (kz BK312)) : gb312 ≠ gb313)); have n6_ := Aside0.mk ((by rw [hg]; exact Nat.ne_of_gt (blk_lt (g := gb312) (o := .cells #[.slice A0_0 l0_0.length c0_0, .slice A0_1 l0_1.length c0_1, .slice A0_2 l0_2.length c0_2] 145 (0, 0)) (kz BK312)) : gb313 ≠ gb312)); clear BK312; clear HB; have BK312 := n0_; have HB := n1_; have BK313 := n2_; have GW313 := n3_; have GE313 := n4_; have NB312_313 := n5_; have NB313_312 := n6_; clear n0_ n1_ n2_ n3_ n4_ n5_ n6_; clear hb hbox hg; have hnb20 := NB312_313.out; have hnc20 := NB313_312.out; have hcz21_0 : w19.cell? ⟨gb312, 0, none⟩ = some (.slice A0_0 l0_0.length c0_0) := (blk_cell BK312.out 0).trans rfl; have hcz21_1 : w19.cell? ⟨gb312, 1, none⟩ = some (.slice A0_1 l0_1.length c0_1) := (blk_cell BK312.out 1).trans rfl; have hcz21_2 : w19.cell? ⟨gb312, 2, none⟩ = some (.slice A0_2 l0_2.length c0_2) := (blk_cell BK312.out 2).trans rfl; have hfz21_0 := blk_frozen BK312.out 0; have hfz21_1 := blk_frozen BK312.out 1; have hfz21_2 := blk_frozen BK312.out 2; have hcz22_0 : w19.cell? ⟨gb313, 0, none⟩ = some (.slice A1_0 l1_0.length c1_0) := (blk_cell BK313.out 0).trans rfl; have hcz22_1 : w19.cell? ⟨gb313, 1, none⟩ = some (.slice A1_1 l1_1.length c1_1) := (blk_cell BK313.out 1).trans rfl; have hcz22_2 : w19.cell? ⟨gb313, 2, none⟩ = some (.slice A1_2 l1_2.length c1_2) := (blk_cell BK313.out 2).trans rfl; have hfz22_0 := blk_frozen BK313.out 0; have hfz22_1 := blk_frozen BK313.out 1; have hfz22_2 := blk_frozen BK313.out 2) | ((with_reducible refine gate_callee (f := 162) rfl ?_); refine goesL_ (some 9) rfl rfl Try.func162 (by kernel_rfl) rfl #[.slice A0_0 l0_0.length c0_0, .slice A1_0 l1_0.length c1_0] rfl az ?_; (with_reducible refine (laws_eqTermS.calls k _ _ l0_0 _ _ l1_0 true _ ?side1 HC0_0.out ?side3 HC1_0.out A3.out).mono ?_); (case side1 => exact cz HR0_0 HB); (case side3 => exact cz HR1_0 HB); rintro e w23 ⟨rfl, hb⟩; refine ⟨_, rfl, ?_⟩; replace BK312 := Aside0.mk (blk_below (g := gb312) (o := .cells #[.slice A0_0 l0_0.length c0_0, .slice A0_1 l0_1.length c0_1, .slice A0_2 l0_2.length c0_2] 145 (0, 0)) (kz BK312) hb); replace BK313 := Aside0.mk (blk_below (g := gb313) (o := .cells #[.slice A1_0 l1_0.length c1_0, .slice A1_1 l1_1.length c1_1, .slice A1_2 l1_2.length c1_2] 145 (0, 0)) (kz BK313) hb); replace HB := Aside0.mk (below_step (bz2 HB GE312 GE313) hb); clear hb; have hcz24_0 : w23.cell? ⟨gb312, 0, none⟩ = some (.slice A0_0 l0_0.length c0_0) := (blk_cell BK312.out 0).trans rfl; have hcz24_1 : w23.cell? ⟨gb312, 1, none⟩ = some (.slice A0_1 l0_1.length c0_1) := (blk_cell BK312.out 1).trans rfl; have hcz24_2 : w23.cell? ⟨gb312, 2, none⟩ = some (.slice A0_2 l0_2.length c0_2) := (blk_cell BK312.out 2).trans rfl; have hfz24_0 := blk_frozen BK312.out 0; have hfz24_1 := blk_frozen BK312.out 1; have hfz24_2 := blk_frozen BK312.out 2; have hcz25_0 : w23.cell? ⟨gb313, 0, none⟩ = some (.slice A1_0 l1_0.length c1_0) := (blk_cell BK313.out 0).trans rfl; have hcz25_1 : w23.cell? ⟨gb313, 1, none⟩ = some (.slice A1_1 l1_1.length c1_1) := (blk_cell BK313.out 1).trans rfl; have hcz25_2 : w23.cell? ⟨gb313, 2, none⟩ = some (.slice A1_2 l1_2.length c1_2) := (blk_cell BK313.out 2).trans rfl; have hfz25_0 := blk_frozen BK313.out 0; have hfz25_1 := blk_frozen BK313.out 1; have hfz25_2 := blk_frozen BK313.out 2) | ((with_reducible refine gate_callee (f := 21) rfl ?_); refine goesL_ (some 15) rfl rfl Try.func21 (by kernel_rfl) rfl #[.slice A0_1 l0_1.length c0_1, .slice A1_1 l1_1.length c1_1] rfl az ?_; (with_reducible refine (laws_eqIntS.calls k _ _ l0_1 _ _ l1_1 true _ ?side1 HC0_1.out ?side3 HC1_1.out A5.out).mono ?_); (case side1 => exact cz HR0_1 HB); (case side3 => exact cz HR1_1 HB); rintro e w' ⟨rfl, ⟨nd, rfl⟩⟩; refine ⟨_, rfl, ?_⟩) | ((with_reducible refine gate_callee (f := 163) rfl ?_); refine goesL_ (some 21) rfl rfl Try.func163 (by kernel_rfl) rfl #[.slice A0_2 l0_2.length c0_2, .slice A1_2 l1_2.length c1_2] rfl az ?_; (with_reducible refine (laws_eqTermSS.calls k _ _ l0_2 _ _ l1_2 false _ ?side1 HC0_2.out ?side3 HC1_2.out A7.out).mono ?_); (case side1 => repeat (first | exact (Kd.C_below HR0_2.out (bz2 HB GE312 GE313)) | (with_reducible refine Kd.C_alloc ?_ _) | (with_reducible refine Kd.C_drewN ?_ _) | (with_reducible refine Kd.C_drew ?_))); (case side3 => repeat (first | exact (Kd.C_below HR1_2.out (bz2 HB GE312 GE313)) | (with_reducible refine Kd.C_alloc ?_ _) | (with_reducible refine Kd.C_drewN ?_ _) | (with_reducible refine Kd.C_drew ?_))); rintro e w26 ⟨rfl, hb⟩; refine ⟨_, rfl, ?_⟩; replace BK312 := Aside0.mk (blk_below (g := gb312) (o := .cells #[.slice A0_0 l0_0.length c0_0, .slice A0_1 l0_1.length c0_1, .slice A0_2 l0_2.length c0_2] 145 (0, 0)) (kz BK312) hb); replace BK313 := Aside0.mk (blk_below (g := gb313) (o := .cells #[.slice A1_0 l1_0.length c1_0, .slice A1_1 l1_1.length c1_1, .slice A1_2 l1_2.length c1_2] 145 (0, 0)) (kz BK313) hb); replace HB := Aside0.mk (below_step (bz2 HB GE312 GE313) hb); clear hb))
    go_ret
    exact ⟨rz, bz2 HB GE312 GE313⟩
  ·
   replace c6 := Bool.eq_false_iff.mpr c6
   subst c6
   rw [if_neg nt_] at H
   obtain rfl := Option.some.inj H
   go_enter Try.func125, Try.ntmps125
   go_wp2_with (first | ((with_reducible refine gate_dst (N := 2) rfl ?_); refine box_event ?hg (N := 2) ?hd (cs := #[.slice A0_0 l0_0.length c0_0, .slice A0_1 l0_1.length c0_1, .slice A0_2 l0_2.length c0_2]) (t := 145) ?hr ?_; (case hd => rfl); (case hg => rfl); (case hr => first | (go_simp; done) | (go_simp; rfl)); intro gb312 hg w27 hbox hb; have n0_ := Aside0.mk (below_step (bz HB) hb); have n1_ := Aside0.mk (hbox); have n2_ := Aside0.mk ((by rw [hg]; exact (below_size (bz HB)) : w.heap.size ≤ gb312)); have n3_ := Aside0.mk ((by rw [hg]; exact (below_size (bz HB)) : w.heap.size ≤ gb312)); clear HB; have HB := n0_; have BK312 := n1_; have GW312 := n2_; have GE312 := n3_; clear n0_ n1_ n2_ n3_; clear hb hbox hg) | ((with_reducible refine gate_dst (N := 3) rfl ?_); refine box_event ?hg (N := 3) ?hd (cs := #[.slice A1_0 l1_0.length c1_0, .slice A1_1 l1_1.length c1_1, .slice A1_2 l1_2.length c1_2]) (t := 145) ?hr ?_; (case hd => rfl); (case hg => rfl); (case hr => first | (go_simp; done) | (go_simp; rfl)); intro gb313 hg w28 hbox hb; have n0_ := Aside0.mk (blk_below (g := gb312) (o := .cells #[.slice A0_0 l0_0.length c0_0, .slice A0_1 l0_1.length c0_1, .slice A0_2 l0_2.length c0_2] 145 (0, 0)) (kz BK312) hb); have n1_ := Aside0.mk (below_step (bz1 HB GE312) hb); have n2_ := Aside0.mk (hbox); have n3_ := Aside0.mk ((by rw [hg]; exact (below_size (bz1 HB GE312)) : w.heap.size ≤ gb313)); have n4_ := Aside0.mk ((by rw [hg]; exact (below_size (bz1 HB GE312)) : w.heap.size ≤ gb313)); have n5_ := Aside0.mk ((by rw [hg]; exact Nat.ne_of_lt (blk_lt (g := gb312) (o := .cells #[.slice A0_0 l0_0.length c0_0, .slice A0_1 l0_1.length c0_1, .slice A0_2 l0_2.length c0_2] 145 (0, 0)) (kz BK312)) : gb312 ≠ gb313)); have n6_ := Aside0.mk ((by rw [hg]; exact Nat.ne_of_gt (blk_lt (g := gb312) (o := .cells #[.slice A0_0 l0_0.length c0_0, .slice A0_1 l0_1.length c0_1, .slice A0_2 l0_2.length c0_2] 145 (0, 0)) (kz BK312)) : gb313 ≠ gb312)); clear BK312; clear HB; have BK312 := n0_; have HB := n1_; have BK313 := n2_; have GW313 := n3_; have GE313 := n4_; have NB312_313 := n5_; have NB313_312 := n6_; clear n0_ n1_ n2_ n3_ n4_ n5_ n6_; clear hb hbox hg; have hnb29 := NB312_313.out; have hnc29 := NB313_312.out; have hcz30_0 : w28.cell? ⟨gb312, 0, none⟩ = some (.slice A0_0 l0_0.length c0_0) := (blk_cell BK312.out 0).trans rfl; have hcz30_1 : w28.cell? ⟨gb312, 1, none⟩ = some (.slice A0_1 l0_1.length c0_1) := (blk_cell BK312.out 1).trans rfl; have hcz30_2 : w28.cell? ⟨gb312, 2, none⟩ = some (.slice A0_2 l0_2.length c0_2) := (blk_cell BK312.out 2).trans rfl; have hfz30_0 := blk_frozen BK312.out 0; have hfz30_1 := blk_frozen BK312.out 1; have hfz30_2 := blk_frozen BK312.out 2; have hcz31_0 : w28.cell? ⟨gb313, 0, none⟩ = some (.slice A1_0 l1_0.length c1_0) := (blk_cell BK313.out 0).trans rfl; have hcz31_1 : w28.cell? ⟨gb313, 1, none⟩ = some (.slice A1_1 l1_1.length c1_1) := (blk_cell BK313.out 1).trans rfl; have hcz31_2 : w28.cell? ⟨gb313, 2, none⟩ = some (.slice A1_2 l1_2.length c1_2) := (blk_cell BK313.out 2).trans rfl; have hfz31_0 := blk_frozen BK313.out 0; have hfz31_1 := blk_frozen BK313.out 1; have hfz31_2 := blk_frozen BK313.out 2) | ((with_reducible refine gate_callee (f := 162) rfl ?_); refine goesL_ (some 9) rfl rfl Try.func162 (by kernel_rfl) rfl #[.slice A0_0 l0_0.length c0_0, .slice A1_0 l1_0.length c1_0] rfl az ?_; (with_reducible refine (laws_eqTermS.calls k _ _ l0_0 _ _ l1_0 true _ ?side1 HC0_0.out ?side3 HC1_0.out A3.out).mono ?_); (case side1 => exact cz HR0_0 HB); (case side3 => exact cz HR1_0 HB); rintro e w32 ⟨rfl, hb⟩; refine ⟨_, rfl, ?_⟩; replace BK312 := Aside0.mk (blk_below (g := gb312) (o := .cells #[.slice A0_0 l0_0.length c0_0, .slice A0_1 l0_1.length c0_1, .slice A0_2 l0_2.length c0_2] 145 (0, 0)) (kz BK312) hb); replace BK313 := Aside0.mk (blk_below (g := gb313) (o := .cells #[.slice A1_0 l1_0.length c1_0, .slice A1_1 l1_1.length c1_1, .slice A1_2 l1_2.length c1_2] 145 (0, 0)) (kz BK313) hb); replace HB := Aside0.mk (below_step (bz2 HB GE312 GE313) hb); clear hb; have hcz33_0 : w32.cell? ⟨gb312, 0, none⟩ = some (.slice A0_0 l0_0.length c0_0) := (blk_cell BK312.out 0).trans rfl; have hcz33_1 : w32.cell? ⟨gb312, 1, none⟩ = some (.slice A0_1 l0_1.length c0_1) := (blk_cell BK312.out 1).trans rfl; have hcz33_2 : w32.cell? ⟨gb312, 2, none⟩ = some (.slice A0_2 l0_2.length c0_2) := (blk_cell BK312.out 2).trans rfl; have hfz33_0 := blk_frozen BK312.out 0; have hfz33_1 := blk_frozen BK312.out 1; have hfz33_2 := blk_frozen BK312.out 2; have hcz34_0 : w32.cell? ⟨gb313, 0, none⟩ = some (.slice A1_0 l1_0.length c1_0) := (blk_cell BK313.out 0).trans rfl; have hcz34_1 : w32.cell? ⟨gb313, 1, none⟩ = some (.slice A1_1 l1_1.length c1_1) := (blk_cell BK313.out 1).trans rfl; have hcz34_2 : w32.cell? ⟨gb313, 2, none⟩ = some (.slice A1_2 l1_2.length c1_2) := (blk_cell BK313.out 2).trans rfl; have hfz34_0 := blk_frozen BK313.out 0; have hfz34_1 := blk_frozen BK313.out 1; have hfz34_2 := blk_frozen BK313.out 2) | ((with_reducible refine gate_callee (f := 21) rfl ?_); refine goesL_ (some 15) rfl rfl Try.func21 (by kernel_rfl) rfl #[.slice A0_1 l0_1.length c0_1, .slice A1_1 l1_1.length c1_1] rfl az ?_; (with_reducible refine (laws_eqIntS.calls k _ _ l0_1 _ _ l1_1 false _ ?side1 HC0_1.out ?side3 HC1_1.out A5.out).mono ?_); (case side1 => exact cz HR0_1 HB); (case side3 => exact cz HR1_1 HB); rintro e w' ⟨rfl, ⟨nd, rfl⟩⟩; refine ⟨_, rfl, ?_⟩))
   go_ret
   exact ⟨rz, bz2 HB GE312 GE313⟩
 ·
  replace c4 := Bool.eq_false_iff.mpr c4
  subst c4
  rw [if_neg nt_] at H
  obtain rfl := Option.some.inj H
  go_enter Try.func125, Try.ntmps125
  go_wp2_with (first | ((with_reducible refine gate_dst (N := 2) rfl ?_); refine box_event ?hg (N := 2) ?hd (cs := #[.slice A0_0 l0_0.length c0_0, .slice A0_1 l0_1.length c0_1, .slice A0_2 l0_2.length c0_2]) (t := 145) ?hr ?_; (case hd => rfl); (case hg => rfl); (case hr => first | (go_simp; done) | (go_simp; rfl)); intro gb312 hg w35 hbox hb; have n0_ := Aside0.mk (below_step (bz HB) hb); have n1_ := Aside0.mk (hbox); have n2_ := Aside0.mk ((by rw [hg]; exact (below_size (bz HB)) : w.heap.size ≤ gb312)); have n3_ := Aside0.mk ((by rw [hg]; exact (below_size (bz HB)) : w.heap.size ≤ gb312)); clear HB; have HB := n0_; have BK312 := n1_; have GW312 := n2_; have GE312 := n3_; clear n0_ n1_ n2_ n3_; clear hb hbox hg) | ((with_reducible refine gate_dst (N := 3) rfl ?_); refine box_event ?hg (N := 3) ?hd (cs := #[.slice A1_0 l1_0.length c1_0, .slice A1_1 l1_1.length c1_1, .slice A1_2 l1_2.length c1_2]) (t := 145) ?hr ?_; (case hd => rfl); (case hg => rfl); (case hr => first | (go_simp; done) | (go_simp; rfl)); intro gb313 hg w36 hbox hb; have n0_ := Aside0.mk (blk_below (g := gb312) (o := .cells #[.slice A0_0 l0_0.length c0_0, .slice A0_1 l0_1.length c0_1, .slice A0_2 l0_2.length c0_2] 145 (0, 0)) (kz BK312) hb); have n1_ := Aside0.mk (below_step (bz1 HB GE312) hb); have n2_ := Aside0.mk (hbox); have n3_ := Aside0.mk ((by rw [hg]; exact (below_size (bz1 HB GE312)) : w.heap.size ≤ gb313)); have n4_ := Aside0.mk ((by rw [hg]; exact (below_size (bz1 HB GE312)) : w.heap.size ≤ gb313)); have n5_ := Aside0.mk ((by rw [hg]; exact Nat.ne_of_lt (blk_lt (g := gb312) (o := .cells #[.slice A0_0 l0_0.length c0_0, .slice A0_1 l0_1.length c0_1, .slice A0_2 l0_2.length c0_2] 145 (0, 0)) (kz BK312)) : gb312 ≠ gb313)); have n6_ := Aside0.mk ((by rw [hg]; exact Nat.ne_of_gt (blk_lt (g := gb312) (o := .cells #[.slice A0_0 l0_0.length c0_0, .slice A0_1 l0_1.length c0_1, .slice A0_2 l0_2.length c0_2] 145 (0, 0)) (kz BK312)) : gb313 ≠ gb312)); clear BK312; clear HB; have BK312 := n0_; have HB := n1_; have BK313 := n2_; have GW313 := n3_; have GE313 := n4_; have NB312_313 := n5_; have NB313_312 := n6_; clear n0_ n1_ n2_ n3_ n4_ n5_ n6_; clear hb hbox hg; have hnb37 := NB312_313.out; have hnc37 := NB313_312.out; have hcz38_0 : w36.cell? ⟨gb312, 0, none⟩ = some (.slice A0_0 l0_0.length c0_0) := (blk_cell BK312.out 0).trans rfl; have hcz38_1 : w36.cell? ⟨gb312, 1, none⟩ = some (.slice A0_1 l0_1.length c0_1) := (blk_cell BK312.out 1).trans rfl; have hcz38_2 : w36.cell? ⟨gb312, 2, none⟩ = some (.slice A0_2 l0_2.length c0_2) := (blk_cell BK312.out 2).trans rfl; have hfz38_0 := blk_frozen BK312.out 0; have hfz38_1 := blk_frozen BK312.out 1; have hfz38_2 := blk_frozen BK312.out 2; have hcz39_0 : w36.cell? ⟨gb313, 0, none⟩ = some (.slice A1_0 l1_0.length c1_0) := (blk_cell BK313.out 0).trans rfl; have hcz39_1 : w36.cell? ⟨gb313, 1, none⟩ = some (.slice A1_1 l1_1.length c1_1) := (blk_cell BK313.out 1).trans rfl; have hcz39_2 : w36.cell? ⟨gb313, 2, none⟩ = some (.slice A1_2 l1_2.length c1_2) := (blk_cell BK313.out 2).trans rfl; have hfz39_0 := blk_frozen BK313.out 0; have hfz39_1 := blk_frozen BK313.out 1; have hfz39_2 := blk_frozen BK313.out 2) | ((with_reducible refine gate_callee (f := 162) rfl ?_); refine goesL_ (some 9) rfl rfl Try.func162 (by kernel_rfl) rfl #[.slice A0_0 l0_0.length c0_0, .slice A1_0 l1_0.length c1_0] rfl az ?_; (with_reducible refine (laws_eqTermS.calls k _ _ l0_0 _ _ l1_0 false _ ?side1 HC0_0.out ?side3 HC1_0.out A3.out).mono ?_); (case side1 => exact cz HR0_0 HB); (case side3 => exact cz HR1_0 HB); rintro e w40 ⟨rfl, hb⟩; refine ⟨_, rfl, ?_⟩; replace BK312 := Aside0.mk (blk_below (g := gb312) (o := .cells #[.slice A0_0 l0_0.length c0_0, .slice A0_1 l0_1.length c0_1, .slice A0_2 l0_2.length c0_2] 145 (0, 0)) (kz BK312) hb); replace BK313 := Aside0.mk (blk_below (g := gb313) (o := .cells #[.slice A1_0 l1_0.length c1_0, .slice A1_1 l1_1.length c1_1, .slice A1_2 l1_2.length c1_2] 145 (0, 0)) (kz BK313) hb); replace HB := Aside0.mk (below_step (bz2 HB GE312 GE313) hb); clear hb))
  go_ret
  exact ⟨rz, bz2 HB GE312 GE313⟩
end Go.Proofs.Ytndmhmekmkgccaa.PFnExactInRange
end
section
namespace Go.Proofs.Ytndmhmekmkgccaa.PFnExactInRange
open Go.RowKit Go.Proofs.YtndmhmekmkgccaaW.PrintWords Go.Proofs.YtndmhmekmkgccaaW.PrintLast Go.Proofs.YtndmhmekmkgccaaW.PrintMore
attribute [local go_sem] max2_int min2_int max_two min_two max_three min_three max_four min_four   -- for this text's walks alone
set_option linter.unusedVariables false
set_option linter.unusedSimpArgs false
def laws_eqRuleS.T6 : Bool × List (List Nat × List Nat) := (true, [([], []), ([], []), ([0, 1], [0, 1]), ([2], [2]), ([], []), ([], []), ([4, 5], [4, 5]), ([6], [6]), ([3, 7], [3, 7]), ([8], [8])])
def laws_eqRuleS.B6 : List Nat := [0, 0, 3, 7, 0, 0, 48, 112, 255, 511]
theorem laws_eqRuleS.tab6 : rtab .any (opsOf Try.f66 6) = laws_eqRuleS.T6 := by kernel_rfl
theorem laws_eqRuleS.bits6 : waitsOk laws_eqRuleS.T6.2 laws_eqRuleS.B6 = true := by kernel_rfl
set_option maxHeartbeats 8000000 in
set_option maxRecDepth 100000 in
theorem laws_eqRuleS.calls (k : Nat) (A0 : Option Addr) (c0 : Nat) (l0 : List (IRule)) (A1 : Option Addr) (c1 : Nat) (l1 : List (IRule)) (r : Bool) (w : World) (hr0 : Kd.C k145 w A0 l0.length l0) (hc0 : l0.length ≤ c0) (hr1 : Kd.C k145 w A1 l1.length l1) (hc1 : l1.length ≤ c1) (h : laws_eqRuleS.f k l0 l1 = some r) :
  Calls Try.prog 66 #[.slice A0 l0.length c0, .slice A1 l1.length c1] w fun e w' => e = .returned (.bool r) ∧ Below w.heap.size w w' := by
 have hu145 := Try.underlying145
 have HR0 := Aside0.mk hr0
 have HC0 := Aside0.mk hc0
 clear hr0 hc0
 have HR1 := Aside0.mk hr1
 have HC1 := Aside0.mk hc1
 clear hr1 hc1
 have HB := Aside0.mk (Below.refl w.heap.size w)
 have H : (if (l0.length : Int) = (l1.length : Int) then (laws_eqRuleS.l0 k l0 l1 0) else (some false)) = some r := h
 clear h
 by_cases c3 : (l0.length : Int) = (l1.length : Int)
 ·
  rw [if_pos c3] at H
  have c3b0 : ((l0.length : Int) == (l1.length : Int)) = true := beq_iff_eq.mpr c3
  have c3b1 : ((l0.length : Int) != (l1.length : Int)) = false := bne_eq_false_iff_eq.mpr c3
  have c3b2 : (l0.length == l1.length) = true := by first | simpa using c3 | (simp at c3 ⊢; omega)
  clear c3
  have H' := Aside0.mk H
  clear H
  go_enter Try.func66, Try.ntmps66
  go_wp2
  go_loopg [5] k (fun kq v5 w' => ∃ (x5_1 : Int), v5 = .int .i64 x5_1 ∧ Aside0 (laws_eqRuleS.l0 kq l0 l1 x5_1 = some r) ∧ Aside0 (kq ≤ k) ∧ Aside0 (Below w.heap.size w w'))
  case atStart => exact ⟨(0), rq, H', ⟨Nat.le_refl _⟩, ⟨bz HB⟩⟩
  case round =>
   clear H'
   try clear c1
   try clear p2
   try clear c3
   try clear c3b0
   try clear c3b1
   try clear c3b2
   obtain ⟨x5_1, rfl, HA, HK1, HB⟩ := hrel
   cases gk with
   | zero => exact absurd HA.out (by simp [laws_eqRuleS.l0])
   | succ k1 =>
    have H := HA.out
    clear HA
    simp only [laws_eqRuleS.l0] at H
    by_cases c4 : x5_1 < (l0.length : Int)
    ·
     rw [if_pos c4] at H
     have c4b0 : decide (x5_1 < (l0.length : Int)) = true := decide_eq_true c4
     clear c4
     by_cases c5 : 0 ≤ x5_1
     ·
      rw [if_pos c5] at H
      have c5b0 : decide (0 ≤ x5_1) = true := decide_eq_true c5
      clear c5
      by_cases c6 : x5_1 < (l1.length : Int)
      ·
       rw [if_pos c6] at H
       have c6b0 : decide (x5_1 < (l1.length : Int)) = true := decide_eq_true c6
       clear c6
       replace H := Option.bind_eq_some_iff.mp H
       obtain ⟨t319, A70, H⟩ := H
       have A7 := Aside0.mk A70
       clear A70
       by_cases c8 : t319 = true
       ·
        subst c8
        rw [if_pos rfl] at H
        have H' := Aside0.mk H
        clear H
        try go_wp2
        have n0_ := Aside0.mk (below_drew1 HB.out)
        clear HB
        have HB := n0_
        clear n0_
        have p317 : 0 ≤ (x5_1 : Int) := dz
        have q317 : x5_1 < (l0.length : Int) := dz
        obtain ⟨ad317, A317_0, c317_0, A317_1, c317_1, A317_2, c317_2, e317, hx317_0, hx317_1, hx317_2, hl317_0, hi317_0, hl317_1, hi317_1, hl317_2, hi317_2⟩ := at_IRule HR0.out x5_1 p317 q317
        have hw317_2 := hx317_2
        have hw317_1 := hx317_1
        have hw317_0 := hx317_0
        cases e317
        replace hx317_0 := xz HB hx317_0
        replace hx317_1 := xz HB hx317_1
        replace hx317_2 := xz HB hx317_2
        have HR317_0 := Aside0.mk hi317_0
        have HC317_0 := Aside0.mk hl317_0
        clear hi317_0 hl317_0
        have HR317_1 := Aside0.mk hi317_1
        have HC317_1 := Aside0.mk hl317_1
        clear hi317_1 hl317_1
        have HR317_2 := Aside0.mk hi317_2
        have HC317_2 := Aside0.mk hl317_2
        clear hi317_2 hl317_2
        replace p317 := eq_true p317
        replace q317 := eq_true q317
        have p318 : 0 ≤ (x5_1 : Int) := dz
        have q318 : x5_1 < (l1.length : Int) := dz
        obtain ⟨ad318, A318_0, c318_0, A318_1, c318_1, A318_2, c318_2, e318, hx318_0, hx318_1, hx318_2, hl318_0, hi318_0, hl318_1, hi318_1, hl318_2, hi318_2⟩ := at_IRule HR1.out x5_1 p318 q318
        have hw318_2 := hx318_2
        have hw318_1 := hx318_1
        have hw318_0 := hx318_0
        cases e318
        replace hx318_0 := xz HB hx318_0
        replace hx318_1 := xz HB hx318_1
        replace hx318_2 := xz HB hx318_2
        have HR318_0 := Aside0.mk hi318_0
        have HC318_0 := Aside0.mk hl318_0
        clear hi318_0 hl318_0
        have HR318_1 := Aside0.mk hi318_1
        have HC318_1 := Aside0.mk hl318_1
        clear hi318_1 hl318_1
        have HR318_2 := Aside0.mk hi318_2
        have HC318_2 := Aside0.mk hl318_2
        clear hi318_2 hl318_2
        replace p318 := eq_true p318
        replace q318 := eq_true q318
        refine start_ (n := 10) (S := fun w' => w'.cell? (ad317.add ((x5_1).toNat * 3)) = some (.slice A317_0 ((rd_IRule l0 x5_1).f0).length c317_0) ∧ w'.cell? ⟨(ad317.add ((x5_1).toNat * 3)).block, (ad317.add ((x5_1).toNat * 3)).off + 1, none⟩ = some (.slice A317_1 ((rd_IRule l0 x5_1).f1).length c317_1) ∧ w'.cell? ⟨(ad317.add ((x5_1).toNat * 3)).block, (ad317.add ((x5_1).toNat * 3)).off + 2, none⟩ = some (.slice A317_2 ((rd_IRule l0 x5_1).f2).length c317_2) ∧ w'.cell? (ad318.add ((x5_1).toNat * 3)) = some (.slice A318_0 ((rd_IRule l1 x5_1).f0).length c318_0) ∧ w'.cell? ⟨(ad318.add ((x5_1).toNat * 3)).block, (ad318.add ((x5_1).toNat * 3)).off + 1, none⟩ = some (.slice A318_1 ((rd_IRule l1 x5_1).f1).length c318_1) ∧ w'.cell? ⟨(ad318.add ((x5_1).toNat * 3)).block, (ad318.add ((x5_1).toNat * 3)).off + 2, none⟩ = some (.slice A318_2 ((rd_IRule l1 x5_1).f2).length c318_2)) (ds := []) #[false, false, false, false, false, false, false, false, false, false] (by kernel_rfl) rfl rfl ⟨((HB.out.cell (World.block_lt_of_cell? w _ hw317_0)).trans hw317_0), ((HB.out.cell (World.block_lt_of_cell? w _ hw317_1)).trans hw317_1), ((HB.out.cell (World.block_lt_of_cell? w _ hw317_2)).trans hw317_2), ((HB.out.cell (World.block_lt_of_cell? w _ hw318_0)).trans hw318_0), ((HB.out.cell (World.block_lt_of_cell? w _ hw318_1)).trans hw318_1), ((HB.out.cell (World.block_lt_of_cell? w _ hw318_2)).trans hw318_2)⟩ (fun hHeld => ?_); refine with_tabW laws_eqRuleS.tab6 laws_eqRuleS.bits6 (fun HT_ HW_ => ?_)
        generalize wr.drew = w9 at HB HR317_0 HR317_1 HR317_2 HR318_0 HR318_1 HR318_2 hx317_0 hx317_1 hx317_2 hx318_0 hx318_1 hx318_2 hHeld ⊢
        refine pure_ (i := 0) (N := some 17) (v := ?_) (a' := ?_) #[true, false, false, false, false, false, false, false, false, false] rfl rfl (any_of HT_.out (by kernel_rfl)) (fun _ _ _ h => h) (Or.inl ⟨by rfl, ?_⟩) ?_ ?_
        rotate_left
        ·
         intro w'
         go_simp
         with_reducible rfl
        rotate_left
        ·
         simp only [Act.put, sb_, sc0_, sc1_, i64_w, i32_w]
         rfl
        refine pure_ (i := 1) (N := some 18) (v := ?_) (a' := ?_) #[true, true, false, false, false, false, false, false, false, false] rfl rfl (any_of HT_.out (by kernel_rfl)) (fun _ _ _ h => h) (Or.inl ⟨by rfl, ?_⟩) ?_ ?_
        rotate_left
        ·
         intro w'
         go_simp
         with_reducible rfl
        rotate_left
        ·
         simp only [Act.put, sb_, sc0_, sc1_, i64_w, i32_w]
         rfl
        refine pure_ (i := 2) (N := some 19) (v := ?_) (a' := ?_) #[true, true, true, false, false, false, false, false, false, false] rfl rfl (any_of HT_.out (by kernel_rfl)) (fun _ _ _ h => h) (Or.inl ⟨by rfl, ?_⟩) ?_ ?_
        rotate_left
        ·
         intro w'
         go_simp
         with_reducible rfl
        rotate_left
        ·
         simp only [Act.put, sb_, sc0_, sc1_, i64_w, i32_w]
         rfl
        refine pure_ (i := 4) (N := some 21) (v := ?_) (a' := ?_) #[true, true, true, false, true, false, false, false, false, false] rfl rfl (any_of HT_.out (by kernel_rfl)) (fun _ _ _ h => h) (Or.inl ⟨by rfl, ?_⟩) ?_ ?_
        rotate_left
        ·
         intro w'
         go_simp
         with_reducible rfl
        rotate_left
        ·
         simp only [Act.put, sb_, sc0_, sc1_, i64_w, i32_w]
         rfl
        refine pure_ (i := 5) (N := some 22) (v := ?_) (a' := ?_) #[true, true, true, false, true, true, false, false, false, false] rfl rfl (any_of HT_.out (by kernel_rfl)) (fun _ _ _ h => h) (Or.inl ⟨by rfl, ?_⟩) ?_ ?_
        rotate_left
        ·
         intro w'
         go_simp
         with_reducible rfl
        rotate_left
        ·
         simp only [Act.put, sb_, sc0_, sc1_, i64_w, i32_w]
         rfl
        refine pure_ (i := 6) (N := some 23) (v := ?_) (a' := ?_) #[true, true, true, false, true, true, true, false, false, false] rfl rfl (any_of HT_.out (by kernel_rfl)) (fun _ _ _ h => h) (Or.inl ⟨by rfl, ?_⟩) ?_ ?_
        rotate_left
        ·
         intro w'
         go_simp
         with_reducible rfl
        rotate_left
        ·
         simp only [Act.put, sb_, sc0_, sc1_, i64_w, i32_w]
         rfl
        refine take_ (i := 3) (N := some 20) (v := ?_) (a' := ?_) #[true, true, true, true, true, true, true, false, false, false] rfl rfl (take_ofW HT_.out HW_.out (by kernel_rfl)) (fun _ _ _ h => h) (Or.inl ⟨by rfl, ?_⟩) hHeld ?_ ?_
        rotate_left
        ·
         rintro w' ⟨s0, s1, s2, s3, s4, s5⟩
         go_simp
         with_reducible rfl
        rotate_left
        ·
         simp only [Act.put, sb_, sc0_, sc1_, i64_w, i32_w]
         rfl
        refine take_ (i := 7) (N := some 24) (v := ?_) (a' := ?_) #[true, true, true, true, true, true, true, true, false, false] rfl rfl (take_ofW HT_.out HW_.out (by kernel_rfl)) (fun _ _ _ h => h) (Or.inl ⟨by rfl, ?_⟩) hHeld ?_ ?_
        rotate_left
        ·
         rintro w' ⟨s0, s1, s2, s3, s4, s5⟩
         go_simp
         with_reducible rfl
        rotate_left
        ·
         simp only [Act.put, sb_, sc0_, sc1_, i64_w, i32_w]
         rfl
        refine one_ (i := 8) (N := some 25) #[true, true, true, true, true, true, true, true, true, false] rfl rfl (one_of HT_.out (by kernel_rfl)) (by decide) (fun K hK => ?_)
        refine goes_ Try.func125 (by kernel_rfl) rfl #[.agg #[.slice A317_0 ((rd_IRule l0 x5_1).f0).length c317_0, .slice A317_1 ((rd_IRule l0 x5_1).f1).length c317_1, .slice A317_2 ((rd_IRule l0 x5_1).f2).length c317_2], .agg #[.slice A318_0 ((rd_IRule l1 x5_1).f0).length c318_0, .slice A318_1 ((rd_IRule l1 x5_1).f1).length c318_1, .slice A318_2 ((rd_IRule l1 x5_1).f2).length c318_2]] (by rfl) rfl rfl az ?_
        with_reducible refine (laws_eqRule.calls k1 _ _ ((rd_IRule l0 x5_1).f0) _ _ ((rd_IRule l0 x5_1).f1) _ _ ((rd_IRule l0 x5_1).f2) _ _ ((rd_IRule l1 x5_1).f0) _ _ ((rd_IRule l1 x5_1).f1) _ _ ((rd_IRule l1 x5_1).f2) true _ ?side1 ?side2 ?side3 ?side4 ?side5 ?side6 ?side7 ?side8 ?side9 ?side10 ?side11 ?side12 A7.out).mono ?_
        (case side1 => exact cz HR317_0 HB)
        (case side2 => exact HC317_0.out)
        (case side3 => exact cz HR317_1 HB)
        (case side4 => exact HC317_1.out)
        (case side5 => exact cz HR317_2 HB)
        (case side6 => exact HC317_2.out)
        (case side7 => exact cz HR318_0 HB)
        (case side8 => exact HC318_0.out)
        (case side9 => exact cz HR318_1 HB)
        (case side10 => exact HC318_1.out)
        (case side11 => exact cz HR318_2 HB)
        (case side12 => exact HC318_2.out)
        rintro e w10 ⟨rfl, hb⟩
        refine ⟨_, rfl, ?_⟩
        have n0_ := Aside0.mk (below_step (bz HB) hb)
        clear HB
        have HB := n0_
        clear n0_
        (try clear hb)
        (try clear hb2)
        (try clear hk)
        (try clear hi)
        refine hK.out _ _ ⟨((HB.out.cell (World.block_lt_of_cell? w _ hw317_0)).trans hw317_0), ((HB.out.cell (World.block_lt_of_cell? w _ hw317_1)).trans hw317_1), ((HB.out.cell (World.block_lt_of_cell? w _ hw317_2)).trans hw317_2), ((HB.out.cell (World.block_lt_of_cell? w _ hw318_0)).trans hw318_0), ((HB.out.cell (World.block_lt_of_cell? w _ hw318_1)).trans hw318_1), ((HB.out.cell (World.block_lt_of_cell? w _ hw318_2)).trans hw318_2)⟩ (fun hHeld => ?_)
        clear hK K
        refine norm_ (a' := ?_) ?_ ?_
        rotate_left
        ·
         show Act.put _ (some 25) _ = _
         simp only [Act.put, sb_, sc0_, sc1_, i64_w, i32_w]
         rfl
        refine pure_ (i := 9) (N := some 26) (v := ?_) (a' := ?_) #[true, true, true, true, true, true, true, true, true, true] rfl rfl (any_of HT_.out (by kernel_rfl)) (fun _ _ _ h => h) (Or.inl ⟨by rfl, ?_⟩) ?_ ?_
        rotate_left
        ·
         intro w'
         go_simp
         with_reducible rfl
        rotate_left
        ·
         simp only [Act.put, sb_, sc0_, sc1_, i64_w, i32_w]
         rfl
        refine done_ (done_of HT_.out (by kernel_rfl)) ?_
        try go_wp2
        go_roundg k1
        case measure => have := HK1.out; omega
        case rel => exact ⟨(wrap64 (x5_1 + 1)), rq, H', ⟨by have := HK1.out; omega⟩, ⟨bz HB⟩⟩
       ·
        replace c8 := Bool.eq_false_iff.mpr c8
        subst c8
        rw [if_neg nt_] at H
        obtain rfl := Option.some.inj H
        try go_wp2
        have n0_ := Aside0.mk (below_drew1 HB.out)
        clear HB
        have HB := n0_
        clear n0_
        have p317 : 0 ≤ (x5_1 : Int) := dz
        have q317 : x5_1 < (l0.length : Int) := dz
        obtain ⟨ad317, A317_0, c317_0, A317_1, c317_1, A317_2, c317_2, e317, hx317_0, hx317_1, hx317_2, hl317_0, hi317_0, hl317_1, hi317_1, hl317_2, hi317_2⟩ := at_IRule HR0.out x5_1 p317 q317
        have hw317_2 := hx317_2
        have hw317_1 := hx317_1
        have hw317_0 := hx317_0
        cases e317
        replace hx317_0 := xz HB hx317_0
        replace hx317_1 := xz HB hx317_1
        replace hx317_2 := xz HB hx317_2
        have HR317_0 := Aside0.mk hi317_0
        have HC317_0 := Aside0.mk hl317_0
        clear hi317_0 hl317_0
        have HR317_1 := Aside0.mk hi317_1
        have HC317_1 := Aside0.mk hl317_1
        clear hi317_1 hl317_1
        have HR317_2 := Aside0.mk hi317_2
        have HC317_2 := Aside0.mk hl317_2
        clear hi317_2 hl317_2
        replace p317 := eq_true p317
        replace q317 := eq_true q317
        have p318 : 0 ≤ (x5_1 : Int) := dz
        have q318 : x5_1 < (l1.length : Int) := dz
        obtain ⟨ad318, A318_0, c318_0, A318_1, c318_1, A318_2, c318_2, e318, hx318_0, hx318_1, hx318_2, hl318_0, hi318_0, hl318_1, hi318_1, hl318_2, hi318_2⟩ := at_IRule HR1.out x5_1 p318 q318
        have hw318_2 := hx318_2
        have hw318_1 := hx318_1
        have hw318_0 := hx318_0
        cases e318
        replace hx318_0 := xz HB hx318_0
        replace hx318_1 := xz HB hx318_1
        replace hx318_2 := xz HB hx318_2
        have HR318_0 := Aside0.mk hi318_0
        have HC318_0 := Aside0.mk hl318_0
        clear hi318_0 hl318_0
        have HR318_1 := Aside0.mk hi318_1
        have HC318_1 := Aside0.mk hl318_1
        clear hi318_1 hl318_1
        have HR318_2 := Aside0.mk hi318_2
        have HC318_2 := Aside0.mk hl318_2
        clear hi318_2 hl318_2
        replace p318 := eq_true p318
        replace q318 := eq_true q318
        refine start_ (n := 10) (S := fun w' => w'.cell? (ad317.add ((x5_1).toNat * 3)) = some (.slice A317_0 ((rd_IRule l0 x5_1).f0).length c317_0) ∧ w'.cell? ⟨(ad317.add ((x5_1).toNat * 3)).block, (ad317.add ((x5_1).toNat * 3)).off + 1, none⟩ = some (.slice A317_1 ((rd_IRule l0 x5_1).f1).length c317_1) ∧ w'.cell? ⟨(ad317.add ((x5_1).toNat * 3)).block, (ad317.add ((x5_1).toNat * 3)).off + 2, none⟩ = some (.slice A317_2 ((rd_IRule l0 x5_1).f2).length c317_2) ∧ w'.cell? (ad318.add ((x5_1).toNat * 3)) = some (.slice A318_0 ((rd_IRule l1 x5_1).f0).length c318_0) ∧ w'.cell? ⟨(ad318.add ((x5_1).toNat * 3)).block, (ad318.add ((x5_1).toNat * 3)).off + 1, none⟩ = some (.slice A318_1 ((rd_IRule l1 x5_1).f1).length c318_1) ∧ w'.cell? ⟨(ad318.add ((x5_1).toNat * 3)).block, (ad318.add ((x5_1).toNat * 3)).off + 2, none⟩ = some (.slice A318_2 ((rd_IRule l1 x5_1).f2).length c318_2)) (ds := []) #[false, false, false, false, false, false, false, false, false, false] (by kernel_rfl) rfl rfl ⟨((HB.out.cell (World.block_lt_of_cell? w _ hw317_0)).trans hw317_0), ((HB.out.cell (World.block_lt_of_cell? w _ hw317_1)).trans hw317_1), ((HB.out.cell (World.block_lt_of_cell? w _ hw317_2)).trans hw317_2), ((HB.out.cell (World.block_lt_of_cell? w _ hw318_0)).trans hw318_0), ((HB.out.cell (World.block_lt_of_cell? w _ hw318_1)).trans hw318_1), ((HB.out.cell (World.block_lt_of_cell? w _ hw318_2)).trans hw318_2)⟩ (fun hHeld => ?_); refine with_tabW laws_eqRuleS.tab6 laws_eqRuleS.bits6 (fun HT_ HW_ => ?_)
        generalize wr.drew = w11 at HB HR317_0 HR317_1 HR317_2 HR318_0 HR318_1 HR318_2 hx317_0 hx317_1 hx317_2 hx318_0 hx318_1 hx318_2 hHeld ⊢
        refine pure_ (i := 0) (N := some 17) (v := ?_) (a' := ?_) #[true, false, false, false, false, false, false, false, false, false] rfl rfl (any_of HT_.out (by kernel_rfl)) (fun _ _ _ h => h) (Or.inl ⟨by rfl, ?_⟩) ?_ ?_
        rotate_left
        ·
         intro w'
         go_simp
         with_reducible rfl
        rotate_left
        ·
         simp only [Act.put, sb_, sc0_, sc1_, i64_w, i32_w]
         rfl
        refine pure_ (i := 1) (N := some 18) (v := ?_) (a' := ?_) #[true, true, false, false, false, false, false, false, false, false] rfl rfl (any_of HT_.out (by kernel_rfl)) (fun _ _ _ h => h) (Or.inl ⟨by rfl, ?_⟩) ?_ ?_
        rotate_left
        ·
         intro w'
         go_simp
         with_reducible rfl
        rotate_left
        ·
         simp only [Act.put, sb_, sc0_, sc1_, i64_w, i32_w]
         rfl
        refine pure_ (i := 2) (N := some 19) (v := ?_) (a' := ?_) #[true, true, true, false, false, false, false, false, false, false] rfl rfl (any_of HT_.out (by kernel_rfl)) (fun _ _ _ h => h) (Or.inl ⟨by rfl, ?_⟩) ?_ ?_
        rotate_left
        ·
         intro w'
         go_simp
         with_reducible rfl
        rotate_left
        ·
         simp only [Act.put, sb_, sc0_, sc1_, i64_w, i32_w]
         rfl
        refine pure_ (i := 4) (N := some 21) (v := ?_) (a' := ?_) #[true, true, true, false, true, false, false, false, false, false] rfl rfl (any_of HT_.out (by kernel_rfl)) (fun _ _ _ h => h) (Or.inl ⟨by rfl, ?_⟩) ?_ ?_
        rotate_left
        ·
         intro w'
         go_simp
         with_reducible rfl
        rotate_left
        ·
         simp only [Act.put, sb_, sc0_, sc1_, i64_w, i32_w]
         rfl
        refine pure_ (i := 5) (N := some 22) (v := ?_) (a' := ?_) #[true, true, true, false, true, true, false, false, false, false] rfl rfl (any_of HT_.out (by kernel_rfl)) (fun _ _ _ h => h) (Or.inl ⟨by rfl, ?_⟩) ?_ ?_
        rotate_left
        ·
         intro w'
         go_simp
         with_reducible rfl
        rotate_left
        ·
         simp only [Act.put, sb_, sc0_, sc1_, i64_w, i32_w]
         rfl
        refine pure_ (i := 6) (N := some 23) (v := ?_) (a' := ?_) #[true, true, true, false, true, true, true, false, false, false] rfl rfl (any_of HT_.out (by kernel_rfl)) (fun _ _ _ h => h) (Or.inl ⟨by rfl, ?_⟩) ?_ ?_
        rotate_left
        ·
         intro w'
         go_simp
         with_reducible rfl
        rotate_left
        ·
         simp only [Act.put, sb_, sc0_, sc1_, i64_w, i32_w]
         rfl
        refine take_ (i := 3) (N := some 20) (v := ?_) (a' := ?_) #[true, true, true, true, true, true, true, false, false, false] rfl rfl (take_ofW HT_.out HW_.out (by kernel_rfl)) (fun _ _ _ h => h) (Or.inl ⟨by rfl, ?_⟩) hHeld ?_ ?_
        rotate_left
        ·
         rintro w' ⟨s0, s1, s2, s3, s4, s5⟩
         go_simp
         with_reducible rfl
        rotate_left
        ·
         simp only [Act.put, sb_, sc0_, sc1_, i64_w, i32_w]
         rfl
        refine take_ (i := 7) (N := some 24) (v := ?_) (a' := ?_) #[true, true, true, true, true, true, true, true, false, false] rfl rfl (take_ofW HT_.out HW_.out (by kernel_rfl)) (fun _ _ _ h => h) (Or.inl ⟨by rfl, ?_⟩) hHeld ?_ ?_
        rotate_left
        ·
         rintro w' ⟨s0, s1, s2, s3, s4, s5⟩
         go_simp
         with_reducible rfl
        rotate_left
        ·
         simp only [Act.put, sb_, sc0_, sc1_, i64_w, i32_w]
         rfl
        refine one_ (i := 8) (N := some 25) #[true, true, true, true, true, true, true, true, true, false] rfl rfl (one_of HT_.out (by kernel_rfl)) (by decide) (fun K hK => ?_)
        refine goes_ Try.func125 (by kernel_rfl) rfl #[.agg #[.slice A317_0 ((rd_IRule l0 x5_1).f0).length c317_0, .slice A317_1 ((rd_IRule l0 x5_1).f1).length c317_1, .slice A317_2 ((rd_IRule l0 x5_1).f2).length c317_2], .agg #[.slice A318_0 ((rd_IRule l1 x5_1).f0).length c318_0, .slice A318_1 ((rd_IRule l1 x5_1).f1).length c318_1, .slice A318_2 ((rd_IRule l1 x5_1).f2).length c318_2]] (by rfl) rfl rfl az ?_
        with_reducible refine (laws_eqRule.calls k1 _ _ ((rd_IRule l0 x5_1).f0) _ _ ((rd_IRule l0 x5_1).f1) _ _ ((rd_IRule l0 x5_1).f2) _ _ ((rd_IRule l1 x5_1).f0) _ _ ((rd_IRule l1 x5_1).f1) _ _ ((rd_IRule l1 x5_1).f2) false _ ?side1 ?side2 ?side3 ?side4 ?side5 ?side6 ?side7 ?side8 ?side9 ?side10 ?side11 ?side12 A7.out).mono ?_
        (case side1 => exact cz HR317_0 HB)
        (case side2 => exact HC317_0.out)
        (case side3 => exact cz HR317_1 HB)
        (case side4 => exact HC317_1.out)
        (case side5 => exact cz HR317_2 HB)
        (case side6 => exact HC317_2.out)
        (case side7 => exact cz HR318_0 HB)
        (case side8 => exact HC318_0.out)
        (case side9 => exact cz HR318_1 HB)
        (case side10 => exact HC318_1.out)
        (case side11 => exact cz HR318_2 HB)
        (case side12 => exact HC318_2.out)
        rintro e w12 ⟨rfl, hb⟩
        refine ⟨_, rfl, ?_⟩
        have n0_ := Aside0.mk (below_step (bz HB) hb)
        clear HB
        have HB := n0_
        clear n0_
        (try clear hb)
        (try clear hb2)
        (try clear hk)
        (try clear hi)
        refine hK.out _ _ ⟨((HB.out.cell (World.block_lt_of_cell? w _ hw317_0)).trans hw317_0), ((HB.out.cell (World.block_lt_of_cell? w _ hw317_1)).trans hw317_1), ((HB.out.cell (World.block_lt_of_cell? w _ hw317_2)).trans hw317_2), ((HB.out.cell (World.block_lt_of_cell? w _ hw318_0)).trans hw318_0), ((HB.out.cell (World.block_lt_of_cell? w _ hw318_1)).trans hw318_1), ((HB.out.cell (World.block_lt_of_cell? w _ hw318_2)).trans hw318_2)⟩ (fun hHeld => ?_)
        clear hK K
        refine norm_ (a' := ?_) ?_ ?_
        rotate_left
        ·
         show Act.put _ (some 25) _ = _
         simp only [Act.put, sb_, sc0_, sc1_, i64_w, i32_w]
         rfl
        refine pure_ (i := 9) (N := some 26) (v := ?_) (a' := ?_) #[true, true, true, true, true, true, true, true, true, true] rfl rfl (any_of HT_.out (by kernel_rfl)) (fun _ _ _ h => h) (Or.inl ⟨by rfl, ?_⟩) ?_ ?_
        rotate_left
        ·
         intro w'
         go_simp
         with_reducible rfl
        rotate_left
        ·
         simp only [Act.put, sb_, sc0_, sc1_, i64_w, i32_w]
         rfl
        refine done_ (done_of HT_.out (by kernel_rfl)) ?_
        try go_wp2
        go_ret
        exact ⟨rz, bz HB⟩
      ·
       rw [if_neg c6] at H
       exact absurd H (by simp)
     ·
      rw [if_neg c5] at H
      exact absurd H (by simp)
    ·
     rw [if_neg c4] at H
     have c4b0 : decide (x5_1 < (l0.length : Int)) = false := decide_eq_false c4
     clear c4
     obtain rfl := Option.some.inj H
     go_wp2
     go_ret
     exact ⟨rz, bz HB⟩
 ·
  rw [if_neg c3] at H
  have c3b0 : ((l0.length : Int) == (l1.length : Int)) = false := beq_eq_false_iff_ne.mpr c3
  have c3b1 : ((l0.length : Int) != (l1.length : Int)) = true := bne_iff_ne.mpr c3
  have c3b2 : (l0.length == l1.length) = false := by first | simpa using c3 | (simp at c3 ⊢; omega)
  obtain rfl := Option.some.inj H
  go_enter Try.func66, Try.ntmps66
  go_wp2
  go_ret
  exact ⟨rz, bz HB⟩
end Go.Proofs.Ytndmhmekmkgccaa.PFnExactInRange
end
section
namespace Go.Proofs.Ytndmhmekmkgccaa.PFnExactInRange
open Go.RowKit Go.Proofs.YtndmhmekmkgccaaW.PrintWords Go.Proofs.YtndmhmekmkgccaaW.PrintLast Go.Proofs.YtndmhmekmkgccaaW.PrintMore
attribute [local go_sem] max2_int min2_int max_two min_two max_three min_three max_four min_four   -- for this text's walks alone
set_option linter.unusedVariables false
set_option linter.unusedSimpArgs false
set_option maxHeartbeats 8000000 in
set_option maxRecDepth 100000 in
theorem laws_eqSystem.calls (k : Nat) (A0_0 : Option Addr) (c0_0 : Nat) (l0_0 : List (IVar)) (A0_1 : Option Addr) (c0_1 : Nat) (l0_1 : List (IRule)) (A1_0 : Option Addr) (c1_0 : Nat) (l1_0 : List (IVar)) (A1_1 : Option Addr) (c1_1 : Nat) (l1_1 : List (IRule)) (r : Bool) (w : World) (hr0_0 : Kd.C k141 w A0_0 l0_0.length l0_0) (hc0_0 : l0_0.length ≤ c0_0) (hr0_1 : Kd.C k145 w A0_1 l0_1.length l0_1) (hc0_1 : l0_1.length ≤ c0_1) (hr1_0 : Kd.C k141 w A1_0 l1_0.length l1_0) (hc1_0 : l1_0.length ≤ c1_0) (hr1_1 : Kd.C k145 w A1_1 l1_1.length l1_1) (hc1_1 : l1_1.length ≤ c1_1) (h : laws_eqSystem.f k l0_0 l0_1 l1_0 l1_1 = some r) :
  Calls Try.prog 20 #[.agg #[.slice A0_0 l0_0.length c0_0, .slice A0_1 l0_1.length c0_1], .agg #[.slice A1_0 l1_0.length c1_0, .slice A1_1 l1_1.length c1_1]] w fun e w' => e = .returned (.bool r) ∧ Below w.heap.size w w' := by
 have hu43 := Try.underlying43
 have HR0_0 := Aside0.mk hr0_0
 have HC0_0 := Aside0.mk hc0_0
 clear hr0_0 hc0_0
 have HR0_1 := Aside0.mk hr0_1
 have HC0_1 := Aside0.mk hc0_1
 clear hr0_1 hc0_1
 have HR1_0 := Aside0.mk hr1_0
 have HC1_0 := Aside0.mk hc1_0
 clear hr1_0 hc1_0
 have HR1_1 := Aside0.mk hr1_1
 have HC1_1 := Aside0.mk hc1_1
 clear hr1_1 hc1_1
 have HB := Aside0.mk (Below.refl w.heap.size w)
 have H : ((laws_eqVarS.f k l0_0 l1_0).bind fun t322 => (if t322 = true then ((laws_eqRuleS.f k l0_1 l1_1).bind fun t323 => (if t323 = true then (some true) else (some false))) else (some false))) = some r := h
 clear h
 replace H := Option.bind_eq_some_iff.mp H
 obtain ⟨t322, A30, H⟩ := H
 have A3 := Aside0.mk A30
 clear A30
 by_cases c4 : t322 = true
 ·
  subst c4
  rw [if_pos rfl] at H
  replace H := Option.bind_eq_some_iff.mp H
  obtain ⟨t323, A50, H⟩ := H
  have A5 := Aside0.mk A50
  clear A50
  by_cases c6 : t323 = true
  ·
   subst c6
   rw [if_pos rfl] at H
   obtain rfl := Option.some.inj H
   go_enter Try.func20, Try.ntmps20
   go_wp2_with (first | ((with_reducible refine gate_dst (N := 2) rfl ?_); refine box_event ?hg (N := 2) ?hd (cs := #[.slice A0_0 l0_0.length c0_0, .slice A0_1 l0_1.length c0_1]) (t := 43) ?hr ?_; (case hd => rfl); (case hg => rfl); (case hr => first | (go_simp; done) | (go_simp; rfl)); intro gb320 hg w7 hbox hb; have n0_ := Aside0.mk (below_step (bz HB) hb); have n1_ := Aside0.mk (hbox); have n2_ := Aside0.mk ((by rw [hg]; exact (below_size (bz HB)) : w.heap.size ≤ gb320)); have n3_ := Aside0.mk ((by rw [hg]; exact (below_size (bz HB)) : w.heap.size ≤ gb320)); clear HB; have HB := n0_; have BK320 := n1_; have GW320 := n2_; have GE320 := n3_; clear n0_ n1_ n2_ n3_; clear hb hbox hg) | ((with_reducible refine gate_dst (N := 3) rfl ?_); refine box_event ?hg (N := 3) ?hd (cs := #[.slice A1_0 l1_0.length c1_0, .slice A1_1 l1_1.length c1_1]) (t := 43) ?hr ?_; (case hd => rfl); (case hg => rfl); (case hr => first | (go_simp; done) | (go_simp; rfl)); intro gb321 hg w8 hbox hb; have n0_ := Aside0.mk (blk_below (g := gb320) (o := .cells #[.slice A0_0 l0_0.length c0_0, .slice A0_1 l0_1.length c0_1] 43 (0, 0)) (kz BK320) hb); have n1_ := Aside0.mk (below_step (bz1 HB GE320) hb); have n2_ := Aside0.mk (hbox); have n3_ := Aside0.mk ((by rw [hg]; exact (below_size (bz1 HB GE320)) : w.heap.size ≤ gb321)); have n4_ := Aside0.mk ((by rw [hg]; exact (below_size (bz1 HB GE320)) : w.heap.size ≤ gb321)); have n5_ := Aside0.mk ((by rw [hg]; exact Nat.ne_of_lt (blk_lt (g := gb320) (o := .cells #[.slice A0_0 l0_0.length c0_0, .slice A0_1 l0_1.length c0_1] 43 (0, 0)) (kz BK320)) : gb320 ≠ gb321)); have n6_ := Aside0.mk ((by rw [hg]; exact Nat.ne_of_gt (blk_lt (g := gb320) (o := .cells #[.slice A0_0 l0_0.length c0_0, .slice A0_1 l0_1.length c0_1] 43 (0, 0)) (kz BK320)) : gb321 ≠ gb320)); clear BK320; clear HB; have BK320 := n0_; have HB := n1_; have BK321 := n2_; have GW321 := n3_; have GE321 := n4_; have NB320_321 := n5_; have NB321_320 := n6_; clear n0_ n1_ n2_ n3_ n4_ n5_ n6_; clear hb hbox hg; have hnb9 := NB320_321.out; have hnc9 := NB321_320.out; have hcz10_0 : w8.cell? ⟨gb320, 0, none⟩ = some (.slice A0_0 l0_0.length c0_0) := (blk_cell BK320.out 0).trans rfl; have hcz10_1 : w8.cell? ⟨gb320, 1, none⟩ = some (.slice A0_1 l0_1.length c0_1) := (blk_cell BK320.out 1).trans rfl; have hfz10_0 := blk_frozen BK320.out 0; have hfz10_1 := blk_frozen BK320.out 1; have hcz11_0 : w8.cell? ⟨gb321, 0, none⟩ = some (.slice A1_0 l1_0.length c1_0) := (blk_cell BK321.out 0).trans rfl; have hcz11_1 : w8.cell? ⟨gb321, 1, none⟩ = some (.slice A1_1 l1_1.length c1_1) := (blk_cell BK321.out 1).trans rfl; have hfz11_0 := blk_frozen BK321.out 0; have hfz11_1 := blk_frozen BK321.out 1) | ((with_reducible refine gate_callee (f := 65) rfl ?_); refine goesL_ (some 9) rfl rfl Try.func65 (by kernel_rfl) rfl #[.slice A0_0 l0_0.length c0_0, .slice A1_0 l1_0.length c1_0] rfl az ?_; (with_reducible refine (laws_eqVarS.calls k _ _ l0_0 _ _ l1_0 true _ ?side1 HC0_0.out ?side3 HC1_0.out A3.out).mono ?_); (case side1 => exact cz HR0_0 HB); (case side3 => exact cz HR1_0 HB); rintro e w12 ⟨rfl, hb⟩; refine ⟨_, rfl, ?_⟩; replace BK320 := Aside0.mk (blk_below (g := gb320) (o := .cells #[.slice A0_0 l0_0.length c0_0, .slice A0_1 l0_1.length c0_1] 43 (0, 0)) (kz BK320) hb); replace BK321 := Aside0.mk (blk_below (g := gb321) (o := .cells #[.slice A1_0 l1_0.length c1_0, .slice A1_1 l1_1.length c1_1] 43 (0, 0)) (kz BK321) hb); replace HB := Aside0.mk (below_step (bz2 HB GE320 GE321) hb); clear hb; have hcz13_0 : w12.cell? ⟨gb320, 0, none⟩ = some (.slice A0_0 l0_0.length c0_0) := (blk_cell BK320.out 0).trans rfl; have hcz13_1 : w12.cell? ⟨gb320, 1, none⟩ = some (.slice A0_1 l0_1.length c0_1) := (blk_cell BK320.out 1).trans rfl; have hfz13_0 := blk_frozen BK320.out 0; have hfz13_1 := blk_frozen BK320.out 1; have hcz14_0 : w12.cell? ⟨gb321, 0, none⟩ = some (.slice A1_0 l1_0.length c1_0) := (blk_cell BK321.out 0).trans rfl; have hcz14_1 : w12.cell? ⟨gb321, 1, none⟩ = some (.slice A1_1 l1_1.length c1_1) := (blk_cell BK321.out 1).trans rfl; have hfz14_0 := blk_frozen BK321.out 0; have hfz14_1 := blk_frozen BK321.out 1) | ((with_reducible refine gate_callee (f := 66) rfl ?_); refine goesL_ (some 15) rfl rfl Try.func66 (by kernel_rfl) rfl #[.slice A0_1 l0_1.length c0_1, .slice A1_1 l1_1.length c1_1] rfl az ?_; (with_reducible refine (laws_eqRuleS.calls k _ _ l0_1 _ _ l1_1 true _ ?side1 HC0_1.out ?side3 HC1_1.out A5.out).mono ?_); (case side1 => exact cz HR0_1 HB); (case side3 => exact cz HR1_1 HB); rintro e w15 ⟨rfl, hb⟩; refine ⟨_, rfl, ?_⟩; replace BK320 := Aside0.mk (blk_below (g := gb320) (o := .cells #[.slice A0_0 l0_0.length c0_0, .slice A0_1 l0_1.length c0_1] 43 (0, 0)) (kz BK320) hb); replace BK321 := Aside0.mk (blk_below (g := gb321) (o := .cells #[.slice A1_0 l1_0.length c1_0, .slice A1_1 l1_1.length c1_1] 43 (0, 0)) (kz BK321) hb); replace HB := Aside0.mk (below_step (bz2 HB GE320 GE321) hb); clear hb))
   go_ret
   exact ⟨rz, bz2 HB GE320 GE321⟩
  ·
   replace c6 := Bool.eq_false_iff.mpr c6
   subst c6
   rw [if_neg nt_] at H
   obtain rfl := Option.some.inj H
   go_enter Try.func20, Try.ntmps20
   go_wp2_with (first | ((with_reducible refine gate_dst (N := 2) rfl ?_); refine box_event ?hg (N := 2) ?hd (cs := #[.slice A0_0 l0_0.length c0_0, .slice A0_1 l0_1.length c0_1]) (t := 43) ?hr ?_; (case hd => rfl); (case hg => rfl); (case hr => first | (go_simp; done) | (go_simp; rfl)); intro gb320 hg w16 hbox hb; have n0_ := Aside0.mk (below_step (bz HB) hb); have n1_ := Aside0.mk (hbox); have n2_ := Aside0.mk ((by rw [hg]; exact (below_size (bz HB)) : w.heap.size ≤ gb320)); have n3_ := Aside0.mk ((by rw [hg]; exact (below_size (bz HB)) : w.heap.size ≤ gb320)); clear HB; have HB := n0_; have BK320 := n1_; have GW320 := n2_; have GE320 := n3_; clear n0_ n1_ n2_ n3_; clear hb hbox hg) | ((with_reducible refine gate_dst (N := 3) rfl ?_); refine box_event ?hg (N := 3) ?hd (cs := #[.slice A1_0 l1_0.length c1_0, .slice A1_1 l1_1.length c1_1]) (t := 43) ?hr ?_; (case hd => rfl); (case hg => rfl); (case hr => first | (go_simp; done) | (go_simp; rfl)); intro gb321 hg w17 hbox hb; have n0_ := Aside0.mk (blk_below (g := gb320) (o := .cells #[.slice A0_0 l0_0.length c0_0, .slice A0_1 l0_1.length c0_1] 43 (0, 0)) (kz BK320) hb); have n1_ := Aside0.mk (below_step (bz1 HB GE320) hb); have n2_ := Aside0.mk (hbox); have n3_ := Aside0.mk ((by rw [hg]; exact (below_size (bz1 HB GE320)) : w.heap.size ≤ gb321)); have n4_ := Aside0.mk ((by rw [hg]; exact (below_size (bz1 HB GE320)) : w.heap.size ≤ gb321)); have n5_ := Aside0.mk ((by rw [hg]; exact Nat.ne_of_lt (blk_lt (g := gb320) (o := .cells #[.slice A0_0 l0_0.length c0_0, .slice A0_1 l0_1.length c0_1] 43 (0, 0)) (kz BK320)) : gb320 ≠ gb321)); have n6_ := Aside0.mk ((by rw [hg]; exact Nat.ne_of_gt (blk_lt (g := gb320) (o := .cells #[.slice A0_0 l0_0.length c0_0, .slice A0_1 l0_1.length c0_1] 43 (0, 0)) (kz BK320)) : gb321 ≠ gb320)); clear BK320; clear HB; have BK320 := n0_; have HB := n1_; have BK321 := n2_; have GW321 := n3_; have GE321 := n4_; have NB320_321 := n5_; have NB321_320 := n6_; clear n0_ n1_ n2_ n3_ n4_ n5_ n6_; clear hb hbox hg; have hnb18 := NB320_321.out; have hnc18 := NB321_320.out; have hcz19_0 : w17.cell? ⟨gb320, 0, none⟩ = some (.slice A0_0 l0_0.length c0_0) := (blk_cell BK320.out 0).trans rfl; have hcz19_1 : w17.cell? ⟨gb320, 1, none⟩ = some (.slice A0_1 l0_1.length c0_1) := (blk_cell BK320.out 1).trans rfl; have hfz19_0 := blk_frozen BK320.out 0; have hfz19_1 := blk_frozen BK320.out 1; have hcz20_0 : w17.cell? ⟨gb321, 0, none⟩ = some (.slice A1_0 l1_0.length c1_0) := (blk_cell BK321.out 0).trans rfl; have hcz20_1 : w17.cell? ⟨gb321, 1, none⟩ = some (.slice A1_1 l1_1.length c1_1) := (blk_cell BK321.out 1).trans rfl; have hfz20_0 := blk_frozen BK321.out 0; have hfz20_1 := blk_frozen BK321.out 1) | ((with_reducible refine gate_callee (f := 65) rfl ?_); refine goesL_ (some 9) rfl rfl Try.func65 (by kernel_rfl) rfl #[.slice A0_0 l0_0.length c0_0, .slice A1_0 l1_0.length c1_0] rfl az ?_; (with_reducible refine (laws_eqVarS.calls k _ _ l0_0 _ _ l1_0 true _ ?side1 HC0_0.out ?side3 HC1_0.out A3.out).mono ?_); (case side1 => exact cz HR0_0 HB); (case side3 => exact cz HR1_0 HB); rintro e w21 ⟨rfl, hb⟩; refine ⟨_, rfl, ?_⟩; replace BK320 := Aside0.mk (blk_below (g := gb320) (o := .cells #[.slice A0_0 l0_0.length c0_0, .slice A0_1 l0_1.length c0_1] 43 (0, 0)) (kz BK320) hb); replace BK321 := Aside0.mk (blk_below (g := gb321) (o := .cells #[.slice A1_0 l1_0.length c1_0, .slice A1_1 l1_1.length c1_1] 43 (0, 0)) (kz BK321) hb); replace HB := Aside0.mk (below_step (bz2 HB GE320 GE321) hb); clear hb; have hcz22_0 : w21.cell? ⟨gb320, 0, none⟩ = some (.slice A0_0 l0_0.length c0_0) := (blk_cell BK320.out 0).trans rfl; have hcz22_1 : w21.cell? ⟨gb320, 1, none⟩ = some (.slice A0_1 l0_1.length c0_1) := (blk_cell BK320.out 1).trans rfl; have hfz22_0 := blk_frozen BK320.out 0; have hfz22_1 := blk_frozen BK320.out 1; have hcz23_0 : w21.cell? ⟨gb321, 0, none⟩ = some (.slice A1_0 l1_0.length c1_0) := (blk_cell BK321.out 0).trans rfl; have hcz23_1 : w21.cell? ⟨gb321, 1, none⟩ = some (.slice A1_1 l1_1.length c1_1) := (blk_cell BK321.out 1).trans rfl; have hfz23_0 := blk_frozen BK321.out 0; have hfz23_1 := blk_frozen BK321.out 1) | ((with_reducible refine gate_callee (f := 66) rfl ?_); refine goesL_ (some 15) rfl rfl Try.func66 (by kernel_rfl) rfl #[.slice A0_1 l0_1.length c0_1, .slice A1_1 l1_1.length c1_1] rfl az ?_; (with_reducible refine (laws_eqRuleS.calls k _ _ l0_1 _ _ l1_1 false _ ?side1 HC0_1.out ?side3 HC1_1.out A5.out).mono ?_); (case side1 => exact cz HR0_1 HB); (case side3 => exact cz HR1_1 HB); rintro e w24 ⟨rfl, hb⟩; refine ⟨_, rfl, ?_⟩; replace BK320 := Aside0.mk (blk_below (g := gb320) (o := .cells #[.slice A0_0 l0_0.length c0_0, .slice A0_1 l0_1.length c0_1] 43 (0, 0)) (kz BK320) hb); replace BK321 := Aside0.mk (blk_below (g := gb321) (o := .cells #[.slice A1_0 l1_0.length c1_0, .slice A1_1 l1_1.length c1_1] 43 (0, 0)) (kz BK321) hb); replace HB := Aside0.mk (below_step (bz2 HB GE320 GE321) hb); clear hb))
   go_ret
   exact ⟨rz, bz2 HB GE320 GE321⟩
 ·
  replace c4 := Bool.eq_false_iff.mpr c4
  subst c4
  rw [if_neg nt_] at H
  obtain rfl := Option.some.inj H
  go_enter Try.func20, Try.ntmps20
  go_wp2_with (first | ((with_reducible refine gate_dst (N := 2) rfl ?_); refine box_event ?hg (N := 2) ?hd (cs := #[.slice A0_0 l0_0.length c0_0, .slice A0_1 l0_1.length c0_1]) (t := 43) ?hr ?_; (case hd => rfl); (case hg => rfl); (case hr => first | (go_simp; done) | (go_simp; rfl)); intro gb320 hg w25 hbox hb; have n0_ := Aside0.mk (below_step (bz HB) hb); have n1_ := Aside0.mk (hbox); have n2_ := Aside0.mk ((by rw [hg]; exact (below_size (bz HB)) : w.heap.size ≤ gb320)); have n3_ := Aside0.mk ((by rw [hg]; exact (below_size (bz HB)) : w.heap.size ≤ gb320)); clear HB; have HB := n0_; have BK320 := n1_; have GW320 := n2_; have GE320 := n3_; clear n0_ n1_ n2_ n3_; clear hb hbox hg) | ((with_reducible refine gate_dst (N := 3) rfl ?_); refine box_event ?hg (N := 3) ?hd (cs := #[.slice A1_0 l1_0.length c1_0, .slice A1_1 l1_1.length c1_1]) (t := 43) ?hr ?_; (case hd => rfl); (case hg => rfl); (case hr => first | (go_simp; done) | (go_simp; rfl)); intro gb321 hg w26 hbox hb; have n0_ := Aside0.mk (blk_below (g := gb320) (o := .cells #[.slice A0_0 l0_0.length c0_0, .slice A0_1 l0_1.length c0_1] 43 (0, 0)) (kz BK320) hb); have n1_ := Aside0.mk (below_step (bz1 HB GE320) hb); have n2_ := Aside0.mk (hbox); have n3_ := Aside0.mk ((by rw [hg]; exact (below_size (bz1 HB GE320)) : w.heap.size ≤ gb321)); have n4_ := Aside0.mk ((by rw [hg]; exact (below_size (bz1 HB GE320)) : w.heap.size ≤ gb321)); have n5_ := Aside0.mk ((by rw [hg]; exact Nat.ne_of_lt (blk_lt (g := gb320) (o := .cells #[.slice A0_0 l0_0.length c0_0, .slice A0_1 l0_1.length c0_1] 43 (0, 0)) (kz BK320)) : gb320 ≠ gb321)); have n6_ := Aside0.mk ((by rw [hg]; exact Nat.ne_of_gt (blk_lt (g := gb320) (o := .cells #[.slice A0_0 l0_0.length c0_0, .slice A0_1 l0_1.length c0_1] 43 (0, 0)) (kz BK320)) : gb321 ≠ gb320)); clear BK320; clear HB; have BK320 := n0_; have HB := n1_; have BK321 := n2_; have GW321 := n3_; have GE321 := n4_; have NB320_321 := n5_; have NB321_320 := n6_; clear n0_ n1_ n2_ n3_ n4_ n5_ n6_; clear hb hbox hg; have hnb27 := NB320_321.out; have hnc27 := NB321_320.out; have hcz28_0 : w26.cell? ⟨gb320, 0, none⟩ = some (.slice A0_0 l0_0.length c0_0) := (blk_cell BK320.out 0).trans rfl; have hcz28_1 : w26.cell? ⟨gb320, 1, none⟩ = some (.slice A0_1 l0_1.length c0_1) := (blk_cell BK320.out 1).trans rfl; have hfz28_0 := blk_frozen BK320.out 0; have hfz28_1 := blk_frozen BK320.out 1; have hcz29_0 : w26.cell? ⟨gb321, 0, none⟩ = some (.slice A1_0 l1_0.length c1_0) := (blk_cell BK321.out 0).trans rfl; have hcz29_1 : w26.cell? ⟨gb321, 1, none⟩ = some (.slice A1_1 l1_1.length c1_1) := (blk_cell BK321.out 1).trans rfl; have hfz29_0 := blk_frozen BK321.out 0; have hfz29_1 := blk_frozen BK321.out 1) | ((with_reducible refine gate_callee (f := 65) rfl ?_); refine goesL_ (some 9) rfl rfl Try.func65 (by kernel_rfl) rfl #[.slice A0_0 l0_0.length c0_0, .slice A1_0 l1_0.length c1_0] rfl az ?_; (with_reducible refine (laws_eqVarS.calls k _ _ l0_0 _ _ l1_0 false _ ?side1 HC0_0.out ?side3 HC1_0.out A3.out).mono ?_); (case side1 => exact cz HR0_0 HB); (case side3 => exact cz HR1_0 HB); rintro e w30 ⟨rfl, hb⟩; refine ⟨_, rfl, ?_⟩; replace BK320 := Aside0.mk (blk_below (g := gb320) (o := .cells #[.slice A0_0 l0_0.length c0_0, .slice A0_1 l0_1.length c0_1] 43 (0, 0)) (kz BK320) hb); replace BK321 := Aside0.mk (blk_below (g := gb321) (o := .cells #[.slice A1_0 l1_0.length c1_0, .slice A1_1 l1_1.length c1_1] 43 (0, 0)) (kz BK321) hb); replace HB := Aside0.mk (below_step (bz2 HB GE320 GE321) hb); clear hb))
  go_ret
  exact ⟨rz, bz2 HB GE320 GE321⟩
end Go.Proofs.Ytndmhmekmkgccaa.PFnExactInRange
end
