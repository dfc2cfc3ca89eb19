/- Walks of Go functions: each is shown to answer as the Lean function beside it tells, under the conditions that its theorem names. -/
import Derived.Test.YtoofhjflfpccdaaProg
import Derived.Below
import Derived.Deep.Draws
import Derived.Deep.AppendLies
import Derived.Maps.AppendAt
import Derived.OwnWalk
import Derived.Laws.BytesArg
import Derived.Laws.MakeOwn
import Derived.Laws.OwnMore
import Derived.Deep.OwnRows
import Derived.Tactics
import Derived.Lib.ConvBytes
import Derived.Laws.Slices
import Derived.WalkKit
import Derived.KernelRfl
import Derived.RowKit3
import Derived.Deep.LoopGhost
import Derived.Deep.QuietTactic
import Derived.BigQuiet
import Derived.WideLaws
import Derived.Deep.DeepCutAuto
import Derived.Deep.CutBlock
import Derived.Deep.RegionHeld3
import Derived.Laws.Rows
import Derived.Lib.AppendStr
import Derived.ArgAppend
import Derived.Laws.IdiomCopy
import Derived.OrdersHeld
import Derived.Laws.BitsLemmas
import Derived.RowKit
import Derived.Laws.StructEq
import Derived.Lib.SliceRun
import Derived.WalkSpells
import Derived.ChangeArms
import Derived.ChangeSlices
import Derived.Deep.Slices
import Derived.Test.YtoofhjflfpccdaaKP504da1c999
import Derived.Test.YtoofhjflfpccdaaKD2c071cfcef
section
namespace Go.Proofs.Ytoofhjflfpccdaa.PA
open Go.RowKit Go.Proofs.YtoofhjflfpccdaaW.PrintWords Go.Proofs.YtoofhjflfpccdaaW.PrintLast Go.Proofs.YtoofhjflfpccdaaW.PrintMore
attribute [local go_sem] max2_int min2_int max_two min_two max_three min_three max_four min_four   -- for this text's walks alone
set_option linter.unusedVariables false
set_option linter.unusedSimpArgs false
set_option maxHeartbeats 8000000 in
set_option maxRecDepth 100000 in
theorem impl_inRange.calls (k : Nat) (A0_0 : Option Addr) (c0_0 : Nat) (l0_0 : List (IVar)) (A0_1 : Option Addr) (c0_1 : Nat) (l0_1 : List (IRule)) (A1 : Option Addr) (c1 : Nat) (l1 : List Int) (r : Bool) (w : World) (hr0_0 : Kd.C k62 w A0_0 l0_0.length l0_0) (hc0_0 : l0_0.length ≤ c0_0) (hr0_1 : Kd.C k81 w A0_1 l0_1.length l0_1) (hc0_1 : l0_1.length ≤ c0_1) (hr1 : Kd.C (Kd.int .i64) w A1 l1.length l1) (hc1 : l1.length ≤ c1) (h : impl_inRange.f k l0_0 l0_1 l1 = some r) :
  Calls Try.prog 74 #[.agg #[.slice A0_0 l0_0.length c0_0, .slice A0_1 l0_1.length c0_1], .slice A1 l1.length c1] w fun e w' => e = .returned (.bool r) ∧ Below w.heap.size w w' := by
 have hu31 := Try.underlying31
 have hu62 := Try.underlying62
 have HR0_0 := Aside0.mk hr0_0
 have HC0_0 := Aside0.mk hc0_0
 clear hr0_0 hc0_0
 have HR0_1 := Aside0.mk hr0_1
 have HC0_1 := Aside0.mk hc0_1
 clear hr0_1 hc0_1
 have HR1 := Aside0.mk hr1
 have HC1 := Aside0.mk hc1
 clear hr1 hc1
 have HB := Aside0.mk (Below.refl w.heap.size w)
 have H : (if (l1.length : Int) = (l0_0.length : Int) then (impl_inRange.l0 k l1 l0_0 (l0_0.length : Int) 0) else (some false)) = some r := h
 clear h
 by_cases c3 : (l1.length : Int) = (l0_0.length : Int)
 ·
  rw [if_pos c3] at H
  have c3b0 : ((l1.length : Int) == (l0_0.length : Int)) = true := beq_iff_eq.mpr c3
  have c3b1 : ((l1.length : Int) != (l0_0.length : Int)) = false := bne_eq_false_iff_eq.mpr c3
  have c3b2 : (l1.length == l0_0.length) = true := by first | simpa using c3 | (simp at c3 ⊢; omega)
  clear c3
  have H' := Aside0.mk H
  clear H
  go_enter Try.func74, Try.ntmps74
  go_wp2_with (first | ((with_reducible refine gate_dst (N := 2) rfl ?_); refine box_event ?hg (N := 2) ?hd (cs := #[.slice A0_0 l0_0.length c0_0, .slice A0_1 l0_1.length c0_1]) (t := 31) ?hr ?_; (case hd => rfl); (case hg => rfl); (case hr => first | (go_simp; done) | (go_simp; rfl)); intro gb451 hg w4 hbox hb; have n0_ := Aside0.mk (below_step (bz HB) hb); have n1_ := Aside0.mk (hbox); have n2_ := Aside0.mk ((by rw [hg]; exact (below_size (bz HB)) : w.heap.size ≤ gb451)); have n3_ := Aside0.mk ((by rw [hg]; exact (below_size (bz HB)) : w.heap.size ≤ gb451)); clear HB; have HB := n0_; have BK451 := n1_; have GW451 := n2_; have GE451 := n3_; clear n0_ n1_ n2_ n3_; clear hb hbox hg; have hcz5_0 : w4.cell? ⟨gb451, 0, none⟩ = some (.slice A0_0 l0_0.length c0_0) := (blk_cell BK451.out 0).trans rfl; have hcz5_1 : w4.cell? ⟨gb451, 1, none⟩ = some (.slice A0_1 l0_1.length c0_1) := (blk_cell BK451.out 1).trans rfl; have hfz5_0 := blk_frozen BK451.out 0; have hfz5_1 := blk_frozen BK451.out 1))
  repeat (go_quiet (first | ((with_reducible refine gate_dst (N := 2) rfl ?_); refine box_event ?hg (N := 2) ?hd (cs := #[.slice A0_0 l0_0.length c0_0, .slice A0_1 l0_1.length c0_1]) (t := 31) ?hr ?_; (case hd => rfl); (case hg => rfl); (case hr => first | (go_simp; done) | (go_simp; rfl)); intro gb451 hg w4 hbox hb; have n0_ := Aside0.mk (below_step (bz HB) hb); have n1_ := Aside0.mk (hbox); have n2_ := Aside0.mk ((by rw [hg]; exact (below_size (bz HB)) : w.heap.size ≤ gb451)); have n3_ := Aside0.mk ((by rw [hg]; exact (below_size (bz HB)) : w.heap.size ≤ gb451)); clear HB; have HB := n0_; have BK451 := n1_; have GW451 := n2_; have GE451 := n3_; clear n0_ n1_ n2_ n3_; clear hb hbox hg; have hcz5_0 : w4.cell? ⟨gb451, 0, none⟩ = some (.slice A0_0 l0_0.length c0_0) := (blk_cell BK451.out 0).trans rfl; have hcz5_1 : w4.cell? ⟨gb451, 1, none⟩ = some (.slice A0_1 l0_1.length c0_1) := (blk_cell BK451.out 1).trans rfl; have hfz5_0 := blk_frozen BK451.out 0; have hfz5_1 := blk_frozen BK451.out 1)); try go_wp2_with (first | ((with_reducible refine gate_dst (N := 2) rfl ?_); refine box_event ?hg (N := 2) ?hd (cs := #[.slice A0_0 l0_0.length c0_0, .slice A0_1 l0_1.length c0_1]) (t := 31) ?hr ?_; (case hd => rfl); (case hg => rfl); (case hr => first | (go_simp; done) | (go_simp; rfl)); intro gb451 hg w4 hbox hb; have n0_ := Aside0.mk (below_step (bz HB) hb); have n1_ := Aside0.mk (hbox); have n2_ := Aside0.mk ((by rw [hg]; exact (below_size (bz HB)) : w.heap.size ≤ gb451)); have n3_ := Aside0.mk ((by rw [hg]; exact (below_size (bz HB)) : w.heap.size ≤ gb451)); clear HB; have HB := n0_; have BK451 := n1_; have GW451 := n2_; have GE451 := n3_; clear n0_ n1_ n2_ n3_; clear hb hbox hg; have hcz5_0 : w4.cell? ⟨gb451, 0, none⟩ = some (.slice A0_0 l0_0.length c0_0) := (blk_cell BK451.out 0).trans rfl; have hcz5_1 : w4.cell? ⟨gb451, 1, none⟩ = some (.slice A0_1 l0_1.length c0_1) := (blk_cell BK451.out 1).trans rfl; have hfz5_0 := blk_frozen BK451.out 0; have hfz5_1 := blk_frozen BK451.out 1)))
  go_loopg [16] k (fun kq v16 w' => ∃ (x16_1 : Int), v16 = .int .i64 x16_1 ∧ Aside0 (impl_inRange.l0 kq l1 l0_0 (l0_0.length : Int) x16_1 = some r) ∧ Aside0 (kq ≤ k) ∧ Aside0 (w'.heap[gb451]? = some (.cells #[(.slice A0_0 l0_0.length c0_0), (.slice A0_1 l0_1.length c0_1)] 31 (0, 0))) ∧ Aside0 (Below w.heap.size w w'))
  case atStart => exact ⟨(0), rq, H', ⟨Nat.le_refl _⟩, ⟨kz BK451⟩, ⟨bz1 HB GE451⟩⟩
  case round =>
   clear H'
   try clear c1
   try clear p2
   try clear c3
   try clear c3b0
   try clear c3b1
   try clear c3b2
   try clear hcz5_0
   try clear hcz5_1
   try clear hfz5_0
   try clear hfz5_1
   obtain ⟨x16_1, rfl, HA, HK1, BK451, HB⟩ := hrel
   cases gk with
   | zero => exact absurd HA.out (by simp [impl_inRange.l0])
   | succ k1 =>
    have H := HA.out
    clear HA
    simp only [impl_inRange.l0] at H
    by_cases c6 : x16_1 < (l0_0.length : Int)
    ·
     rw [if_pos c6] at H
     have c6b0 : decide (x16_1 < (l0_0.length : Int)) = true := decide_eq_true c6
     clear c6
     by_cases c7 : 0 ≤ x16_1
     ·
      rw [if_pos c7] at H
      have c7b0 : decide (0 ≤ x16_1) = true := decide_eq_true c7
      clear c7
      by_cases c8 : x16_1 < (l0_0.length : Int)
      ·
       rw [if_pos c8] at H
       have c8b0 : decide (x16_1 < (l0_0.length : Int)) = true := decide_eq_true c8
       clear c8
       by_cases c9 : x16_1 < (l1.length : Int)
       ·
        rw [if_pos c9] at H
        have c9b0 : decide (x16_1 < (l1.length : Int)) = true := decide_eq_true c9
        clear c9
        replace H := Option.bind_eq_some_iff.mp H
        obtain ⟨t455, A100, H⟩ := H
        have A10 := Aside0.mk A100
        clear A100
        by_cases c11 : t455 = true
        ·
         subst c11
         rw [if_pos rfl] at H
         have H' := Aside0.mk H
         clear H
         have p452 : 0 ≤ (x16_1 : Int) := dz
         have q452 : x16_1 < (l0_0.length : Int) := dz
         obtain ⟨ad452, e452, hx452_0, hx452_1, hx452_2⟩ := at_IVar HR0_0.out x16_1 p452 q452
         cases e452
         replace hx452_0 := xz HB hx452_0
         replace hx452_1 := xz HB hx452_1
         replace hx452_2 := xz HB hx452_2
         replace p452 := eq_true p452
         replace q452 := eq_true q452
         go_wp2_with (first | ((with_reducible refine gate_dst (N := 6) rfl ?_); refine box_event ?hg (N := 6) ?hd (cs := #[.int .i64 0, .int .i64 0, .int .i64 0]) (t := 62) ?hr ?_; (case hd => rfl); (case hg => rfl); (case hr => first | (go_simp; done) | (go_simp; rfl)); intro gb453 hg w12 hbox hb; have n0_ := Aside0.mk (blk_below (g := gb451) (o := .cells #[.slice (some ad452) l0_0.length c0_0, .slice A0_1 l0_1.length c0_1] 31 (0, 0)) (kz BK451) hb); have n1_ := Aside0.mk (below_step (bz1 HB GE451) hb); have n2_ := Aside0.mk (hbox); have n3_ := Aside0.mk ((by rw [hg]; exact (below_size (bz1 HB GE451)) : w.heap.size ≤ gb453)); have n4_ := Aside0.mk ((by rw [hg]; exact (below_size (bz1 HB GE451)) : w.heap.size ≤ gb453)); have n5_ := Aside0.mk ((by rw [hg]; exact Nat.ne_of_lt (blk_lt (g := gb451) (o := .cells #[.slice (some ad452) l0_0.length c0_0, .slice A0_1 l0_1.length c0_1] 31 (0, 0)) (kz BK451)) : gb451 ≠ gb453)); have n6_ := Aside0.mk ((by rw [hg]; exact Nat.ne_of_gt (blk_lt (g := gb451) (o := .cells #[.slice (some ad452) l0_0.length c0_0, .slice A0_1 l0_1.length c0_1] 31 (0, 0)) (kz BK451)) : gb453 ≠ gb451)); clear BK451; clear HB; have BK451 := n0_; have HB := n1_; have BK453 := n2_; have GW453 := n3_; have GE453 := n4_; have NB451_453 := n5_; have NB453_451 := n6_; clear n0_ n1_ n2_ n3_ n4_ n5_ n6_; clear hb hbox hg; have hnb13 := NB453_451.out; have hnc13 := NB451_453.out; have hcz14_0 : w12.cell? ⟨gb453, 0, none⟩ = some (.int .i64 0) := (blk_cell BK453.out 0).trans rfl; have hcz14_1 : w12.cell? ⟨gb453, 1, none⟩ = some (.int .i64 0) := (blk_cell BK453.out 1).trans rfl; have hcz14_2 : w12.cell? ⟨gb453, 2, none⟩ = some (.int .i64 0) := (blk_cell BK453.out 2).trans rfl; have hfz14_0 := blk_frozen BK453.out 0; have hfz14_1 := blk_frozen BK453.out 1; have hfz14_2 := blk_frozen BK453.out 2; have p454 : 0 ≤ (x16_1 : Int) := dz; have q454 : x16_1 < (l1.length : Int) := dz; obtain ⟨ad454, e454, hx454_0⟩ := Kd.at_int HR1.out x16_1 p454 q454; cases e454; have hn454_0 : ad454.block ≠ gb453 := Nat.ne_of_lt (Nat.lt_of_lt_of_le (by have := World.block_lt_of_cell? _ _ hx454_0; first | rwa [add_block] at this | exact this) GW453.out); have hn454_1 : ad454.block ≠ gb453 := Nat.ne_of_lt (Nat.lt_of_lt_of_le (by have := World.block_lt_of_cell? _ _ hx454_0; first | rwa [add_block] at this | exact this) GW453.out); have hn454_2 : ad454.block ≠ gb453 := Nat.ne_of_lt (Nat.lt_of_lt_of_le (by have := World.block_lt_of_cell? _ _ hx454_0; first | rwa [add_block] at this | exact this) GW453.out); replace hx454_0 := xz HB hx454_0; replace hx454_0 := (cell_far (p := ⟨gb453, 0, none⟩) (by first | (rw [add_block]; exact hn454_0) | (show (Addr.add _ _).block ≠ _; rw [add_block]; exact hn454_0) | exact hn454_0) (.int .i64 ((rd_IVar l0_0 x16_1).f0))).trans hx454_0; replace hx454_0 := (cell_far (p := ⟨gb453, 1, none⟩) (by first | (rw [add_block]; exact hn454_1) | (show (Addr.add _ _).block ≠ _; rw [add_block]; exact hn454_1) | exact hn454_1) (.int .i64 ((rd_IVar l0_0 x16_1).f1))).trans hx454_0; replace hx454_0 := (cell_far (p := ⟨gb453, 2, none⟩) (by first | (rw [add_block]; exact hn454_2) | (show (Addr.add _ _).block ≠ _; rw [add_block]; exact hn454_2) | exact hn454_2) (.int .i64 ((rd_IVar l0_0 x16_1).f2))).trans hx454_0; (try have hy454_0 := fun (n_ : Nat) => (show (((((w12.drewN n_).setCell ⟨gb453, 0, none⟩ (.int .i64 ((rd_IVar l0_0 x16_1).f0))).setCell ⟨gb453, 1, none⟩ (.int .i64 ((rd_IVar l0_0 x16_1).f1))).setCell ⟨gb453, 2, none⟩ (.int .i64 ((rd_IVar l0_0 x16_1).f2)))).cell? _ = some _ from hx454_0)); clear hn454_0; clear hn454_1; clear hn454_2; replace p454 := eq_true p454; replace q454 := eq_true q454) | (go_at_call 69; (with_reducible refine (impl_in.calls (rd l1 x16_1) ((rd_IVar l0_0 x16_1).f0) ((rd_IVar l0_0 x16_1).f1) true _ A10.out).mono ?_); rintro e w' ⟨rfl, ⟨nd, rfl⟩⟩; (try first | exact ⟨rfl, _, World.drewN_drewN _ _ _⟩ | exact ⟨rfl, _, Eq.trans (World.drewN_drewN _ _ _) (congrArg (World.drewN _) (Nat.add_assoc _ _ _))⟩)))
         repeat (go_quiet (first | ((with_reducible refine gate_dst (N := 6) rfl ?_); refine box_event ?hg (N := 6) ?hd (cs := #[.int .i64 0, .int .i64 0, .int .i64 0]) (t := 62) ?hr ?_; (case hd => rfl); (case hg => rfl); (case hr => first | (go_simp; done) | (go_simp; rfl)); intro gb453 hg w12 hbox hb; have n0_ := Aside0.mk (blk_below (g := gb451) (o := .cells #[.slice (some ad452) l0_0.length c0_0, .slice A0_1 l0_1.length c0_1] 31 (0, 0)) (kz BK451) hb); have n1_ := Aside0.mk (below_step (bz1 HB GE451) hb); have n2_ := Aside0.mk (hbox); have n3_ := Aside0.mk ((by rw [hg]; exact (below_size (bz1 HB GE451)) : w.heap.size ≤ gb453)); have n4_ := Aside0.mk ((by rw [hg]; exact (below_size (bz1 HB GE451)) : w.heap.size ≤ gb453)); have n5_ := Aside0.mk ((by rw [hg]; exact Nat.ne_of_lt (blk_lt (g := gb451) (o := .cells #[.slice (some ad452) l0_0.length c0_0, .slice A0_1 l0_1.length c0_1] 31 (0, 0)) (kz BK451)) : gb451 ≠ gb453)); have n6_ := Aside0.mk ((by rw [hg]; exact Nat.ne_of_gt (blk_lt (g := gb451) (o := .cells #[.slice (some ad452) l0_0.length c0_0, .slice A0_1 l0_1.length c0_1] 31 (0, 0)) (kz BK451)) : gb453 ≠ gb451)); clear BK451; clear HB; have BK451 := n0_; have HB := n1_; have BK453 := n2_; have GW453 := n3_; have GE453 := n4_; have NB451_453 := n5_; have NB453_451 := n6_; clear n0_ n1_ n2_ n3_ n4_ n5_ n6_; clear hb hbox hg; have hnb13 := NB453_451.out; have hnc13 := NB451_453.out; have hcz14_0 : w12.cell? ⟨gb453, 0, none⟩ = some (.int .i64 0) := (blk_cell BK453.out 0).trans rfl; have hcz14_1 : w12.cell? ⟨gb453, 1, none⟩ = some (.int .i64 0) := (blk_cell BK453.out 1).trans rfl; have hcz14_2 : w12.cell? ⟨gb453, 2, none⟩ = some (.int .i64 0) := (blk_cell BK453.out 2).trans rfl; have hfz14_0 := blk_frozen BK453.out 0; have hfz14_1 := blk_frozen BK453.out 1; have hfz14_2 := blk_frozen BK453.out 2; have p454 : 0 ≤ (x16_1 : Int) := dz; have q454 : x16_1 < (l1.length : Int) := dz; obtain ⟨ad454, e454, hx454_0⟩ := Kd.at_int HR1.out x16_1 p454 q454; cases e454; have hn454_0 : ad454.block ≠ gb453 := Nat.ne_of_lt (Nat.lt_of_lt_of_le (by have := World.block_lt_of_cell? _ _ hx454_0; first | rwa [add_block] at this | exact this) GW453.out); have hn454_1 : ad454.block ≠ gb453 := Nat.ne_of_lt (Nat.lt_of_lt_of_le (by have := World.block_lt_of_cell? _ _ hx454_0; first | rwa [add_block] at this | exact this) GW453.out); have hn454_2 : ad454.block ≠ gb453 := Nat.ne_of_lt (Nat.lt_of_lt_of_le (by have := World.block_lt_of_cell? _ _ hx454_0; first | rwa [add_block] at this | exact this) GW453.out); replace hx454_0 := xz HB hx454_0; replace hx454_0 := (cell_far (p := ⟨gb453, 0, none⟩) (by first | (rw [add_block]; exact hn454_0) | (show (Addr.add _ _).block ≠ _; rw [add_block]; exact hn454_0) | exact hn454_0) (.int .i64 ((rd_IVar l0_0 x16_1).f0))).trans hx454_0; replace hx454_0 := (cell_far (p := ⟨gb453, 1, none⟩) (by first | (rw [add_block]; exact hn454_1) | (show (Addr.add _ _).block ≠ _; rw [add_block]; exact hn454_1) | exact hn454_1) (.int .i64 ((rd_IVar l0_0 x16_1).f1))).trans hx454_0; replace hx454_0 := (cell_far (p := ⟨gb453, 2, none⟩) (by first | (rw [add_block]; exact hn454_2) | (show (Addr.add _ _).block ≠ _; rw [add_block]; exact hn454_2) | exact hn454_2) (.int .i64 ((rd_IVar l0_0 x16_1).f2))).trans hx454_0; (try have hy454_0 := fun (n_ : Nat) => (show (((((w12.drewN n_).setCell ⟨gb453, 0, none⟩ (.int .i64 ((rd_IVar l0_0 x16_1).f0))).setCell ⟨gb453, 1, none⟩ (.int .i64 ((rd_IVar l0_0 x16_1).f1))).setCell ⟨gb453, 2, none⟩ (.int .i64 ((rd_IVar l0_0 x16_1).f2)))).cell? _ = some _ from hx454_0)); clear hn454_0; clear hn454_1; clear hn454_2; replace p454 := eq_true p454; replace q454 := eq_true q454) | (go_at_call 69; (with_reducible refine (impl_in.calls (rd l1 x16_1) ((rd_IVar l0_0 x16_1).f0) ((rd_IVar l0_0 x16_1).f1) true _ A10.out).mono ?_); rintro e w' ⟨rfl, ⟨nd, rfl⟩⟩; (try first | exact ⟨rfl, _, World.drewN_drewN _ _ _⟩ | exact ⟨rfl, _, Eq.trans (World.drewN_drewN _ _ _) (congrArg (World.drewN _) (Nat.add_assoc _ _ _))⟩))); try go_wp2_with (first | ((with_reducible refine gate_dst (N := 6) rfl ?_); refine box_event ?hg (N := 6) ?hd (cs := #[.int .i64 0, .int .i64 0, .int .i64 0]) (t := 62) ?hr ?_; (case hd => rfl); (case hg => rfl); (case hr => first | (go_simp; done) | (go_simp; rfl)); intro gb453 hg w12 hbox hb; have n0_ := Aside0.mk (blk_below (g := gb451) (o := .cells #[.slice (some ad452) l0_0.length c0_0, .slice A0_1 l0_1.length c0_1] 31 (0, 0)) (kz BK451) hb); have n1_ := Aside0.mk (below_step (bz1 HB GE451) hb); have n2_ := Aside0.mk (hbox); have n3_ := Aside0.mk ((by rw [hg]; exact (below_size (bz1 HB GE451)) : w.heap.size ≤ gb453)); have n4_ := Aside0.mk ((by rw [hg]; exact (below_size (bz1 HB GE451)) : w.heap.size ≤ gb453)); have n5_ := Aside0.mk ((by rw [hg]; exact Nat.ne_of_lt (blk_lt (g := gb451) (o := .cells #[.slice (some ad452) l0_0.length c0_0, .slice A0_1 l0_1.length c0_1] 31 (0, 0)) (kz BK451)) : gb451 ≠ gb453)); have n6_ := Aside0.mk ((by rw [hg]; exact Nat.ne_of_gt (blk_lt (g := gb451) (o := .cells #[.slice (some ad452) l0_0.length c0_0, .slice A0_1 l0_1.length c0_1] 31 (0, 0)) (kz BK451)) : gb453 ≠ gb451)); clear BK451; clear HB; have BK451 := n0_; have HB := n1_; have BK453 := n2_; have GW453 := n3_; have GE453 := n4_; have NB451_453 := n5_; have NB453_451 := n6_; clear n0_ n1_ n2_ n3_ n4_ n5_ n6_; clear hb hbox hg; have hnb13 := NB453_451.out; have hnc13 := NB451_453.out; have hcz14_0 : w12.cell? ⟨gb453, 0, none⟩ = some (.int .i64 0) := (blk_cell BK453.out 0).trans rfl; have hcz14_1 : w12.cell? ⟨gb453, 1, none⟩ = some (.int .i64 0) := (blk_cell BK453.out 1).trans rfl; have hcz14_2 : w12.cell? ⟨gb453, 2, none⟩ = some (.int .i64 0) := (blk_cell BK453.out 2).trans rfl; have hfz14_0 := blk_frozen BK453.out 0; have hfz14_1 := blk_frozen BK453.out 1; have hfz14_2 := blk_frozen BK453.out 2; have p454 : 0 ≤ (x16_1 : Int) := dz; have q454 : x16_1 < (l1.length : Int) := dz; obtain ⟨ad454, e454, hx454_0⟩ := Kd.at_int HR1.out x16_1 p454 q454; cases e454; have hn454_0 : ad454.block ≠ gb453 := Nat.ne_of_lt (Nat.lt_of_lt_of_le (by have := World.block_lt_of_cell? _ _ hx454_0; first | rwa [add_block] at this | exact this) GW453.out); have hn454_1 : ad454.block ≠ gb453 := Nat.ne_of_lt (Nat.lt_of_lt_of_le (by have := World.block_lt_of_cell? _ _ hx454_0; first | rwa [add_block] at this | exact this) GW453.out); have hn454_2 : ad454.block ≠ gb453 := Nat.ne_of_lt (Nat.lt_of_lt_of_le (by have := World.block_lt_of_cell? _ _ hx454_0; first | rwa [add_block] at this | exact this) GW453.out); replace hx454_0 := xz HB hx454_0; replace hx454_0 := (cell_far (p := ⟨gb453, 0, none⟩) (by first | (rw [add_block]; exact hn454_0) | (show (Addr.add _ _).block ≠ _; rw [add_block]; exact hn454_0) | exact hn454_0) (.int .i64 ((rd_IVar l0_0 x16_1).f0))).trans hx454_0; replace hx454_0 := (cell_far (p := ⟨gb453, 1, none⟩) (by first | (rw [add_block]; exact hn454_1) | (show (Addr.add _ _).block ≠ _; rw [add_block]; exact hn454_1) | exact hn454_1) (.int .i64 ((rd_IVar l0_0 x16_1).f1))).trans hx454_0; replace hx454_0 := (cell_far (p := ⟨gb453, 2, none⟩) (by first | (rw [add_block]; exact hn454_2) | (show (Addr.add _ _).block ≠ _; rw [add_block]; exact hn454_2) | exact hn454_2) (.int .i64 ((rd_IVar l0_0 x16_1).f2))).trans hx454_0; (try have hy454_0 := fun (n_ : Nat) => (show (((((w12.drewN n_).setCell ⟨gb453, 0, none⟩ (.int .i64 ((rd_IVar l0_0 x16_1).f0))).setCell ⟨gb453, 1, none⟩ (.int .i64 ((rd_IVar l0_0 x16_1).f1))).setCell ⟨gb453, 2, none⟩ (.int .i64 ((rd_IVar l0_0 x16_1).f2)))).cell? _ = some _ from hx454_0)); clear hn454_0; clear hn454_1; clear hn454_2; replace p454 := eq_true p454; replace q454 := eq_true q454) | (go_at_call 69; (with_reducible refine (impl_in.calls (rd l1 x16_1) ((rd_IVar l0_0 x16_1).f0) ((rd_IVar l0_0 x16_1).f1) true _ A10.out).mono ?_); rintro e w' ⟨rfl, ⟨nd, rfl⟩⟩; (try first | exact ⟨rfl, _, World.drewN_drewN _ _ _⟩ | exact ⟨rfl, _, Eq.trans (World.drewN_drewN _ _ _) (congrArg (World.drewN _) (Nat.add_assoc _ _ _))⟩))))
         go_roundg k1
         case measure => have := HK1.out; omega
         case rel => exact ⟨(wrap64 (x16_1 + 1)), rq, H', ⟨by have := HK1.out; omega⟩, ⟨by (with_reducible repeat (first | refine blk_drewN ?_ _ | refine blk_drew ?_ | refine blk_alloc ?_ _)); refine blk_far ?_ NB451_453.out _; (with_reducible repeat (first | refine blk_drewN ?_ _ | refine blk_drew ?_ | refine blk_alloc ?_ _)); refine blk_far ?_ NB451_453.out _; (with_reducible repeat (first | refine blk_drewN ?_ _ | refine blk_drew ?_ | refine blk_alloc ?_ _)); refine blk_far ?_ NB451_453.out _; exact kz BK451⟩, ⟨bz2 HB GE451 GE453⟩⟩
        ·
         replace c11 := Bool.eq_false_iff.mpr c11
         subst c11
         rw [if_neg nt_] at H
         obtain rfl := Option.some.inj H
         have p452 : 0 ≤ (x16_1 : Int) := dz
         have q452 : x16_1 < (l0_0.length : Int) := dz
         obtain ⟨ad452, e452, hx452_0, hx452_1, hx452_2⟩ := at_IVar HR0_0.out x16_1 p452 q452
         cases e452
         replace hx452_0 := xz HB hx452_0
         replace hx452_1 := xz HB hx452_1
         replace hx452_2 := xz HB hx452_2
         replace p452 := eq_true p452
         replace q452 := eq_true q452
         go_wp2_with (first | ((with_reducible refine gate_dst (N := 6) rfl ?_); refine box_event ?hg (N := 6) ?hd (cs := #[.int .i64 0, .int .i64 0, .int .i64 0]) (t := 62) ?hr ?_; (case hd => rfl); (case hg => rfl); (case hr => first | (go_simp; done) | (go_simp; rfl)); intro gb453 hg w15 hbox hb; have n0_ := Aside0.mk (blk_below (g := gb451) (o := .cells #[.slice (some ad452) l0_0.length c0_0, .slice A0_1 l0_1.length c0_1] 31 (0, 0)) (kz BK451) hb); have n1_ := Aside0.mk (below_step (bz1 HB GE451) hb); have n2_ := Aside0.mk (hbox); have n3_ := Aside0.mk ((by rw [hg]; exact (below_size (bz1 HB GE451)) : w.heap.size ≤ gb453)); have n4_ := Aside0.mk ((by rw [hg]; exact (below_size (bz1 HB GE451)) : w.heap.size ≤ gb453)); have n5_ := Aside0.mk ((by rw [hg]; exact Nat.ne_of_lt (blk_lt (g := gb451) (o := .cells #[.slice (some ad452) l0_0.length c0_0, .slice A0_1 l0_1.length c0_1] 31 (0, 0)) (kz BK451)) : gb451 ≠ gb453)); have n6_ := Aside0.mk ((by rw [hg]; exact Nat.ne_of_gt (blk_lt (g := gb451) (o := .cells #[.slice (some ad452) l0_0.length c0_0, .slice A0_1 l0_1.length c0_1] 31 (0, 0)) (kz BK451)) : gb453 ≠ gb451)); clear BK451; clear HB; have BK451 := n0_; have HB := n1_; have BK453 := n2_; have GW453 := n3_; have GE453 := n4_; have NB451_453 := n5_; have NB453_451 := n6_; clear n0_ n1_ n2_ n3_ n4_ n5_ n6_; clear hb hbox hg; have hnb16 := NB453_451.out; have hnc16 := NB451_453.out; have hcz17_0 : w15.cell? ⟨gb453, 0, none⟩ = some (.int .i64 0) := (blk_cell BK453.out 0).trans rfl; have hcz17_1 : w15.cell? ⟨gb453, 1, none⟩ = some (.int .i64 0) := (blk_cell BK453.out 1).trans rfl; have hcz17_2 : w15.cell? ⟨gb453, 2, none⟩ = some (.int .i64 0) := (blk_cell BK453.out 2).trans rfl; have hfz17_0 := blk_frozen BK453.out 0; have hfz17_1 := blk_frozen BK453.out 1; have hfz17_2 := blk_frozen BK453.out 2; have p454 : 0 ≤ (x16_1 : Int) := dz; have q454 : x16_1 < (l1.length : Int) := dz; obtain ⟨ad454, e454, hx454_0⟩ := Kd.at_int HR1.out x16_1 p454 q454; cases e454; have hn454_0 : ad454.block ≠ gb453 := Nat.ne_of_lt (Nat.lt_of_lt_of_le (by have := World.block_lt_of_cell? _ _ hx454_0; first | rwa [add_block] at this | exact this) GW453.out); have hn454_1 : ad454.block ≠ gb453 := Nat.ne_of_lt (Nat.lt_of_lt_of_le (by have := World.block_lt_of_cell? _ _ hx454_0; first | rwa [add_block] at this | exact this) GW453.out); have hn454_2 : ad454.block ≠ gb453 := Nat.ne_of_lt (Nat.lt_of_lt_of_le (by have := World.block_lt_of_cell? _ _ hx454_0; first | rwa [add_block] at this | exact this) GW453.out); replace hx454_0 := xz HB hx454_0; replace hx454_0 := (cell_far (p := ⟨gb453, 0, none⟩) (by first | (rw [add_block]; exact hn454_0) | (show (Addr.add _ _).block ≠ _; rw [add_block]; exact hn454_0) | exact hn454_0) (.int .i64 ((rd_IVar l0_0 x16_1).f0))).trans hx454_0; replace hx454_0 := (cell_far (p := ⟨gb453, 1, none⟩) (by first | (rw [add_block]; exact hn454_1) | (show (Addr.add _ _).block ≠ _; rw [add_block]; exact hn454_1) | exact hn454_1) (.int .i64 ((rd_IVar l0_0 x16_1).f1))).trans hx454_0; replace hx454_0 := (cell_far (p := ⟨gb453, 2, none⟩) (by first | (rw [add_block]; exact hn454_2) | (show (Addr.add _ _).block ≠ _; rw [add_block]; exact hn454_2) | exact hn454_2) (.int .i64 ((rd_IVar l0_0 x16_1).f2))).trans hx454_0; (try have hy454_0 := fun (n_ : Nat) => (show (((((w15.drewN n_).setCell ⟨gb453, 0, none⟩ (.int .i64 ((rd_IVar l0_0 x16_1).f0))).setCell ⟨gb453, 1, none⟩ (.int .i64 ((rd_IVar l0_0 x16_1).f1))).setCell ⟨gb453, 2, none⟩ (.int .i64 ((rd_IVar l0_0 x16_1).f2)))).cell? _ = some _ from hx454_0)); clear hn454_0; clear hn454_1; clear hn454_2; replace p454 := eq_true p454; replace q454 := eq_true q454) | (go_at_call 69; (with_reducible refine (impl_in.calls (rd l1 x16_1) ((rd_IVar l0_0 x16_1).f0) ((rd_IVar l0_0 x16_1).f1) false _ A10.out).mono ?_); rintro e w' ⟨rfl, ⟨nd, rfl⟩⟩; (try first | exact ⟨rfl, _, World.drewN_drewN _ _ _⟩ | exact ⟨rfl, _, Eq.trans (World.drewN_drewN _ _ _) (congrArg (World.drewN _) (Nat.add_assoc _ _ _))⟩)))
         repeat (go_quiet (first | ((with_reducible refine gate_dst (N := 6) rfl ?_); refine box_event ?hg (N := 6) ?hd (cs := #[.int .i64 0, .int .i64 0, .int .i64 0]) (t := 62) ?hr ?_; (case hd => rfl); (case hg => rfl); (case hr => first | (go_simp; done) | (go_simp; rfl)); intro gb453 hg w15 hbox hb; have n0_ := Aside0.mk (blk_below (g := gb451) (o := .cells #[.slice (some ad452) l0_0.length c0_0, .slice A0_1 l0_1.length c0_1] 31 (0, 0)) (kz BK451) hb); have n1_ := Aside0.mk (below_step (bz1 HB GE451) hb); have n2_ := Aside0.mk (hbox); have n3_ := Aside0.mk ((by rw [hg]; exact (below_size (bz1 HB GE451)) : w.heap.size ≤ gb453)); have n4_ := Aside0.mk ((by rw [hg]; exact (below_size (bz1 HB GE451)) : w.heap.size ≤ gb453)); have n5_ := Aside0.mk ((by rw [hg]; exact Nat.ne_of_lt (blk_lt (g := gb451) (o := .cells #[.slice (some ad452) l0_0.length c0_0, .slice A0_1 l0_1.length c0_1] 31 (0, 0)) (kz BK451)) : gb451 ≠ gb453)); have n6_ := Aside0.mk ((by rw [hg]; exact Nat.ne_of_gt (blk_lt (g := gb451) (o := .cells #[.slice (some ad452) l0_0.length c0_0, .slice A0_1 l0_1.length c0_1] 31 (0, 0)) (kz BK451)) : gb453 ≠ gb451)); clear BK451; clear HB; have BK451 := n0_; have HB := n1_; have BK453 := n2_; have GW453 := n3_; have GE453 := n4_; have NB451_453 := n5_; have NB453_451 := n6_; clear n0_ n1_ n2_ n3_ n4_ n5_ n6_; clear hb hbox hg; have hnb16 := NB453_451.out; have hnc16 := NB451_453.out; have hcz17_0 : w15.cell? ⟨gb453, 0, none⟩ = some (.int .i64 0) := (blk_cell BK453.out 0).trans rfl; have hcz17_1 : w15.cell? ⟨gb453, 1, none⟩ = some (.int .i64 0) := (blk_cell BK453.out 1).trans rfl; have hcz17_2 : w15.cell? ⟨gb453, 2, none⟩ = some (.int .i64 0) := (blk_cell BK453.out 2).trans rfl; have hfz17_0 := blk_frozen BK453.out 0; have hfz17_1 := blk_frozen BK453.out 1; have hfz17_2 := blk_frozen BK453.out 2; have p454 : 0 ≤ (x16_1 : Int) := dz; have q454 : x16_1 < (l1.length : Int) := dz; obtain ⟨ad454, e454, hx454_0⟩ := Kd.at_int HR1.out x16_1 p454 q454; cases e454; have hn454_0 : ad454.block ≠ gb453 := Nat.ne_of_lt (Nat.lt_of_lt_of_le (by have := World.block_lt_of_cell? _ _ hx454_0; first | rwa [add_block] at this | exact this) GW453.out); have hn454_1 : ad454.block ≠ gb453 := Nat.ne_of_lt (Nat.lt_of_lt_of_le (by have := World.block_lt_of_cell? _ _ hx454_0; first | rwa [add_block] at this | exact this) GW453.out); have hn454_2 : ad454.block ≠ gb453 := Nat.ne_of_lt (Nat.lt_of_lt_of_le (by have := World.block_lt_of_cell? _ _ hx454_0; first | rwa [add_block] at this | exact this) GW453.out); replace hx454_0 := xz HB hx454_0; replace hx454_0 := (cell_far (p := ⟨gb453, 0, none⟩) (by first | (rw [add_block]; exact hn454_0) | (show (Addr.add _ _).block ≠ _; rw [add_block]; exact hn454_0) | exact hn454_0) (.int .i64 ((rd_IVar l0_0 x16_1).f0))).trans hx454_0; replace hx454_0 := (cell_far (p := ⟨gb453, 1, none⟩) (by first | (rw [add_block]; exact hn454_1) | (show (Addr.add _ _).block ≠ _; rw [add_block]; exact hn454_1) | exact hn454_1) (.int .i64 ((rd_IVar l0_0 x16_1).f1))).trans hx454_0; replace hx454_0 := (cell_far (p := ⟨gb453, 2, none⟩) (by first | (rw [add_block]; exact hn454_2) | (show (Addr.add _ _).block ≠ _; rw [add_block]; exact hn454_2) | exact hn454_2) (.int .i64 ((rd_IVar l0_0 x16_1).f2))).trans hx454_0; (try have hy454_0 := fun (n_ : Nat) => (show (((((w15.drewN n_).setCell ⟨gb453, 0, none⟩ (.int .i64 ((rd_IVar l0_0 x16_1).f0))).setCell ⟨gb453, 1, none⟩ (.int .i64 ((rd_IVar l0_0 x16_1).f1))).setCell ⟨gb453, 2, none⟩ (.int .i64 ((rd_IVar l0_0 x16_1).f2)))).cell? _ = some _ from hx454_0)); clear hn454_0; clear hn454_1; clear hn454_2; replace p454 := eq_true p454; replace q454 := eq_true q454) | (go_at_call 69; (with_reducible refine (impl_in.calls (rd l1 x16_1) ((rd_IVar l0_0 x16_1).f0) ((rd_IVar l0_0 x16_1).f1) false _ A10.out).mono ?_); rintro e w' ⟨rfl, ⟨nd, rfl⟩⟩; (try first | exact ⟨rfl, _, World.drewN_drewN _ _ _⟩ | exact ⟨rfl, _, Eq.trans (World.drewN_drewN _ _ _) (congrArg (World.drewN _) (Nat.add_assoc _ _ _))⟩))); try go_wp2_with (first | ((with_reducible refine gate_dst (N := 6) rfl ?_); refine box_event ?hg (N := 6) ?hd (cs := #[.int .i64 0, .int .i64 0, .int .i64 0]) (t := 62) ?hr ?_; (case hd => rfl); (case hg => rfl); (case hr => first | (go_simp; done) | (go_simp; rfl)); intro gb453 hg w15 hbox hb; have n0_ := Aside0.mk (blk_below (g := gb451) (o := .cells #[.slice (some ad452) l0_0.length c0_0, .slice A0_1 l0_1.length c0_1] 31 (0, 0)) (kz BK451) hb); have n1_ := Aside0.mk (below_step (bz1 HB GE451) hb); have n2_ := Aside0.mk (hbox); have n3_ := Aside0.mk ((by rw [hg]; exact (below_size (bz1 HB GE451)) : w.heap.size ≤ gb453)); have n4_ := Aside0.mk ((by rw [hg]; exact (below_size (bz1 HB GE451)) : w.heap.size ≤ gb453)); have n5_ := Aside0.mk ((by rw [hg]; exact Nat.ne_of_lt (blk_lt (g := gb451) (o := .cells #[.slice (some ad452) l0_0.length c0_0, .slice A0_1 l0_1.length c0_1] 31 (0, 0)) (kz BK451)) : gb451 ≠ gb453)); have n6_ := Aside0.mk ((by rw [hg]; exact Nat.ne_of_gt (blk_lt (g := gb451) (o := .cells #[.slice (some ad452) l0_0.length c0_0, .slice A0_1 l0_1.length c0_1] 31 (0, 0)) (kz BK451)) : gb453 ≠ gb451)); clear BK451; clear HB; have BK451 := n0_; have HB := n1_; have BK453 := n2_; have GW453 := n3_; have GE453 := n4_; have NB451_453 := n5_; have NB453_451 := n6_; clear n0_ n1_ n2_ n3_ n4_ n5_ n6_; clear hb hbox hg; have hnb16 := NB453_451.out; have hnc16 := NB451_453.out; have hcz17_0 : w15.cell? ⟨gb453, 0, none⟩ = some (.int .i64 0) := (blk_cell BK453.out 0).trans rfl; have hcz17_1 : w15.cell? ⟨gb453, 1, none⟩ = some (.int .i64 0) := (blk_cell BK453.out 1).trans rfl; have hcz17_2 : w15.cell? ⟨gb453, 2, none⟩ = some (.int .i64 0) := (blk_cell BK453.out 2).trans rfl; have hfz17_0 := blk_frozen BK453.out 0; have hfz17_1 := blk_frozen BK453.out 1; have hfz17_2 := blk_frozen BK453.out 2; have p454 : 0 ≤ (x16_1 : Int) := dz; have q454 : x16_1 < (l1.length : Int) := dz; obtain ⟨ad454, e454, hx454_0⟩ := Kd.at_int HR1.out x16_1 p454 q454; cases e454; have hn454_0 : ad454.block ≠ gb453 := Nat.ne_of_lt (Nat.lt_of_lt_of_le (by have := World.block_lt_of_cell? _ _ hx454_0; first | rwa [add_block] at this | exact this) GW453.out); have hn454_1 : ad454.block ≠ gb453 := Nat.ne_of_lt (Nat.lt_of_lt_of_le (by have := World.block_lt_of_cell? _ _ hx454_0; first | rwa [add_block] at this | exact this) GW453.out); have hn454_2 : ad454.block ≠ gb453 := Nat.ne_of_lt (Nat.lt_of_lt_of_le (by have := World.block_lt_of_cell? _ _ hx454_0; first | rwa [add_block] at this | exact this) GW453.out); replace hx454_0 := xz HB hx454_0; replace hx454_0 := (cell_far (p := ⟨gb453, 0, none⟩) (by first | (rw [add_block]; exact hn454_0) | (show (Addr.add _ _).block ≠ _; rw [add_block]; exact hn454_0) | exact hn454_0) (.int .i64 ((rd_IVar l0_0 x16_1).f0))).trans hx454_0; replace hx454_0 := (cell_far (p := ⟨gb453, 1, none⟩) (by first | (rw [add_block]; exact hn454_1) | (show (Addr.add _ _).block ≠ _; rw [add_block]; exact hn454_1) | exact hn454_1) (.int .i64 ((rd_IVar l0_0 x16_1).f1))).trans hx454_0; replace hx454_0 := (cell_far (p := ⟨gb453, 2, none⟩) (by first | (rw [add_block]; exact hn454_2) | (show (Addr.add _ _).block ≠ _; rw [add_block]; exact hn454_2) | exact hn454_2) (.int .i64 ((rd_IVar l0_0 x16_1).f2))).trans hx454_0; (try have hy454_0 := fun (n_ : Nat) => (show (((((w15.drewN n_).setCell ⟨gb453, 0, none⟩ (.int .i64 ((rd_IVar l0_0 x16_1).f0))).setCell ⟨gb453, 1, none⟩ (.int .i64 ((rd_IVar l0_0 x16_1).f1))).setCell ⟨gb453, 2, none⟩ (.int .i64 ((rd_IVar l0_0 x16_1).f2)))).cell? _ = some _ from hx454_0)); clear hn454_0; clear hn454_1; clear hn454_2; replace p454 := eq_true p454; replace q454 := eq_true q454) | (go_at_call 69; (with_reducible refine (impl_in.calls (rd l1 x16_1) ((rd_IVar l0_0 x16_1).f0) ((rd_IVar l0_0 x16_1).f1) false _ A10.out).mono ?_); rintro e w' ⟨rfl, ⟨nd, rfl⟩⟩; (try first | exact ⟨rfl, _, World.drewN_drewN _ _ _⟩ | exact ⟨rfl, _, Eq.trans (World.drewN_drewN _ _ _) (congrArg (World.drewN _) (Nat.add_assoc _ _ _))⟩))))
         go_ret
         exact ⟨rz, bz2 HB GE451 GE453⟩
       ·
        rw [if_neg c9] at H
        exact absurd H (by simp)
      ·
       rw [if_neg c8] at H
       exact absurd H (by simp)
     ·
      rw [if_neg c7] at H
      exact absurd H (by simp)
    ·
     rw [if_neg c6] at H
     have c6b0 : decide (x16_1 < (l0_0.length : Int)) = false := decide_eq_false c6
     clear c6
     obtain rfl := Option.some.inj H
     go_wp2
     repeat (go_quiet (fail); try go_wp2)
     go_ret
     exact ⟨rz, bz1 HB GE451⟩
 ·
  rw [if_neg c3] at H
  have c3b0 : ((l1.length : Int) == (l0_0.length : Int)) = false := beq_eq_false_iff_ne.mpr c3
  have c3b1 : ((l1.length : Int) != (l0_0.length : Int)) = true := bne_iff_ne.mpr c3
  have c3b2 : (l1.length == l0_0.length) = false := by first | simpa using c3 | (simp at c3 ⊢; omega)
  obtain rfl := Option.some.inj H
  go_enter Try.func74, Try.ntmps74
  go_wp2_with (first | ((with_reducible refine gate_dst (N := 2) rfl ?_); refine box_event ?hg (N := 2) ?hd (cs := #[.slice A0_0 l0_0.length c0_0, .slice A0_1 l0_1.length c0_1]) (t := 31) ?hr ?_; (case hd => rfl); (case hg => rfl); (case hr => first | (go_simp; done) | (go_simp; rfl)); intro gb451 hg w18 hbox hb; have n0_ := Aside0.mk (below_step (bz HB) hb); have n1_ := Aside0.mk (hbox); have n2_ := Aside0.mk ((by rw [hg]; exact (below_size (bz HB)) : w.heap.size ≤ gb451)); have n3_ := Aside0.mk ((by rw [hg]; exact (below_size (bz HB)) : w.heap.size ≤ gb451)); clear HB; have HB := n0_; have BK451 := n1_; have GW451 := n2_; have GE451 := n3_; clear n0_ n1_ n2_ n3_; clear hb hbox hg; have hcz19_0 : w18.cell? ⟨gb451, 0, none⟩ = some (.slice A0_0 l0_0.length c0_0) := (blk_cell BK451.out 0).trans rfl; have hcz19_1 : w18.cell? ⟨gb451, 1, none⟩ = some (.slice A0_1 l0_1.length c0_1) := (blk_cell BK451.out 1).trans rfl; have hfz19_0 := blk_frozen BK451.out 0; have hfz19_1 := blk_frozen BK451.out 1))
  repeat (go_quiet (first | ((with_reducible refine gate_dst (N := 2) rfl ?_); refine box_event ?hg (N := 2) ?hd (cs := #[.slice A0_0 l0_0.length c0_0, .slice A0_1 l0_1.length c0_1]) (t := 31) ?hr ?_; (case hd => rfl); (case hg => rfl); (case hr => first | (go_simp; done) | (go_simp; rfl)); intro gb451 hg w18 hbox hb; have n0_ := Aside0.mk (below_step (bz HB) hb); have n1_ := Aside0.mk (hbox); have n2_ := Aside0.mk ((by rw [hg]; exact (below_size (bz HB)) : w.heap.size ≤ gb451)); have n3_ := Aside0.mk ((by rw [hg]; exact (below_size (bz HB)) : w.heap.size ≤ gb451)); clear HB; have HB := n0_; have BK451 := n1_; have GW451 := n2_; have GE451 := n3_; clear n0_ n1_ n2_ n3_; clear hb hbox hg; have hcz19_0 : w18.cell? ⟨gb451, 0, none⟩ = some (.slice A0_0 l0_0.length c0_0) := (blk_cell BK451.out 0).trans rfl; have hcz19_1 : w18.cell? ⟨gb451, 1, none⟩ = some (.slice A0_1 l0_1.length c0_1) := (blk_cell BK451.out 1).trans rfl; have hfz19_0 := blk_frozen BK451.out 0; have hfz19_1 := blk_frozen BK451.out 1)); try go_wp2_with (first | ((with_reducible refine gate_dst (N := 2) rfl ?_); refine box_event ?hg (N := 2) ?hd (cs := #[.slice A0_0 l0_0.length c0_0, .slice A0_1 l0_1.length c0_1]) (t := 31) ?hr ?_; (case hd => rfl); (case hg => rfl); (case hr => first | (go_simp; done) | (go_simp; rfl)); intro gb451 hg w18 hbox hb; have n0_ := Aside0.mk (below_step (bz HB) hb); have n1_ := Aside0.mk (hbox); have n2_ := Aside0.mk ((by rw [hg]; exact (below_size (bz HB)) : w.heap.size ≤ gb451)); have n3_ := Aside0.mk ((by rw [hg]; exact (below_size (bz HB)) : w.heap.size ≤ gb451)); clear HB; have HB := n0_; have BK451 := n1_; have GW451 := n2_; have GE451 := n3_; clear n0_ n1_ n2_ n3_; clear hb hbox hg; have hcz19_0 : w18.cell? ⟨gb451, 0, none⟩ = some (.slice A0_0 l0_0.length c0_0) := (blk_cell BK451.out 0).trans rfl; have hcz19_1 : w18.cell? ⟨gb451, 1, none⟩ = some (.slice A0_1 l0_1.length c0_1) := (blk_cell BK451.out 1).trans rfl; have hfz19_0 := blk_frozen BK451.out 0; have hfz19_1 := blk_frozen BK451.out 1)))
  go_ret
  exact ⟨rz, bz1 HB GE451⟩
end Go.Proofs.Ytoofhjflfpccdaa.PA
end
section
namespace Go.Proofs.Ytoofhjflfpccdaa.PA
open Go.RowKit Go.Proofs.YtoofhjflfpccdaaW.PrintWords Go.Proofs.YtoofhjflfpccdaaW.PrintLast Go.Proofs.YtoofhjflfpccdaaW.PrintMore
attribute [local go_sem] max2_int min2_int max_two min_two max_three min_three max_four min_four   -- for this text's walks alone
set_option linter.unusedVariables false
set_option linter.unusedSimpArgs false
set_option maxHeartbeats 8000000 in
set_option maxRecDepth 100000 in
theorem impl_InRange.calls (k : Nat) (A0_0 : Option Addr) (c0_0 : Nat) (l0_0 : List (IVar)) (A0_1 : Option Addr) (c0_1 : Nat) (l0_1 : List (IRule)) (A1 : Option Addr) (c1 : Nat) (l1 : List Int) (r : Bool) (w : World) (hr0_0 : Kd.C k62 w A0_0 l0_0.length l0_0) (hc0_0 : l0_0.length ≤ c0_0) (hr0_1 : Kd.C k81 w A0_1 l0_1.length l0_1) (hc0_1 : l0_1.length ≤ c0_1) (hr1 : Kd.C (Kd.int .i64) w A1 l1.length l1) (hc1 : l1.length ≤ c1) (h : impl_InRange.f k l0_0 l0_1 l1 = some r) :
  Calls Try.prog 63 #[.agg #[.slice A0_0 l0_0.length c0_0, .slice A0_1 l0_1.length c0_1], .slice A1 l1.length c1] w fun e w' => e = .returned (.bool r) ∧ Below w.heap.size w w' := by
 have hu31 := Try.underlying31
 have HR0_0 := Aside0.mk hr0_0
 have HC0_0 := Aside0.mk hc0_0
 clear hr0_0 hc0_0
 have HR0_1 := Aside0.mk hr0_1
 have HC0_1 := Aside0.mk hc0_1
 clear hr0_1 hc0_1
 have HR1 := Aside0.mk hr1
 have HC1 := Aside0.mk hc1
 clear hr1 hc1
 have HB := Aside0.mk (Below.refl w.heap.size w)
 have H : ((impl_SystemValid.f k l0_0 l0_1).bind fun t457 => (if t457 = true then ((impl_inRange.f k l0_0 l0_1 l1).bind fun t458 => (some t458)) else (some false))) = some r := h
 clear h
 replace H := Option.bind_eq_some_iff.mp H
 obtain ⟨t457, A30, H⟩ := H
 have A3 := Aside0.mk A30
 clear A30
 by_cases c4 : t457 = true
 ·
  subst c4
  rw [if_pos rfl] at H
  replace H := Option.bind_eq_some_iff.mp H
  obtain ⟨t458, A50, H⟩ := H
  have A5 := Aside0.mk A50
  clear A50
  obtain rfl := Option.some.inj H
  go_enter Try.func63, Try.ntmps63
  go_wp2_with (first | ((with_reducible refine gate_dst (N := 2) rfl ?_); refine box_event ?hg (N := 2) ?hd (cs := #[.slice A0_0 l0_0.length c0_0, .slice A0_1 l0_1.length c0_1]) (t := 31) ?hr ?_; (case hd => rfl); (case hg => rfl); (case hr => first | (go_simp; done) | (go_simp; rfl)); intro gb456 hg w6 hbox hb; have n0_ := Aside0.mk (below_step (bz HB) hb); have n1_ := Aside0.mk (hbox); have n2_ := Aside0.mk ((by rw [hg]; exact (below_size (bz HB)) : w.heap.size ≤ gb456)); have n3_ := Aside0.mk ((by rw [hg]; exact (below_size (bz HB)) : w.heap.size ≤ gb456)); clear HB; have HB := n0_; have BK456 := n1_; have GW456 := n2_; have GE456 := n3_; clear n0_ n1_ n2_ n3_; clear hb hbox hg; have hcz7_0 : w6.cell? ⟨gb456, 0, none⟩ = some (.slice A0_0 l0_0.length c0_0) := (blk_cell BK456.out 0).trans rfl; have hcz7_1 : w6.cell? ⟨gb456, 1, none⟩ = some (.slice A0_1 l0_1.length c0_1) := (blk_cell BK456.out 1).trans rfl; have hfz7_0 := blk_frozen BK456.out 0; have hfz7_1 := blk_frozen BK456.out 1) | ((with_reducible refine gate_callee (f := 57) rfl ?_); refine goesL_ (some 6) rfl rfl Try.func57 (by kernel_rfl) rfl #[.agg #[.slice A0_0 l0_0.length c0_0, .slice A0_1 l0_1.length c0_1]] rfl az ?_; (with_reducible refine (impl_SystemValid.calls k _ _ l0_0 _ _ l0_1 true _ ?side1 ?side2 ?side3 ?side4 A3.out).mono ?_); (case side1 => exact cz HR0_0 HB); (case side2 => exact HC0_0.out); (case side3 => exact cz HR0_1 HB); (case side4 => exact HC0_1.out); rintro e w8 ⟨rfl, hb⟩; refine ⟨_, rfl, ?_⟩; replace BK456 := Aside0.mk (blk_below (g := gb456) (o := .cells #[.slice A0_0 l0_0.length c0_0, .slice A0_1 l0_1.length c0_1] 31 (0, 0)) (kz BK456) hb); replace HB := Aside0.mk (below_step (bz1 HB GE456) hb); clear hb; have hcz9_0 : w8.cell? ⟨gb456, 0, none⟩ = some (.slice A0_0 l0_0.length c0_0) := (blk_cell BK456.out 0).trans rfl; have hcz9_1 : w8.cell? ⟨gb456, 1, none⟩ = some (.slice A0_1 l0_1.length c0_1) := (blk_cell BK456.out 1).trans rfl; have hfz9_0 := blk_frozen BK456.out 0; have hfz9_1 := blk_frozen BK456.out 1) | (go_at_call 74; (with_reducible refine (impl_inRange.calls k _ _ l0_0 _ _ l0_1 _ _ l1 t458 _ ?side1 ?side2 ?side3 ?side4 ?side5 HC1.out A5.out).mono ?_); (case side1 => exact cz HR0_0 HB); (case side2 => exact HC0_0.out); (case side3 => exact cz HR0_1 HB); (case side4 => exact HC0_1.out); (case side5 => exact cz HR1 HB); rintro e w10 ⟨rfl, hb⟩; replace BK456 := Aside0.mk (blk_below (g := gb456) (o := .cells #[.slice A0_0 l0_0.length c0_0, .slice A0_1 l0_1.length c0_1] 31 (0, 0)) (kz BK456) hb); replace HB := Aside0.mk (below_step (bz1 HB GE456) hb); clear hb))
  go_ret
  exact ⟨rz, bz1 HB GE456⟩
 ·
  replace c4 := Bool.eq_false_iff.mpr c4
  subst c4
  rw [if_neg nt_] at H
  obtain rfl := Option.some.inj H
  go_enter Try.func63, Try.ntmps63
  go_wp2_with (first | ((with_reducible refine gate_dst (N := 2) rfl ?_); refine box_event ?hg (N := 2) ?hd (cs := #[.slice A0_0 l0_0.length c0_0, .slice A0_1 l0_1.length c0_1]) (t := 31) ?hr ?_; (case hd => rfl); (case hg => rfl); (case hr => first | (go_simp; done) | (go_simp; rfl)); intro gb456 hg w11 hbox hb; have n0_ := Aside0.mk (below_step (bz HB) hb); have n1_ := Aside0.mk (hbox); have n2_ := Aside0.mk ((by rw [hg]; exact (below_size (bz HB)) : w.heap.size ≤ gb456)); have n3_ := Aside0.mk ((by rw [hg]; exact (below_size (bz HB)) : w.heap.size ≤ gb456)); clear HB; have HB := n0_; have BK456 := n1_; have GW456 := n2_; have GE456 := n3_; clear n0_ n1_ n2_ n3_; clear hb hbox hg; have hcz12_0 : w11.cell? ⟨gb456, 0, none⟩ = some (.slice A0_0 l0_0.length c0_0) := (blk_cell BK456.out 0).trans rfl; have hcz12_1 : w11.cell? ⟨gb456, 1, none⟩ = some (.slice A0_1 l0_1.length c0_1) := (blk_cell BK456.out 1).trans rfl; have hfz12_0 := blk_frozen BK456.out 0; have hfz12_1 := blk_frozen BK456.out 1) | ((with_reducible refine gate_callee (f := 57) rfl ?_); refine goesL_ (some 6) rfl rfl Try.func57 (by kernel_rfl) rfl #[.agg #[.slice A0_0 l0_0.length c0_0, .slice A0_1 l0_1.length c0_1]] rfl az ?_; (with_reducible refine (impl_SystemValid.calls k _ _ l0_0 _ _ l0_1 false _ ?side1 HC0_0.out ?side3 HC0_1.out A3.out).mono ?_); (case side1 => exact cz HR0_0 HB); (case side3 => exact cz HR0_1 HB); rintro e w13 ⟨rfl, hb⟩; refine ⟨_, rfl, ?_⟩; replace BK456 := Aside0.mk (blk_below (g := gb456) (o := .cells #[.slice A0_0 l0_0.length c0_0, .slice A0_1 l0_1.length c0_1] 31 (0, 0)) (kz BK456) hb); replace HB := Aside0.mk (below_step (bz1 HB GE456) hb); clear hb))
  go_ret
  exact ⟨rz, bz1 HB GE456⟩
end Go.Proofs.Ytoofhjflfpccdaa.PA
end
section
namespace Go.Proofs.Ytoofhjflfpccdaa.PA
open Go.RowKit Go.Proofs.YtoofhjflfpccdaaW.PrintWords Go.Proofs.YtoofhjflfpccdaaW.PrintLast Go.Proofs.YtoofhjflfpccdaaW.PrintMore
attribute [local go_sem] max2_int min2_int max_two min_two max_three min_three max_four min_four   -- for this text's walks alone
set_option linter.unusedVariables false
set_option linter.unusedSimpArgs false
set_option maxHeartbeats 8000000 in
set_option maxRecDepth 100000 in
theorem impl_number.calls (k : Nat) (A0_0 : Option Addr) (c0_0 : Nat) (l0_0 : List (IVar)) (A0_1 : Option Addr) (c0_1 : Nat) (l0_1 : List (IRule)) (A1 : Option Addr) (c1 : Nat) (l1 : List Int) (r : Int) (w : World) (hr0_0 : Kd.C k62 w A0_0 l0_0.length l0_0) (hc0_0 : l0_0.length ≤ c0_0) (hr0_1 : Kd.C k81 w A0_1 l0_1.length l0_1) (hc0_1 : l0_1.length ≤ c0_1) (hr1 : Kd.C (Kd.int .i64) w A1 l1.length l1) (hc1 : l1.length ≤ c1) (h : impl_number.f k l0_0 l0_1 l1 = some r) :
  Calls Try.prog 64 #[.agg #[.slice A0_0 l0_0.length c0_0, .slice A0_1 l0_1.length c0_1], .slice A1 l1.length c1] w fun e w' => e = .returned (.int .i64 r) ∧ Below w.heap.size w w' := by
 have hu31 := Try.underlying31
 have hu62 := Try.underlying62
 have HR0_0 := Aside0.mk hr0_0
 have HC0_0 := Aside0.mk hc0_0
 clear hr0_0 hc0_0
 have HR0_1 := Aside0.mk hr0_1
 have HC0_1 := Aside0.mk hc0_1
 clear hr0_1 hc0_1
 have HR1 := Aside0.mk hr1
 have HC1 := Aside0.mk hc1
 clear hr1 hc1
 have HB := Aside0.mk (Below.refl w.heap.size w)
 have H : (impl_number.l0 k l1 0 l0_0 (l0_0.length : Int) 0) = some r := h
 clear h
 have H' := Aside0.mk H
 clear H
 go_enter Try.func64, Try.ntmps64
 go_wp2_with (first | ((with_reducible refine gate_dst (N := 2) rfl ?_); refine box_event ?hg (N := 2) ?hd (cs := #[.slice A0_0 l0_0.length c0_0, .slice A0_1 l0_1.length c0_1]) (t := 31) ?hr ?_; (case hd => rfl); (case hg => rfl); (case hr => first | (go_simp; done) | (go_simp; rfl)); intro gb459 hg w3 hbox hb; have n0_ := Aside0.mk (below_step (bz HB) hb); have n1_ := Aside0.mk (hbox); have n2_ := Aside0.mk ((by rw [hg]; exact (below_size (bz HB)) : w.heap.size ≤ gb459)); have n3_ := Aside0.mk ((by rw [hg]; exact (below_size (bz HB)) : w.heap.size ≤ gb459)); clear HB; have HB := n0_; have BK459 := n1_; have GW459 := n2_; have GE459 := n3_; clear n0_ n1_ n2_ n3_; clear hb hbox hg; have hcz4_0 : w3.cell? ⟨gb459, 0, none⟩ = some (.slice A0_0 l0_0.length c0_0) := (blk_cell BK459.out 0).trans rfl; have hcz4_1 : w3.cell? ⟨gb459, 1, none⟩ = some (.slice A0_1 l0_1.length c0_1) := (blk_cell BK459.out 1).trans rfl; have hfz4_0 := blk_frozen BK459.out 0; have hfz4_1 := blk_frozen BK459.out 1))
 repeat (go_quiet (first | ((with_reducible refine gate_dst (N := 2) rfl ?_); refine box_event ?hg (N := 2) ?hd (cs := #[.slice A0_0 l0_0.length c0_0, .slice A0_1 l0_1.length c0_1]) (t := 31) ?hr ?_; (case hd => rfl); (case hg => rfl); (case hr => first | (go_simp; done) | (go_simp; rfl)); intro gb459 hg w3 hbox hb; have n0_ := Aside0.mk (below_step (bz HB) hb); have n1_ := Aside0.mk (hbox); have n2_ := Aside0.mk ((by rw [hg]; exact (below_size (bz HB)) : w.heap.size ≤ gb459)); have n3_ := Aside0.mk ((by rw [hg]; exact (below_size (bz HB)) : w.heap.size ≤ gb459)); clear HB; have HB := n0_; have BK459 := n1_; have GW459 := n2_; have GE459 := n3_; clear n0_ n1_ n2_ n3_; clear hb hbox hg; have hcz4_0 : w3.cell? ⟨gb459, 0, none⟩ = some (.slice A0_0 l0_0.length c0_0) := (blk_cell BK459.out 0).trans rfl; have hcz4_1 : w3.cell? ⟨gb459, 1, none⟩ = some (.slice A0_1 l0_1.length c0_1) := (blk_cell BK459.out 1).trans rfl; have hfz4_0 := blk_frozen BK459.out 0; have hfz4_1 := blk_frozen BK459.out 1)); try go_wp2_with (first | ((with_reducible refine gate_dst (N := 2) rfl ?_); refine box_event ?hg (N := 2) ?hd (cs := #[.slice A0_0 l0_0.length c0_0, .slice A0_1 l0_1.length c0_1]) (t := 31) ?hr ?_; (case hd => rfl); (case hg => rfl); (case hr => first | (go_simp; done) | (go_simp; rfl)); intro gb459 hg w3 hbox hb; have n0_ := Aside0.mk (below_step (bz HB) hb); have n1_ := Aside0.mk (hbox); have n2_ := Aside0.mk ((by rw [hg]; exact (below_size (bz HB)) : w.heap.size ≤ gb459)); have n3_ := Aside0.mk ((by rw [hg]; exact (below_size (bz HB)) : w.heap.size ≤ gb459)); clear HB; have HB := n0_; have BK459 := n1_; have GW459 := n2_; have GE459 := n3_; clear n0_ n1_ n2_ n3_; clear hb hbox hg; have hcz4_0 : w3.cell? ⟨gb459, 0, none⟩ = some (.slice A0_0 l0_0.length c0_0) := (blk_cell BK459.out 0).trans rfl; have hcz4_1 : w3.cell? ⟨gb459, 1, none⟩ = some (.slice A0_1 l0_1.length c0_1) := (blk_cell BK459.out 1).trans rfl; have hfz4_0 := blk_frozen BK459.out 0; have hfz4_1 := blk_frozen BK459.out 1)))
 go_loopg [5, 11] k (fun kq v5 v11 w' => ∃ (x5_1 : Int) (x11_1 : Int), v5 = .int .i64 x5_1 ∧ v11 = .int .i64 x11_1 ∧ Aside0 (impl_number.l0 kq l1 x5_1 l0_0 (l0_0.length : Int) x11_1 = some r) ∧ Aside0 (kq ≤ k) ∧ Aside0 (w'.heap[gb459]? = some (.cells #[(.slice A0_0 l0_0.length c0_0), (.slice A0_1 l0_1.length c0_1)] 31 (0, 0))) ∧ Aside0 (Below w.heap.size w w'))
 case atStart => exact ⟨(0), (0), rq, rq, H', ⟨Nat.le_refl _⟩, ⟨kz BK459⟩, ⟨bz1 HB GE459⟩⟩
 case round =>
  clear H'
  try clear c1
  try clear p2
  try clear hcz4_0
  try clear hcz4_1
  try clear hfz4_0
  try clear hfz4_1
  obtain ⟨x5_1, x11_1, rfl, rfl, HA, HK1, BK459, HB⟩ := hrel
  cases gk with
  | zero => exact absurd HA.out (by simp [impl_number.l0])
  | succ k1 =>
   have H := HA.out
   clear HA
   simp only [impl_number.l0] at H
   by_cases c5 : x11_1 < (l0_0.length : Int)
   ·
    rw [if_pos c5] at H
    have c5b0 : decide (x11_1 < (l0_0.length : Int)) = true := decide_eq_true c5
    clear c5
    by_cases c6 : 0 ≤ x11_1
    ·
     rw [if_pos c6] at H
     have c6b0 : decide (0 ≤ x11_1) = true := decide_eq_true c6
     clear c6
     by_cases c7 : x11_1 < (l0_0.length : Int)
     ·
      rw [if_pos c7] at H
      have c7b0 : decide (x11_1 < (l0_0.length : Int)) = true := decide_eq_true c7
      clear c7
      by_cases c8 : x11_1 < (l1.length : Int)
      ·
       rw [if_pos c8] at H
       have c8b0 : decide (x11_1 < (l1.length : Int)) = true := decide_eq_true c8
       clear c8
       have H' := Aside0.mk H
       clear H
       have p460 : 0 ≤ (x11_1 : Int) := dz
       have q460 : x11_1 < (l0_0.length : Int) := dz
       obtain ⟨ad460, e460, hx460_0, hx460_1, hx460_2⟩ := at_IVar HR0_0.out x11_1 p460 q460
       cases e460
       replace hx460_0 := xz HB hx460_0
       replace hx460_1 := xz HB hx460_1
       replace hx460_2 := xz HB hx460_2
       replace p460 := eq_true p460
       replace q460 := eq_true q460
       go_wp2_with (first | ((with_reducible refine gate_dst (N := 7) rfl ?_); refine box_event ?hg (N := 7) ?hd (cs := #[.int .i64 0, .int .i64 0, .int .i64 0]) (t := 62) ?hr ?_; (case hd => rfl); (case hg => rfl); (case hr => first | (go_simp; done) | (go_simp; rfl)); intro gb461 hg w9 hbox hb; have n0_ := Aside0.mk (blk_below (g := gb459) (o := .cells #[.slice (some ad460) l0_0.length c0_0, .slice A0_1 l0_1.length c0_1] 31 (0, 0)) (kz BK459) hb); have n1_ := Aside0.mk (below_step (bz1 HB GE459) hb); have n2_ := Aside0.mk (hbox); have n3_ := Aside0.mk ((by rw [hg]; exact (below_size (bz1 HB GE459)) : w.heap.size ≤ gb461)); have n4_ := Aside0.mk ((by rw [hg]; exact (below_size (bz1 HB GE459)) : w.heap.size ≤ gb461)); have n5_ := Aside0.mk ((by rw [hg]; exact Nat.ne_of_lt (blk_lt (g := gb459) (o := .cells #[.slice (some ad460) l0_0.length c0_0, .slice A0_1 l0_1.length c0_1] 31 (0, 0)) (kz BK459)) : gb459 ≠ gb461)); have n6_ := Aside0.mk ((by rw [hg]; exact Nat.ne_of_gt (blk_lt (g := gb459) (o := .cells #[.slice (some ad460) l0_0.length c0_0, .slice A0_1 l0_1.length c0_1] 31 (0, 0)) (kz BK459)) : gb461 ≠ gb459)); clear BK459; clear HB; have BK459 := n0_; have HB := n1_; have BK461 := n2_; have GW461 := n3_; have GE461 := n4_; have NB459_461 := n5_; have NB461_459 := n6_; clear n0_ n1_ n2_ n3_ n4_ n5_ n6_; clear hb hbox hg; have hnb10 := NB461_459.out; have hnc10 := NB459_461.out; have hcz11_0 : w9.cell? ⟨gb461, 0, none⟩ = some (.int .i64 0) := (blk_cell BK461.out 0).trans rfl; have hcz11_1 : w9.cell? ⟨gb461, 1, none⟩ = some (.int .i64 0) := (blk_cell BK461.out 1).trans rfl; have hcz11_2 : w9.cell? ⟨gb461, 2, none⟩ = some (.int .i64 0) := (blk_cell BK461.out 2).trans rfl; have hfz11_0 := blk_frozen BK461.out 0; have hfz11_1 := blk_frozen BK461.out 1; have hfz11_2 := blk_frozen BK461.out 2; have p462 : 0 ≤ (x11_1 : Int) := dz; have q462 : x11_1 < (l1.length : Int) := dz; obtain ⟨ad462, e462, hx462_0⟩ := Kd.at_int HR1.out x11_1 p462 q462; cases e462; have hn462_0 : ad462.block ≠ gb461 := Nat.ne_of_lt (Nat.lt_of_lt_of_le (by have := World.block_lt_of_cell? _ _ hx462_0; first | rwa [add_block] at this | exact this) GW461.out); have hn462_1 : ad462.block ≠ gb461 := Nat.ne_of_lt (Nat.lt_of_lt_of_le (by have := World.block_lt_of_cell? _ _ hx462_0; first | rwa [add_block] at this | exact this) GW461.out); have hn462_2 : ad462.block ≠ gb461 := Nat.ne_of_lt (Nat.lt_of_lt_of_le (by have := World.block_lt_of_cell? _ _ hx462_0; first | rwa [add_block] at this | exact this) GW461.out); replace hx462_0 := xz HB hx462_0; replace hx462_0 := (cell_far (p := ⟨gb461, 0, none⟩) (by first | (rw [add_block]; exact hn462_0) | (show (Addr.add _ _).block ≠ _; rw [add_block]; exact hn462_0) | exact hn462_0) (.int .i64 ((rd_IVar l0_0 x11_1).f0))).trans hx462_0; replace hx462_0 := (cell_far (p := ⟨gb461, 1, none⟩) (by first | (rw [add_block]; exact hn462_1) | (show (Addr.add _ _).block ≠ _; rw [add_block]; exact hn462_1) | exact hn462_1) (.int .i64 ((rd_IVar l0_0 x11_1).f1))).trans hx462_0; replace hx462_0 := (cell_far (p := ⟨gb461, 2, none⟩) (by first | (rw [add_block]; exact hn462_2) | (show (Addr.add _ _).block ≠ _; rw [add_block]; exact hn462_2) | exact hn462_2) (.int .i64 ((rd_IVar l0_0 x11_1).f2))).trans hx462_0; (try have hy462_0 := fun (n_ : Nat) => (show (((((w9.drewN n_).setCell ⟨gb461, 0, none⟩ (.int .i64 ((rd_IVar l0_0 x11_1).f0))).setCell ⟨gb461, 1, none⟩ (.int .i64 ((rd_IVar l0_0 x11_1).f1))).setCell ⟨gb461, 2, none⟩ (.int .i64 ((rd_IVar l0_0 x11_1).f2)))).cell? _ = some _ from hx462_0)); clear hn462_0; clear hn462_1; clear hn462_2; replace p462 := eq_true p462; replace q462 := eq_true q462))
       repeat (go_quiet (first | ((with_reducible refine gate_dst (N := 7) rfl ?_); refine box_event ?hg (N := 7) ?hd (cs := #[.int .i64 0, .int .i64 0, .int .i64 0]) (t := 62) ?hr ?_; (case hd => rfl); (case hg => rfl); (case hr => first | (go_simp; done) | (go_simp; rfl)); intro gb461 hg w9 hbox hb; have n0_ := Aside0.mk (blk_below (g := gb459) (o := .cells #[.slice (some ad460) l0_0.length c0_0, .slice A0_1 l0_1.length c0_1] 31 (0, 0)) (kz BK459) hb); have n1_ := Aside0.mk (below_step (bz1 HB GE459) hb); have n2_ := Aside0.mk (hbox); have n3_ := Aside0.mk ((by rw [hg]; exact (below_size (bz1 HB GE459)) : w.heap.size ≤ gb461)); have n4_ := Aside0.mk ((by rw [hg]; exact (below_size (bz1 HB GE459)) : w.heap.size ≤ gb461)); have n5_ := Aside0.mk ((by rw [hg]; exact Nat.ne_of_lt (blk_lt (g := gb459) (o := .cells #[.slice (some ad460) l0_0.length c0_0, .slice A0_1 l0_1.length c0_1] 31 (0, 0)) (kz BK459)) : gb459 ≠ gb461)); have n6_ := Aside0.mk ((by rw [hg]; exact Nat.ne_of_gt (blk_lt (g := gb459) (o := .cells #[.slice (some ad460) l0_0.length c0_0, .slice A0_1 l0_1.length c0_1] 31 (0, 0)) (kz BK459)) : gb461 ≠ gb459)); clear BK459; clear HB; have BK459 := n0_; have HB := n1_; have BK461 := n2_; have GW461 := n3_; have GE461 := n4_; have NB459_461 := n5_; have NB461_459 := n6_; clear n0_ n1_ n2_ n3_ n4_ n5_ n6_; clear hb hbox hg; have hnb10 := NB461_459.out; have hnc10 := NB459_461.out; have hcz11_0 : w9.cell? ⟨gb461, 0, none⟩ = some (.int .i64 0) := (blk_cell BK461.out 0).trans rfl; have hcz11_1 : w9.cell? ⟨gb461, 1, none⟩ = some (.int .i64 0) := (blk_cell BK461.out 1).trans rfl; have hcz11_2 : w9.cell? ⟨gb461, 2, none⟩ = some (.int .i64 0) := (blk_cell BK461.out 2).trans rfl; have hfz11_0 := blk_frozen BK461.out 0; have hfz11_1 := blk_frozen BK461.out 1; have hfz11_2 := blk_frozen BK461.out 2; have p462 : 0 ≤ (x11_1 : Int) := dz; have q462 : x11_1 < (l1.length : Int) := dz; obtain ⟨ad462, e462, hx462_0⟩ := Kd.at_int HR1.out x11_1 p462 q462; cases e462; have hn462_0 : ad462.block ≠ gb461 := Nat.ne_of_lt (Nat.lt_of_lt_of_le (by have := World.block_lt_of_cell? _ _ hx462_0; first | rwa [add_block] at this | exact this) GW461.out); have hn462_1 : ad462.block ≠ gb461 := Nat.ne_of_lt (Nat.lt_of_lt_of_le (by have := World.block_lt_of_cell? _ _ hx462_0; first | rwa [add_block] at this | exact this) GW461.out); have hn462_2 : ad462.block ≠ gb461 := Nat.ne_of_lt (Nat.lt_of_lt_of_le (by have := World.block_lt_of_cell? _ _ hx462_0; first | rwa [add_block] at this | exact this) GW461.out); replace hx462_0 := xz HB hx462_0; replace hx462_0 := (cell_far (p := ⟨gb461, 0, none⟩) (by first | (rw [add_block]; exact hn462_0) | (show (Addr.add _ _).block ≠ _; rw [add_block]; exact hn462_0) | exact hn462_0) (.int .i64 ((rd_IVar l0_0 x11_1).f0))).trans hx462_0; replace hx462_0 := (cell_far (p := ⟨gb461, 1, none⟩) (by first | (rw [add_block]; exact hn462_1) | (show (Addr.add _ _).block ≠ _; rw [add_block]; exact hn462_1) | exact hn462_1) (.int .i64 ((rd_IVar l0_0 x11_1).f1))).trans hx462_0; replace hx462_0 := (cell_far (p := ⟨gb461, 2, none⟩) (by first | (rw [add_block]; exact hn462_2) | (show (Addr.add _ _).block ≠ _; rw [add_block]; exact hn462_2) | exact hn462_2) (.int .i64 ((rd_IVar l0_0 x11_1).f2))).trans hx462_0; (try have hy462_0 := fun (n_ : Nat) => (show (((((w9.drewN n_).setCell ⟨gb461, 0, none⟩ (.int .i64 ((rd_IVar l0_0 x11_1).f0))).setCell ⟨gb461, 1, none⟩ (.int .i64 ((rd_IVar l0_0 x11_1).f1))).setCell ⟨gb461, 2, none⟩ (.int .i64 ((rd_IVar l0_0 x11_1).f2)))).cell? _ = some _ from hx462_0)); clear hn462_0; clear hn462_1; clear hn462_2; replace p462 := eq_true p462; replace q462 := eq_true q462)); try go_wp2_with (first | ((with_reducible refine gate_dst (N := 7) rfl ?_); refine box_event ?hg (N := 7) ?hd (cs := #[.int .i64 0, .int .i64 0, .int .i64 0]) (t := 62) ?hr ?_; (case hd => rfl); (case hg => rfl); (case hr => first | (go_simp; done) | (go_simp; rfl)); intro gb461 hg w9 hbox hb; have n0_ := Aside0.mk (blk_below (g := gb459) (o := .cells #[.slice (some ad460) l0_0.length c0_0, .slice A0_1 l0_1.length c0_1] 31 (0, 0)) (kz BK459) hb); have n1_ := Aside0.mk (below_step (bz1 HB GE459) hb); have n2_ := Aside0.mk (hbox); have n3_ := Aside0.mk ((by rw [hg]; exact (below_size (bz1 HB GE459)) : w.heap.size ≤ gb461)); have n4_ := Aside0.mk ((by rw [hg]; exact (below_size (bz1 HB GE459)) : w.heap.size ≤ gb461)); have n5_ := Aside0.mk ((by rw [hg]; exact Nat.ne_of_lt (blk_lt (g := gb459) (o := .cells #[.slice (some ad460) l0_0.length c0_0, .slice A0_1 l0_1.length c0_1] 31 (0, 0)) (kz BK459)) : gb459 ≠ gb461)); have n6_ := Aside0.mk ((by rw [hg]; exact Nat.ne_of_gt (blk_lt (g := gb459) (o := .cells #[.slice (some ad460) l0_0.length c0_0, .slice A0_1 l0_1.length c0_1] 31 (0, 0)) (kz BK459)) : gb461 ≠ gb459)); clear BK459; clear HB; have BK459 := n0_; have HB := n1_; have BK461 := n2_; have GW461 := n3_; have GE461 := n4_; have NB459_461 := n5_; have NB461_459 := n6_; clear n0_ n1_ n2_ n3_ n4_ n5_ n6_; clear hb hbox hg; have hnb10 := NB461_459.out; have hnc10 := NB459_461.out; have hcz11_0 : w9.cell? ⟨gb461, 0, none⟩ = some (.int .i64 0) := (blk_cell BK461.out 0).trans rfl; have hcz11_1 : w9.cell? ⟨gb461, 1, none⟩ = some (.int .i64 0) := (blk_cell BK461.out 1).trans rfl; have hcz11_2 : w9.cell? ⟨gb461, 2, none⟩ = some (.int .i64 0) := (blk_cell BK461.out 2).trans rfl; have hfz11_0 := blk_frozen BK461.out 0; have hfz11_1 := blk_frozen BK461.out 1; have hfz11_2 := blk_frozen BK461.out 2; have p462 : 0 ≤ (x11_1 : Int) := dz; have q462 : x11_1 < (l1.length : Int) := dz; obtain ⟨ad462, e462, hx462_0⟩ := Kd.at_int HR1.out x11_1 p462 q462; cases e462; have hn462_0 : ad462.block ≠ gb461 := Nat.ne_of_lt (Nat.lt_of_lt_of_le (by have := World.block_lt_of_cell? _ _ hx462_0; first | rwa [add_block] at this | exact this) GW461.out); have hn462_1 : ad462.block ≠ gb461 := Nat.ne_of_lt (Nat.lt_of_lt_of_le (by have := World.block_lt_of_cell? _ _ hx462_0; first | rwa [add_block] at this | exact this) GW461.out); have hn462_2 : ad462.block ≠ gb461 := Nat.ne_of_lt (Nat.lt_of_lt_of_le (by have := World.block_lt_of_cell? _ _ hx462_0; first | rwa [add_block] at this | exact this) GW461.out); replace hx462_0 := xz HB hx462_0; replace hx462_0 := (cell_far (p := ⟨gb461, 0, none⟩) (by first | (rw [add_block]; exact hn462_0) | (show (Addr.add _ _).block ≠ _; rw [add_block]; exact hn462_0) | exact hn462_0) (.int .i64 ((rd_IVar l0_0 x11_1).f0))).trans hx462_0; replace hx462_0 := (cell_far (p := ⟨gb461, 1, none⟩) (by first | (rw [add_block]; exact hn462_1) | (show (Addr.add _ _).block ≠ _; rw [add_block]; exact hn462_1) | exact hn462_1) (.int .i64 ((rd_IVar l0_0 x11_1).f1))).trans hx462_0; replace hx462_0 := (cell_far (p := ⟨gb461, 2, none⟩) (by first | (rw [add_block]; exact hn462_2) | (show (Addr.add _ _).block ≠ _; rw [add_block]; exact hn462_2) | exact hn462_2) (.int .i64 ((rd_IVar l0_0 x11_1).f2))).trans hx462_0; (try have hy462_0 := fun (n_ : Nat) => (show (((((w9.drewN n_).setCell ⟨gb461, 0, none⟩ (.int .i64 ((rd_IVar l0_0 x11_1).f0))).setCell ⟨gb461, 1, none⟩ (.int .i64 ((rd_IVar l0_0 x11_1).f1))).setCell ⟨gb461, 2, none⟩ (.int .i64 ((rd_IVar l0_0 x11_1).f2)))).cell? _ = some _ from hx462_0)); clear hn462_0; clear hn462_1; clear hn462_2; replace p462 := eq_true p462; replace q462 := eq_true q462)))
       go_roundg k1
       case measure => have := HK1.out; omega
       case rel => exact ⟨(wrap64 ((wrap64 ((wrap64 (x5_1 * (wrap64 ((wrap64 (((rd_IVar l0_0 x11_1).f1) - ((rd_IVar l0_0 x11_1).f0))) + 1)))) + (rd l1 x11_1))) - ((rd_IVar l0_0 x11_1).f0))), (wrap64 (x11_1 + 1)), rq, rq, H', ⟨by have := HK1.out; omega⟩, ⟨by (with_reducible repeat (first | refine blk_drewN ?_ _ | refine blk_drew ?_ | refine blk_alloc ?_ _)); refine blk_far ?_ NB459_461.out _; (with_reducible repeat (first | refine blk_drewN ?_ _ | refine blk_drew ?_ | refine blk_alloc ?_ _)); refine blk_far ?_ NB459_461.out _; (with_reducible repeat (first | refine blk_drewN ?_ _ | refine blk_drew ?_ | refine blk_alloc ?_ _)); refine blk_far ?_ NB459_461.out _; exact kz BK459⟩, ⟨bz2 HB GE459 GE461⟩⟩
      ·
       rw [if_neg c8] at H
       exact absurd H (by simp)
     ·
      rw [if_neg c7] at H
      exact absurd H (by simp)
    ·
     rw [if_neg c6] at H
     exact absurd H (by simp)
   ·
    rw [if_neg c5] at H
    have c5b0 : decide (x11_1 < (l0_0.length : Int)) = false := decide_eq_false c5
    clear c5
    obtain rfl := Option.some.inj H
    go_wp2
    repeat (go_quiet (fail); try go_wp2)
    go_ret
    exact ⟨rz, bz1 HB GE459⟩
end Go.Proofs.Ytoofhjflfpccdaa.PA
end
section
namespace Go.Proofs.Ytoofhjflfpccdaa.PA
open Go.RowKit Go.Proofs.YtoofhjflfpccdaaW.PrintWords Go.Proofs.YtoofhjflfpccdaaW.PrintLast Go.Proofs.YtoofhjflfpccdaaW.PrintMore
attribute [local go_sem] max2_int min2_int max_two min_two max_three min_three max_four min_four   -- for this text's walks alone
set_option linter.unusedVariables false
set_option linter.unusedSimpArgs false
set_option maxHeartbeats 8000000 in
set_option maxRecDepth 100000 in
theorem impl_NumberOf.calls (k : Nat) (A0_0 : Option Addr) (c0_0 : Nat) (l0_0 : List (IVar)) (A0_1 : Option Addr) (c0_1 : Nat) (l0_1 : List (IRule)) (A1 : Option Addr) (c1 : Nat) (l1 : List Int) (r : Int) (w : World) (hr0_0 : Kd.C k62 w A0_0 l0_0.length l0_0) (hc0_0 : l0_0.length ≤ c0_0) (hr0_1 : Kd.C k81 w A0_1 l0_1.length l0_1) (hc0_1 : l0_1.length ≤ c0_1) (hr1 : Kd.C (Kd.int .i64) w A1 l1.length l1) (hc1 : l1.length ≤ c1) (h : impl_NumberOf.f k l0_0 l0_1 l1 = some r) :
  Calls Try.prog 28 #[.agg #[.slice A0_0 l0_0.length c0_0, .slice A0_1 l0_1.length c0_1], .slice A1 l1.length c1] w fun e w' => e = .returned (.int .i64 r) ∧ Below w.heap.size w w' := by
 have hu31 := Try.underlying31
 have HR0_0 := Aside0.mk hr0_0
 have HC0_0 := Aside0.mk hc0_0
 clear hr0_0 hc0_0
 have HR0_1 := Aside0.mk hr0_1
 have HC0_1 := Aside0.mk hc0_1
 clear hr0_1 hc0_1
 have HR1 := Aside0.mk hr1
 have HC1 := Aside0.mk hc1
 clear hr1 hc1
 have HB := Aside0.mk (Below.refl w.heap.size w)
 have H : ((impl_InRange.f k l0_0 l0_1 l1).bind fun t464 => (if t464 = true then ((impl_number.f k l0_0 l0_1 l1).bind fun t465 => (some t465)) else (some (-1)))) = some r := h
 clear h
 replace H := Option.bind_eq_some_iff.mp H
 obtain ⟨t464, A30, H⟩ := H
 have A3 := Aside0.mk A30
 clear A30
 by_cases c4 : t464 = true
 ·
  subst c4
  rw [if_pos rfl] at H
  replace H := Option.bind_eq_some_iff.mp H
  obtain ⟨t465, A50, H⟩ := H
  have A5 := Aside0.mk A50
  clear A50
  obtain rfl := Option.some.inj H
  go_enter Try.func28, Try.ntmps28
  go_wp2_with (first | ((with_reducible refine gate_dst (N := 2) rfl ?_); refine box_event ?hg (N := 2) ?hd (cs := #[.slice A0_0 l0_0.length c0_0, .slice A0_1 l0_1.length c0_1]) (t := 31) ?hr ?_; (case hd => rfl); (case hg => rfl); (case hr => first | (go_simp; done) | (go_simp; rfl)); intro gb463 hg w6 hbox hb; have n0_ := Aside0.mk (below_step (bz HB) hb); have n1_ := Aside0.mk (hbox); have n2_ := Aside0.mk ((by rw [hg]; exact (below_size (bz HB)) : w.heap.size ≤ gb463)); have n3_ := Aside0.mk ((by rw [hg]; exact (below_size (bz HB)) : w.heap.size ≤ gb463)); clear HB; have HB := n0_; have BK463 := n1_; have GW463 := n2_; have GE463 := n3_; clear n0_ n1_ n2_ n3_; clear hb hbox hg; have hcz7_0 : w6.cell? ⟨gb463, 0, none⟩ = some (.slice A0_0 l0_0.length c0_0) := (blk_cell BK463.out 0).trans rfl; have hcz7_1 : w6.cell? ⟨gb463, 1, none⟩ = some (.slice A0_1 l0_1.length c0_1) := (blk_cell BK463.out 1).trans rfl; have hfz7_0 := blk_frozen BK463.out 0; have hfz7_1 := blk_frozen BK463.out 1) | ((with_reducible refine gate_callee (f := 63) rfl ?_); refine goesL_ (some 7) rfl rfl Try.func63 (by kernel_rfl) rfl #[.agg #[.slice A0_0 l0_0.length c0_0, .slice A0_1 l0_1.length c0_1], .slice A1 l1.length c1] rfl az ?_; (with_reducible refine (impl_InRange.calls k _ _ l0_0 _ _ l0_1 _ _ l1 true _ ?side1 HC0_0.out ?side3 HC0_1.out ?side5 HC1.out A3.out).mono ?_); (case side1 => exact cz HR0_0 HB); (case side3 => exact cz HR0_1 HB); (case side5 => exact cz HR1 HB); rintro e w8 ⟨rfl, hb⟩; refine ⟨_, rfl, ?_⟩; replace BK463 := Aside0.mk (blk_below (g := gb463) (o := .cells #[.slice A0_0 l0_0.length c0_0, .slice A0_1 l0_1.length c0_1] 31 (0, 0)) (kz BK463) hb); replace HB := Aside0.mk (below_step (bz1 HB GE463) hb); clear hb; have hcz9_0 : w8.cell? ⟨gb463, 0, none⟩ = some (.slice A0_0 l0_0.length c0_0) := (blk_cell BK463.out 0).trans rfl; have hcz9_1 : w8.cell? ⟨gb463, 1, none⟩ = some (.slice A0_1 l0_1.length c0_1) := (blk_cell BK463.out 1).trans rfl; have hfz9_0 := blk_frozen BK463.out 0; have hfz9_1 := blk_frozen BK463.out 1) | ((with_reducible refine gate_callee (f := 64) rfl ?_); refine goesL_ (some 11) rfl rfl Try.func64 (by kernel_rfl) rfl #[.agg #[.slice A0_0 l0_0.length c0_0, .slice A0_1 l0_1.length c0_1], .slice A1 l1.length c1] rfl az ?_; (with_reducible refine (impl_number.calls k _ _ l0_0 _ _ l0_1 _ _ l1 t465 _ ?side1 HC0_0.out ?side3 HC0_1.out ?side5 HC1.out A5.out).mono ?_); (case side1 => exact cz HR0_0 HB); (case side3 => exact cz HR0_1 HB); (case side5 => exact cz HR1 HB); rintro e w10 ⟨rfl, hb⟩; refine ⟨_, rfl, ?_⟩; replace BK463 := Aside0.mk (blk_below (g := gb463) (o := .cells #[.slice A0_0 l0_0.length c0_0, .slice A0_1 l0_1.length c0_1] 31 (0, 0)) (kz BK463) hb); replace HB := Aside0.mk (below_step (bz1 HB GE463) hb); clear hb))
  go_ret
  exact ⟨rz, bz1 HB GE463⟩
 ·
  replace c4 := Bool.eq_false_iff.mpr c4
  subst c4
  rw [if_neg nt_] at H
  obtain rfl := Option.some.inj H
  go_enter Try.func28, Try.ntmps28
  go_wp2_with (first | ((with_reducible refine gate_dst (N := 2) rfl ?_); refine box_event ?hg (N := 2) ?hd (cs := #[.slice A0_0 l0_0.length c0_0, .slice A0_1 l0_1.length c0_1]) (t := 31) ?hr ?_; (case hd => rfl); (case hg => rfl); (case hr => first | (go_simp; done) | (go_simp; rfl)); intro gb463 hg w11 hbox hb; have n0_ := Aside0.mk (below_step (bz HB) hb); have n1_ := Aside0.mk (hbox); have n2_ := Aside0.mk ((by rw [hg]; exact (below_size (bz HB)) : w.heap.size ≤ gb463)); have n3_ := Aside0.mk ((by rw [hg]; exact (below_size (bz HB)) : w.heap.size ≤ gb463)); clear HB; have HB := n0_; have BK463 := n1_; have GW463 := n2_; have GE463 := n3_; clear n0_ n1_ n2_ n3_; clear hb hbox hg; have hcz12_0 : w11.cell? ⟨gb463, 0, none⟩ = some (.slice A0_0 l0_0.length c0_0) := (blk_cell BK463.out 0).trans rfl; have hcz12_1 : w11.cell? ⟨gb463, 1, none⟩ = some (.slice A0_1 l0_1.length c0_1) := (blk_cell BK463.out 1).trans rfl; have hfz12_0 := blk_frozen BK463.out 0; have hfz12_1 := blk_frozen BK463.out 1) | ((with_reducible refine gate_callee (f := 63) rfl ?_); refine goesL_ (some 7) rfl rfl Try.func63 (by kernel_rfl) rfl #[.agg #[.slice A0_0 l0_0.length c0_0, .slice A0_1 l0_1.length c0_1], .slice A1 l1.length c1] rfl az ?_; (with_reducible refine (impl_InRange.calls k _ _ l0_0 _ _ l0_1 _ _ l1 false _ ?side1 HC0_0.out ?side3 HC0_1.out ?side5 HC1.out A3.out).mono ?_); (case side1 => exact cz HR0_0 HB); (case side3 => exact cz HR0_1 HB); (case side5 => exact cz HR1 HB); rintro e w13 ⟨rfl, hb⟩; refine ⟨_, rfl, ?_⟩; replace BK463 := Aside0.mk (blk_below (g := gb463) (o := .cells #[.slice A0_0 l0_0.length c0_0, .slice A0_1 l0_1.length c0_1] 31 (0, 0)) (kz BK463) hb); replace HB := Aside0.mk (below_step (bz1 HB GE463) hb); clear hb))
  go_ret
  exact ⟨rz, bz1 HB GE463⟩
end Go.Proofs.Ytoofhjflfpccdaa.PA
end
