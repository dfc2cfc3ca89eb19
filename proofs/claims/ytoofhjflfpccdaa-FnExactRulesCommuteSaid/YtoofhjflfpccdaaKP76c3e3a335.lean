/- Walks of Go functions: each is shown to answer as the Lean function beside it tells, under the conditions that its theorem names. -/
import Derived.Test.YtoofhjflfpccdaaProg
import Derived.Below
import Derived.Deep.Draws
import Derived.Deep.AppendLies
import Derived.Maps.AppendAt
import Derived.OwnWalk
import Derived.Laws.BytesArg
import Derived.Laws.MakeOwn
import Derived.Laws.OwnMore
import Derived.Deep.OwnRows
import Derived.Tactics
import Derived.Lib.ConvBytes
import Derived.Laws.Slices
import Derived.WalkKit
import Derived.KernelRfl
import Derived.RowKit3
import Derived.Deep.LoopGhost
import Derived.Deep.QuietTactic
import Derived.BigQuiet
import Derived.WideLaws
import Derived.Deep.DeepCutAuto
import Derived.Deep.CutBlock
import Derived.Deep.RegionHeld3
import Derived.Laws.Rows
import Derived.Lib.AppendStr
import Derived.ArgAppend
import Derived.Laws.IdiomCopy
import Derived.OrdersHeld
import Derived.Laws.BitsLemmas
import Derived.RowKit
import Derived.Laws.StructEq
import Derived.Lib.SliceRun
import Derived.WalkSpells
import Derived.ChangeArms
import Derived.ChangeSlices
import Derived.Deep.Slices
import Derived.Test.YtoofhjflfpccdaaKPd42fbbd98a
import Derived.Test.YtoofhjflfpccdaaKD05f09729e7
section
namespace Go.Proofs.Ytoofhjflfpccdaa.PA
open Go.RowKit Go.Proofs.YtoofhjflfpccdaaW.PrintWords Go.Proofs.YtoofhjflfpccdaaW.PrintLast Go.Proofs.YtoofhjflfpccdaaW.PrintMore
attribute [local go_sem] max2_int min2_int max_two min_two max_three min_three max_four min_four   -- for this text's walks alone
set_option linter.unusedVariables false
set_option linter.unusedSimpArgs false
set_option maxHeartbeats 8000000 in
set_option maxRecDepth 100000 in
theorem impl_inRange.calls (k : Nat) (A0_0 : Option Addr) (c0_0 : Nat) (l0_0 : List (IVar)) (A0_1 : Option Addr) (c0_1 : Nat) (l0_1 : List (IRule)) (A1 : Option Addr) (c1 : Nat) (l1 : List Int) (r : Bool) (w : World) (hr0_0 : Kd.C k62 w A0_0 l0_0.length l0_0) (hc0_0 : l0_0.length ≤ c0_0) (hr0_1 : Kd.C k81 w A0_1 l0_1.length l0_1) (hc0_1 : l0_1.length ≤ c0_1) (hr1 : Kd.C (Kd.int .i64) w A1 l1.length l1) (hc1 : l1.length ≤ c1) (h : impl_inRange.f k l0_0 l0_1 l1 = some r) :
  Calls Try.prog 74 #[.agg #[.slice A0_0 l0_0.length c0_0, .slice A0_1 l0_1.length c0_1], .slice A1 l1.length c1] w fun e w' => e = .returned (.bool r) ∧ Below w.heap.size w w' := by
 have hu31 := Try.underlying31
 have hu62 := Try.underlying62
 have HR0_0 := Aside0.mk hr0_0
 have HC0_0 := Aside0.mk hc0_0
 clear hr0_0 hc0_0
 have HR0_1 := Aside0.mk hr0_1
 have HC0_1 := Aside0.mk hc0_1
 clear hr0_1 hc0_1
 have HR1 := Aside0.mk hr1
 have HC1 := Aside0.mk hc1
 clear hr1 hc1
 have HB := Aside0.mk (Below.refl w.heap.size w)
 have H : (if (l1.length : Int) = (l0_0.length : Int) then (impl_inRange.l0 k l1 l0_0 (l0_0.length : Int) 0) else (some false)) = some r := h
 clear h
 by_cases c3 : (l1.length : Int) = (l0_0.length : Int)
 case neg =>
  rw [if_neg c3] at H
  have c3b0 : ((l1.length : Int) == (l0_0.length : Int)) = false := beq_eq_false_iff_ne.mpr c3
  have c3b1 : ((l1.length : Int) != (l0_0.length : Int)) = true := bne_iff_ne.mpr c3
  have c3b2 : (l1.length == l0_0.length) = false := by first | simpa using c3 | (simp at c3 ⊢; omega)
  obtain rfl := Option.some.inj H
  go_enter Try.func74, Try.ntmps74
  go_wp2_with (first | ((with_reducible refine gate_dst (N := 2) rfl ?_); refine box_event ?hg (N := 2) ?hd (cs := #[.slice A0_0 l0_0.length c0_0, .slice A0_1 l0_1.length c0_1]) (t := 31) ?hr ?_; (case hd => rfl); (case hg => rfl); (case hr => first | (go_simp; done) | (go_simp; rfl)); intro gb451 hg w18 hbox hb; have n0_ := Aside0.mk (below_step (bz HB) hb); have n1_ := Aside0.mk (hbox); have n2_ := Aside0.mk ((by rw [hg]; exact (below_size (bz HB)) : w.heap.size ≤ gb451)); have n3_ := Aside0.mk ((by rw [hg]; exact (below_size (bz HB)) : w.heap.size ≤ gb451)); clear HB; have HB := n0_; have BK451 := n1_; have GW451 := n2_; have GE451 := n3_; clear n0_ n1_ n2_ n3_; clear hb hbox hg; have hcz19_0 : w18.cell? ⟨gb451, 0, none⟩ = some (.slice A0_0 l0_0.length c0_0) := (blk_cell BK451.out 0).trans rfl; have hcz19_1 : w18.cell? ⟨gb451, 1, none⟩ = some (.slice A0_1 l0_1.length c0_1) := (blk_cell BK451.out 1).trans rfl; have hfz19_0 := blk_frozen BK451.out 0; have hfz19_1 := blk_frozen BK451.out 1))
  repeat (go_quiet (first | ((with_reducible refine gate_dst (N := 2) rfl ?_); refine box_event ?hg (N := 2) ?hd (cs := #[.slice A0_0 l0_0.length c0_0, .slice A0_1 l0_1.length c0_1]) (t := 31) ?hr ?_; (case hd => rfl); (case hg => rfl); (case hr => first | (go_simp; done) | (go_simp; rfl)); intro gb451 hg w18 hbox hb; have n0_ := Aside0.mk (below_step (bz HB) hb); have n1_ := Aside0.mk (hbox); have n2_ := Aside0.mk ((by rw [hg]; exact (below_size (bz HB)) : w.heap.size ≤ gb451)); have n3_ := Aside0.mk ((by rw [hg]; exact (below_size (bz HB)) : w.heap.size ≤ gb451)); clear HB; have HB := n0_; have BK451 := n1_; have GW451 := n2_; have GE451 := n3_; clear n0_ n1_ n2_ n3_; clear hb hbox hg; have hcz19_0 : w18.cell? ⟨gb451, 0, none⟩ = some (.slice A0_0 l0_0.length c0_0) := (blk_cell BK451.out 0).trans rfl; have hcz19_1 : w18.cell? ⟨gb451, 1, none⟩ = some (.slice A0_1 l0_1.length c0_1) := (blk_cell BK451.out 1).trans rfl; have hfz19_0 := blk_frozen BK451.out 0; have hfz19_1 := blk_frozen BK451.out 1)); try go_wp2_with (first | ((with_reducible refine gate_dst (N := 2) rfl ?_); refine box_event ?hg (N := 2) ?hd (cs := #[.slice A0_0 l0_0.length c0_0, .slice A0_1 l0_1.length c0_1]) (t := 31) ?hr ?_; (case hd => rfl); (case hg => rfl); (case hr => first | (go_simp; done) | (go_simp; rfl)); intro gb451 hg w18 hbox hb; have n0_ := Aside0.mk (below_step (bz HB) hb); have n1_ := Aside0.mk (hbox); have n2_ := Aside0.mk ((by rw [hg]; exact (below_size (bz HB)) : w.heap.size ≤ gb451)); have n3_ := Aside0.mk ((by rw [hg]; exact (below_size (bz HB)) : w.heap.size ≤ gb451)); clear HB; have HB := n0_; have BK451 := n1_; have GW451 := n2_; have GE451 := n3_; clear n0_ n1_ n2_ n3_; clear hb hbox hg; have hcz19_0 : w18.cell? ⟨gb451, 0, none⟩ = some (.slice A0_0 l0_0.length c0_0) := (blk_cell BK451.out 0).trans rfl; have hcz19_1 : w18.cell? ⟨gb451, 1, none⟩ = some (.slice A0_1 l0_1.length c0_1) := (blk_cell BK451.out 1).trans rfl; have hfz19_0 := blk_frozen BK451.out 0; have hfz19_1 := blk_frozen BK451.out 1)))
  go_ret
  exact ⟨rz, bz1 HB GE451⟩
 rw [if_pos c3] at H
 have c3b0 : ((l1.length : Int) == (l0_0.length : Int)) = true := beq_iff_eq.mpr c3
 have c3b1 : ((l1.length : Int) != (l0_0.length : Int)) = false := bne_eq_false_iff_eq.mpr c3
 have c3b2 : (l1.length == l0_0.length) = true := by first | simpa using c3 | (simp at c3 ⊢; omega)
 clear c3
 have H' := Aside0.mk H
 clear H
 go_enter Try.func74, Try.ntmps74
 go_wp2_with (first | ((with_reducible refine gate_dst (N := 2) rfl ?_); refine box_event ?hg (N := 2) ?hd (cs := #[.slice A0_0 l0_0.length c0_0, .slice A0_1 l0_1.length c0_1]) (t := 31) ?hr ?_; (case hd => rfl); (case hg => rfl); (case hr => first | (go_simp; done) | (go_simp; rfl)); intro gb451 hg w4 hbox hb; have n0_ := Aside0.mk (below_step (bz HB) hb); have n1_ := Aside0.mk (hbox); have n2_ := Aside0.mk ((by rw [hg]; exact (below_size (bz HB)) : w.heap.size ≤ gb451)); have n3_ := Aside0.mk ((by rw [hg]; exact (below_size (bz HB)) : w.heap.size ≤ gb451)); clear HB; have HB := n0_; have BK451 := n1_; have GW451 := n2_; have GE451 := n3_; clear n0_ n1_ n2_ n3_; clear hb hbox hg; have hcz5_0 : w4.cell? ⟨gb451, 0, none⟩ = some (.slice A0_0 l0_0.length c0_0) := (blk_cell BK451.out 0).trans rfl; have hcz5_1 : w4.cell? ⟨gb451, 1, none⟩ = some (.slice A0_1 l0_1.length c0_1) := (blk_cell BK451.out 1).trans rfl; have hfz5_0 := blk_frozen BK451.out 0; have hfz5_1 := blk_frozen BK451.out 1))
 repeat (go_quiet (first | ((with_reducible refine gate_dst (N := 2) rfl ?_); refine box_event ?hg (N := 2) ?hd (cs := #[.slice A0_0 l0_0.length c0_0, .slice A0_1 l0_1.length c0_1]) (t := 31) ?hr ?_; (case hd => rfl); (case hg => rfl); (case hr => first | (go_simp; done) | (go_simp; rfl)); intro gb451 hg w4 hbox hb; have n0_ := Aside0.mk (below_step (bz HB) hb); have n1_ := Aside0.mk (hbox); have n2_ := Aside0.mk ((by rw [hg]; exact (below_size (bz HB)) : w.heap.size ≤ gb451)); have n3_ := Aside0.mk ((by rw [hg]; exact (below_size (bz HB)) : w.heap.size ≤ gb451)); clear HB; have HB := n0_; have BK451 := n1_; have GW451 := n2_; have GE451 := n3_; clear n0_ n1_ n2_ n3_; clear hb hbox hg; have hcz5_0 : w4.cell? ⟨gb451, 0, none⟩ = some (.slice A0_0 l0_0.length c0_0) := (blk_cell BK451.out 0).trans rfl; have hcz5_1 : w4.cell? ⟨gb451, 1, none⟩ = some (.slice A0_1 l0_1.length c0_1) := (blk_cell BK451.out 1).trans rfl; have hfz5_0 := blk_frozen BK451.out 0; have hfz5_1 := blk_frozen BK451.out 1)); try go_wp2_with (first | ((with_reducible refine gate_dst (N := 2) rfl ?_); refine box_event ?hg (N := 2) ?hd (cs := #[.slice A0_0 l0_0.length c0_0, .slice A0_1 l0_1.length c0_1]) (t := 31) ?hr ?_; (case hd => rfl); (case hg => rfl); (case hr => first | (go_simp; done) | (go_simp; rfl)); intro gb451 hg w4 hbox hb; have n0_ := Aside0.mk (below_step (bz HB) hb); have n1_ := Aside0.mk (hbox); have n2_ := Aside0.mk ((by rw [hg]; exact (below_size (bz HB)) : w.heap.size ≤ gb451)); have n3_ := Aside0.mk ((by rw [hg]; exact (below_size (bz HB)) : w.heap.size ≤ gb451)); clear HB; have HB := n0_; have BK451 := n1_; have GW451 := n2_; have GE451 := n3_; clear n0_ n1_ n2_ n3_; clear hb hbox hg; have hcz5_0 : w4.cell? ⟨gb451, 0, none⟩ = some (.slice A0_0 l0_0.length c0_0) := (blk_cell BK451.out 0).trans rfl; have hcz5_1 : w4.cell? ⟨gb451, 1, none⟩ = some (.slice A0_1 l0_1.length c0_1) := (blk_cell BK451.out 1).trans rfl; have hfz5_0 := blk_frozen BK451.out 0; have hfz5_1 := blk_frozen BK451.out 1)))
 go_loopg [16] k (fun kq v16 w' => ∃ (x16_1 : Int), v16 = .int .i64 x16_1 ∧ Aside0 (impl_inRange.l0 kq l1 l0_0 (l0_0.length : Int) x16_1 = some r) ∧ Aside0 (kq ≤ k) ∧ Aside0 (w'.heap[gb451]? = some (.cells #[(.slice A0_0 l0_0.length c0_0), (.slice A0_1 l0_1.length c0_1)] 31 (0, 0))) ∧ Aside0 (Below w.heap.size w w'))
 case atStart => exact ⟨(0), rq, H', ⟨Nat.le_refl _⟩, ⟨kz BK451⟩, ⟨bz1 HB GE451⟩⟩
 case round =>
  clear H'
  try clear c1
  try clear p2
  try clear c3
  try clear c3b0
  try clear c3b1
  try clear c3b2
  try clear hcz5_0
  try clear hcz5_1
  try clear hfz5_0
  try clear hfz5_1
  obtain ⟨x16_1, rfl, HA, HK1, BK451, HB⟩ := hrel
  cases gk with
  | zero => exact absurd HA.out (by simp [impl_inRange.l0])
  | succ k1 =>
   have H := HA.out
   clear HA
   simp only [impl_inRange.l0] at H
   by_cases c6 : x16_1 < (l0_0.length : Int)
   case neg =>
    rw [if_neg c6] at H
    have c6b0 : decide (x16_1 < (l0_0.length : Int)) = false := decide_eq_false c6
    clear c6
    obtain rfl := Option.some.inj H
    go_wp2
    repeat (go_quiet (fail); try go_wp2)
    go_ret
    exact ⟨rz, bz1 HB GE451⟩
   rw [if_pos c6] at H
   have c6b0 : decide (x16_1 < (l0_0.length : Int)) = true := decide_eq_true c6
   clear c6
   by_cases c7 : 0 ≤ x16_1
   case neg =>
    rw [if_neg c7] at H
    exact absurd H (by simp)
   rw [if_pos c7] at H
   have c7b0 : decide (0 ≤ x16_1) = true := decide_eq_true c7
   clear c7
   by_cases c8 : x16_1 < (l0_0.length : Int)
   case neg =>
    rw [if_neg c8] at H
    exact absurd H (by simp)
   rw [if_pos c8] at H
   have c8b0 : decide (x16_1 < (l0_0.length : Int)) = true := decide_eq_true c8
   clear c8
   by_cases c9 : x16_1 < (l1.length : Int)
   case neg =>
    rw [if_neg c9] at H
    exact absurd H (by simp)
   rw [if_pos c9] at H
   have c9b0 : decide (x16_1 < (l1.length : Int)) = true := decide_eq_true c9
   clear c9
   replace H := Option.bind_eq_some_iff.mp H
   obtain ⟨t455, A100, H⟩ := H
   have A10 := Aside0.mk A100
   clear A100
   by_cases c11 : t455 = true
   case neg =>
    replace c11 := Bool.eq_false_iff.mpr c11
    subst c11
    rw [if_neg nt_] at H
    obtain rfl := Option.some.inj H
    have p452 : 0 ≤ (x16_1 : Int) := dz
    have q452 : x16_1 < (l0_0.length : Int) := dz
    obtain ⟨ad452, e452, hx452_0, hx452_1, hx452_2⟩ := at_IVar HR0_0.out x16_1 p452 q452
    cases e452
    replace hx452_0 := xz HB hx452_0
    replace hx452_1 := xz HB hx452_1
    replace hx452_2 := xz HB hx452_2
    replace p452 := eq_true p452
    replace q452 := eq_true q452
    go_wp2_with (first | ((with_reducible refine gate_dst (N := 6) rfl ?_); refine box_event ?hg (N := 6) ?hd (cs := #[.int .i64 0, .int .i64 0, .int .i64 0]) (t := 62) ?hr ?_; (case hd => rfl); (case hg => rfl); (case hr => first | (go_simp; done) | (go_simp; rfl)); intro gb453 hg w15 hbox hb; have n0_ := Aside0.mk (blk_below (g := gb451) (o := .cells #[.slice (some ad452) l0_0.length c0_0, .slice A0_1 l0_1.length c0_1] 31 (0, 0)) (kz BK451) hb); have n1_ := Aside0.mk (below_step (bz1 HB GE451) hb); have n2_ := Aside0.mk (hbox); have n3_ := Aside0.mk ((by rw [hg]; exact (below_size (bz1 HB GE451)) : w.heap.size ≤ gb453)); have n4_ := Aside0.mk ((by rw [hg]; exact (below_size (bz1 HB GE451)) : w.heap.size ≤ gb453)); have n5_ := Aside0.mk ((by rw [hg]; exact Nat.ne_of_lt (blk_lt (g := gb451) (o := .cells #[.slice (some ad452) l0_0.length c0_0, .slice A0_1 l0_1.length c0_1] 31 (0, 0)) (kz BK451)) : gb451 ≠ gb453)); have n6_ := Aside0.mk ((by rw [hg]; exact Nat.ne_of_gt (blk_lt (g := gb451) (o := .cells #[.slice (some ad452) l0_0.length c0_0, .slice A0_1 l0_1.length c0_1] 31 (0, 0)) (kz BK451)) : gb453 ≠ gb451)); clear BK451; clear HB; have BK451 := n0_; have HB := n1_; have BK453 := n2_; have GW453 := n3_; have GE453 := n4_; have NB451_453 := n5_; have NB453_451 := n6_; clear n0_ n1_ n2_ n3_ n4_ n5_ n6_; clear hb hbox hg; have hnb16 := NB453_451.out; have hnc16 := NB451_453.out; have hcz17_0 : w15.cell? ⟨gb453, 0, none⟩ = some (.int .i64 0) := (blk_cell BK453.out 0).trans rfl; have hcz17_1 : w15.cell? ⟨gb453, 1, none⟩ = some (.int .i64 0) := (blk_cell BK453.out 1).trans rfl; have hcz17_2 : w15.cell? ⟨gb453, 2, none⟩ = some (.int .i64 0) := (blk_cell BK453.out 2).trans rfl; have hfz17_0 := blk_frozen BK453.out 0; have hfz17_1 := blk_frozen BK453.out 1; have hfz17_2 := blk_frozen BK453.out 2; have p454 : 0 ≤ (x16_1 : Int) := dz; have q454 : x16_1 < (l1.length : Int) := dz; obtain ⟨ad454, e454, hx454_0⟩ := Kd.at_int HR1.out x16_1 p454 q454; cases e454; have hn454_0 : ad454.block ≠ gb453 := Nat.ne_of_lt (Nat.lt_of_lt_of_le (by have := World.block_lt_of_cell? _ _ hx454_0; first | rwa [add_block] at this | exact this) GW453.out); have hn454_1 : ad454.block ≠ gb453 := Nat.ne_of_lt (Nat.lt_of_lt_of_le (by have := World.block_lt_of_cell? _ _ hx454_0; first | rwa [add_block] at this | exact this) GW453.out); have hn454_2 : ad454.block ≠ gb453 := Nat.ne_of_lt (Nat.lt_of_lt_of_le (by have := World.block_lt_of_cell? _ _ hx454_0; first | rwa [add_block] at this | exact this) GW453.out); replace hx454_0 := xz HB hx454_0; replace hx454_0 := (cell_far (p := ⟨gb453, 0, none⟩) (by first | (rw [add_block]; exact hn454_0) | (show (Addr.add _ _).block ≠ _; rw [add_block]; exact hn454_0) | exact hn454_0) (.int .i64 ((rd_IVar l0_0 x16_1).f0))).trans hx454_0; replace hx454_0 := (cell_far (p := ⟨gb453, 1, none⟩) (by first | (rw [add_block]; exact hn454_1) | (show (Addr.add _ _).block ≠ _; rw [add_block]; exact hn454_1) | exact hn454_1) (.int .i64 ((rd_IVar l0_0 x16_1).f1))).trans hx454_0; replace hx454_0 := (cell_far (p := ⟨gb453, 2, none⟩) (by first | (rw [add_block]; exact hn454_2) | (show (Addr.add _ _).block ≠ _; rw [add_block]; exact hn454_2) | exact hn454_2) (.int .i64 ((rd_IVar l0_0 x16_1).f2))).trans hx454_0; (try have hy454_0 := fun (n_ : Nat) => (show (((((w15.drewN n_).setCell ⟨gb453, 0, none⟩ (.int .i64 ((rd_IVar l0_0 x16_1).f0))).setCell ⟨gb453, 1, none⟩ (.int .i64 ((rd_IVar l0_0 x16_1).f1))).setCell ⟨gb453, 2, none⟩ (.int .i64 ((rd_IVar l0_0 x16_1).f2)))).cell? _ = some _ from hx454_0)); clear hn454_0; clear hn454_1; clear hn454_2; replace p454 := eq_true p454; replace q454 := eq_true q454) | (go_at_call 69; (with_reducible refine (impl_in.calls (rd l1 x16_1) ((rd_IVar l0_0 x16_1).f0) ((rd_IVar l0_0 x16_1).f1) false _ A10.out).mono ?_); rintro e w' ⟨rfl, ⟨nd, rfl⟩⟩; (try first | exact ⟨rfl, _, World.drewN_drewN _ _ _⟩ | exact ⟨rfl, _, Eq.trans (World.drewN_drewN _ _ _) (congrArg (World.drewN _) (Nat.add_assoc _ _ _))⟩)))
    repeat (go_quiet (first | ((with_reducible refine gate_dst (N := 6) rfl ?_); refine box_event ?hg (N := 6) ?hd (cs := #[.int .i64 0, .int .i64 0, .int .i64 0]) (t := 62) ?hr ?_; (case hd => rfl); (case hg => rfl); (case hr => first | (go_simp; done) | (go_simp; rfl)); intro gb453 hg w15 hbox hb; have n0_ := Aside0.mk (blk_below (g := gb451) (o := .cells #[.slice (some ad452) l0_0.length c0_0, .slice A0_1 l0_1.length c0_1] 31 (0, 0)) (kz BK451) hb); have n1_ := Aside0.mk (below_step (bz1 HB GE451) hb); have n2_ := Aside0.mk (hbox); have n3_ := Aside0.mk ((by rw [hg]; exact (below_size (bz1 HB GE451)) : w.heap.size ≤ gb453)); have n4_ := Aside0.mk ((by rw [hg]; exact (below_size (bz1 HB GE451)) : w.heap.size ≤ gb453)); have n5_ := Aside0.mk ((by rw [hg]; exact Nat.ne_of_lt (blk_lt (g := gb451) (o := .cells #[.slice (some ad452) l0_0.length c0_0, .slice A0_1 l0_1.length c0_1] 31 (0, 0)) (kz BK451)) : gb451 ≠ gb453)); have n6_ := Aside0.mk ((by rw [hg]; exact Nat.ne_of_gt (blk_lt (g := gb451) (o := .cells #[.slice (some ad452) l0_0.length c0_0, .slice A0_1 l0_1.length c0_1] 31 (0, 0)) (kz BK451)) : gb453 ≠ gb451)); clear BK451; clear HB; have BK451 := n0_; have HB := n1_; have BK453 := n2_; have GW453 := n3_; have GE453 := n4_; have NB451_453 := n5_; have NB453_451 := n6_; clear n0_ n1_ n2_ n3_ n4_ n5_ n6_; clear hb hbox hg; have hnb16 := NB453_451.out; have hnc16 := NB451_453.out; have hcz17_0 : w15.cell? ⟨gb453, 0, none⟩ = some (.int .i64 0) := (blk_cell BK453.out 0).trans rfl; have hcz17_1 : w15.cell? ⟨gb453, 1, none⟩ = some (.int .i64 0) := (blk_cell BK453.out 1).trans rfl; have hcz17_2 : w15.cell? ⟨gb453, 2, none⟩ = some (.int .i64 0) := (blk_cell BK453.out 2).trans rfl; have hfz17_0 := blk_frozen BK453.out 0; have hfz17_1 := blk_frozen BK453.out 1; have hfz17_2 := blk_frozen BK453.out 2; have p454 : 0 ≤ (x16_1 : Int) := dz; have q454 : x16_1 < (l1.length : Int) := dz; obtain ⟨ad454, e454, hx454_0⟩ := Kd.at_int HR1.out x16_1 p454 q454; cases e454; have hn454_0 : ad454.block ≠ gb453 := Nat.ne_of_lt (Nat.lt_of_lt_of_le (by have := World.block_lt_of_cell? _ _ hx454_0; first | rwa [add_block] at this | exact this) GW453.out); have hn454_1 : ad454.block ≠ gb453 := Nat.ne_of_lt (Nat.lt_of_lt_of_le (by have := World.block_lt_of_cell? _ _ hx454_0; first | rwa [add_block] at this | exact this) GW453.out); have hn454_2 : ad454.block ≠ gb453 := Nat.ne_of_lt (Nat.lt_of_lt_of_le (by have := World.block_lt_of_cell? _ _ hx454_0; first | rwa [add_block] at this | exact this) GW453.out); replace hx454_0 := xz HB hx454_0; replace hx454_0 := (cell_far (p := ⟨gb453, 0, none⟩) (by first | (rw [add_block]; exact hn454_0) | (show (Addr.add _ _).block ≠ _; rw [add_block]; exact hn454_0) | exact hn454_0) (.int .i64 ((rd_IVar l0_0 x16_1).f0))).trans hx454_0; replace hx454_0 := (cell_far (p := ⟨gb453, 1, none⟩) (by first | (rw [add_block]; exact hn454_1) | (show (Addr.add _ _).block ≠ _; rw [add_block]; exact hn454_1) | exact hn454_1) (.int .i64 ((rd_IVar l0_0 x16_1).f1))).trans hx454_0; replace hx454_0 := (cell_far (p := ⟨gb453, 2, none⟩) (by first | (rw [add_block]; exact hn454_2) | (show (Addr.add _ _).block ≠ _; rw [add_block]; exact hn454_2) | exact hn454_2) (.int .i64 ((rd_IVar l0_0 x16_1).f2))).trans hx454_0; (try have hy454_0 := fun (n_ : Nat) => (show (((((w15.drewN n_).setCell ⟨gb453, 0, none⟩ (.int .i64 ((rd_IVar l0_0 x16_1).f0))).setCell ⟨gb453, 1, none⟩ (.int .i64 ((rd_IVar l0_0 x16_1).f1))).setCell ⟨gb453, 2, none⟩ (.int .i64 ((rd_IVar l0_0 x16_1).f2)))).cell? _ = some _ from hx454_0)); clear hn454_0; clear hn454_1; clear hn454_2; replace p454 := eq_true p454; replace q454 := eq_true q454) | (go_at_call 69; (with_reducible refine (impl_in.calls (rd l1 x16_1) ((rd_IVar l0_0 x16_1).f0) ((rd_IVar l0_0 x16_1).f1) false _ A10.out).mono ?_); rintro e w' ⟨rfl, ⟨nd, rfl⟩⟩; (try first | exact ⟨rfl, _, World.drewN_drewN _ _ _⟩ | exact ⟨rfl, _, Eq.trans (World.drewN_drewN _ _ _) (congrArg (World.drewN _) (Nat.add_assoc _ _ _))⟩))); try go_wp2_with (first | ((with_reducible refine gate_dst (N := 6) rfl ?_); refine box_event ?hg (N := 6) ?hd (cs := #[.int .i64 0, .int .i64 0, .int .i64 0]) (t := 62) ?hr ?_; (case hd => rfl); (case hg => rfl); (case hr => first | (go_simp; done) | (go_simp; rfl)); intro gb453 hg w15 hbox hb; have n0_ := Aside0.mk (blk_below (g := gb451) (o := .cells #[.slice (some ad452) l0_0.length c0_0, .slice A0_1 l0_1.length c0_1] 31 (0, 0)) (kz BK451) hb); have n1_ := Aside0.mk (below_step (bz1 HB GE451) hb); have n2_ := Aside0.mk (hbox); have n3_ := Aside0.mk ((by rw [hg]; exact (below_size (bz1 HB GE451)) : w.heap.size ≤ gb453)); have n4_ := Aside0.mk ((by rw [hg]; exact (below_size (bz1 HB GE451)) : w.heap.size ≤ gb453)); have n5_ := Aside0.mk ((by rw [hg]; exact Nat.ne_of_lt (blk_lt (g := gb451) (o := .cells #[.slice (some ad452) l0_0.length c0_0, .slice A0_1 l0_1.length c0_1] 31 (0, 0)) (kz BK451)) : gb451 ≠ gb453)); have n6_ := Aside0.mk ((by rw [hg]; exact Nat.ne_of_gt (blk_lt (g := gb451) (o := .cells #[.slice (some ad452) l0_0.length c0_0, .slice A0_1 l0_1.length c0_1] 31 (0, 0)) (kz BK451)) : gb453 ≠ gb451)); clear BK451; clear HB; have BK451 := n0_; have HB := n1_; have BK453 := n2_; have GW453 := n3_; have GE453 := n4_; have NB451_453 := n5_; have NB453_451 := n6_; clear n0_ n1_ n2_ n3_ n4_ n5_ n6_; clear hb hbox hg; have hnb16 := NB453_451.out; have hnc16 := NB451_453.out; have hcz17_0 : w15.cell? ⟨gb453, 0, none⟩ = some (.int .i64 0) := (blk_cell BK453.out 0).trans rfl; have hcz17_1 : w15.cell? ⟨gb453, 1, none⟩ = some (.int .i64 0) := (blk_cell BK453.out 1).trans rfl; have hcz17_2 : w15.cell? ⟨gb453, 2, none⟩ = some (.int .i64 0) := (blk_cell BK453.out 2).trans rfl; have hfz17_0 := blk_frozen BK453.out 0; have hfz17_1 := blk_frozen BK453.out 1; have hfz17_2 := blk_frozen BK453.out 2; have p454 : 0 ≤ (x16_1 : Int) := dz; have q454 : x16_1 < (l1.length : Int) := dz; obtain ⟨ad454, e454, hx454_0⟩ := Kd.at_int HR1.out x16_1 p454 q454; cases e454; have hn454_0 : ad454.block ≠ gb453 := Nat.ne_of_lt (Nat.lt_of_lt_of_le (by have := World.block_lt_of_cell? _ _ hx454_0; first | rwa [add_block] at this | exact this) GW453.out); have hn454_1 : ad454.block ≠ gb453 := Nat.ne_of_lt (Nat.lt_of_lt_of_le (by have := World.block_lt_of_cell? _ _ hx454_0; first | rwa [add_block] at this | exact this) GW453.out); have hn454_2 : ad454.block ≠ gb453 := Nat.ne_of_lt (Nat.lt_of_lt_of_le (by have := World.block_lt_of_cell? _ _ hx454_0; first | rwa [add_block] at this | exact this) GW453.out); replace hx454_0 := xz HB hx454_0; replace hx454_0 := (cell_far (p := ⟨gb453, 0, none⟩) (by first | (rw [add_block]; exact hn454_0) | (show (Addr.add _ _).block ≠ _; rw [add_block]; exact hn454_0) | exact hn454_0) (.int .i64 ((rd_IVar l0_0 x16_1).f0))).trans hx454_0; replace hx454_0 := (cell_far (p := ⟨gb453, 1, none⟩) (by first | (rw [add_block]; exact hn454_1) | (show (Addr.add _ _).block ≠ _; rw [add_block]; exact hn454_1) | exact hn454_1) (.int .i64 ((rd_IVar l0_0 x16_1).f1))).trans hx454_0; replace hx454_0 := (cell_far (p := ⟨gb453, 2, none⟩) (by first | (rw [add_block]; exact hn454_2) | (show (Addr.add _ _).block ≠ _; rw [add_block]; exact hn454_2) | exact hn454_2) (.int .i64 ((rd_IVar l0_0 x16_1).f2))).trans hx454_0; (try have hy454_0 := fun (n_ : Nat) => (show (((((w15.drewN n_).setCell ⟨gb453, 0, none⟩ (.int .i64 ((rd_IVar l0_0 x16_1).f0))).setCell ⟨gb453, 1, none⟩ (.int .i64 ((rd_IVar l0_0 x16_1).f1))).setCell ⟨gb453, 2, none⟩ (.int .i64 ((rd_IVar l0_0 x16_1).f2)))).cell? _ = some _ from hx454_0)); clear hn454_0; clear hn454_1; clear hn454_2; replace p454 := eq_true p454; replace q454 := eq_true q454) | (go_at_call 69; (with_reducible refine (impl_in.calls (rd l1 x16_1) ((rd_IVar l0_0 x16_1).f0) ((rd_IVar l0_0 x16_1).f1) false _ A10.out).mono ?_); rintro e w' ⟨rfl, ⟨nd, rfl⟩⟩; (try first | exact ⟨rfl, _, World.drewN_drewN _ _ _⟩ | exact ⟨rfl, _, Eq.trans (World.drewN_drewN _ _ _) (congrArg (World.drewN _) (Nat.add_assoc _ _ _))⟩))))
    go_ret
    exact ⟨rz, bz2 HB GE451 GE453⟩
   subst c11
   rw [if_pos rfl] at H
   have H' := Aside0.mk H
   clear H
   have p452 : 0 ≤ (x16_1 : Int) := dz
   have q452 : x16_1 < (l0_0.length : Int) := dz
   obtain ⟨ad452, e452, hx452_0, hx452_1, hx452_2⟩ := at_IVar HR0_0.out x16_1 p452 q452
   cases e452
   replace hx452_0 := xz HB hx452_0
   replace hx452_1 := xz HB hx452_1
   replace hx452_2 := xz HB hx452_2
   replace p452 := eq_true p452
   replace q452 := eq_true q452
   go_wp2_with (first | ((with_reducible refine gate_dst (N := 6) rfl ?_); refine box_event ?hg (N := 6) ?hd (cs := #[.int .i64 0, .int .i64 0, .int .i64 0]) (t := 62) ?hr ?_; (case hd => rfl); (case hg => rfl); (case hr => first | (go_simp; done) | (go_simp; rfl)); intro gb453 hg w12 hbox hb; have n0_ := Aside0.mk (blk_below (g := gb451) (o := .cells #[.slice (some ad452) l0_0.length c0_0, .slice A0_1 l0_1.length c0_1] 31 (0, 0)) (kz BK451) hb); have n1_ := Aside0.mk (below_step (bz1 HB GE451) hb); have n2_ := Aside0.mk (hbox); have n3_ := Aside0.mk ((by rw [hg]; exact (below_size (bz1 HB GE451)) : w.heap.size ≤ gb453)); have n4_ := Aside0.mk ((by rw [hg]; exact (below_size (bz1 HB GE451)) : w.heap.size ≤ gb453)); have n5_ := Aside0.mk ((by rw [hg]; exact Nat.ne_of_lt (blk_lt (g := gb451) (o := .cells #[.slice (some ad452) l0_0.length c0_0, .slice A0_1 l0_1.length c0_1] 31 (0, 0)) (kz BK451)) : gb451 ≠ gb453)); have n6_ := Aside0.mk ((by rw [hg]; exact Nat.ne_of_gt (blk_lt (g := gb451) (o := .cells #[.slice (some ad452) l0_0.length c0_0, .slice A0_1 l0_1.length c0_1] 31 (0, 0)) (kz BK451)) : gb453 ≠ gb451)); clear BK451; clear HB; have BK451 := n0_; have HB := n1_; have BK453 := n2_; have GW453 := n3_; have GE453 := n4_; have NB451_453 := n5_; have NB453_451 := n6_; clear n0_ n1_ n2_ n3_ n4_ n5_ n6_; clear hb hbox hg; have hnb13 := NB453_451.out; have hnc13 := NB451_453.out; have hcz14_0 : w12.cell? ⟨gb453, 0, none⟩ = some (.int .i64 0) := (blk_cell BK453.out 0).trans rfl; have hcz14_1 : w12.cell? ⟨gb453, 1, none⟩ = some (.int .i64 0) := (blk_cell BK453.out 1).trans rfl; have hcz14_2 : w12.cell? ⟨gb453, 2, none⟩ = some (.int .i64 0) := (blk_cell BK453.out 2).trans rfl; have hfz14_0 := blk_frozen BK453.out 0; have hfz14_1 := blk_frozen BK453.out 1; have hfz14_2 := blk_frozen BK453.out 2; have p454 : 0 ≤ (x16_1 : Int) := dz; have q454 : x16_1 < (l1.length : Int) := dz; obtain ⟨ad454, e454, hx454_0⟩ := Kd.at_int HR1.out x16_1 p454 q454; cases e454; have hn454_0 : ad454.block ≠ gb453 := Nat.ne_of_lt (Nat.lt_of_lt_of_le (by have := World.block_lt_of_cell? _ _ hx454_0; first | rwa [add_block] at this | exact this) GW453.out); have hn454_1 : ad454.block ≠ gb453 := Nat.ne_of_lt (Nat.lt_of_lt_of_le (by have := World.block_lt_of_cell? _ _ hx454_0; first | rwa [add_block] at this | exact this) GW453.out); have hn454_2 : ad454.block ≠ gb453 := Nat.ne_of_lt (Nat.lt_of_lt_of_le (by have := World.block_lt_of_cell? _ _ hx454_0; first | rwa [add_block] at this | exact this) GW453.out); replace hx454_0 := xz HB hx454_0; replace hx454_0 := (cell_far (p := ⟨gb453, 0, none⟩) (by first | (rw [add_block]; exact hn454_0) | (show (Addr.add _ _).block ≠ _; rw [add_block]; exact hn454_0) | exact hn454_0) (.int .i64 ((rd_IVar l0_0 x16_1).f0))).trans hx454_0; replace hx454_0 := (cell_far (p := ⟨gb453, 1, none⟩) (by first | (rw [add_block]; exact hn454_1) | (show (Addr.add _ _).block ≠ _; rw [add_block]; exact hn454_1) | exact hn454_1) (.int .i64 ((rd_IVar l0_0 x16_1).f1))).trans hx454_0; replace hx454_0 := (cell_far (p := ⟨gb453, 2, none⟩) (by first | (rw [add_block]; exact hn454_2) | (show (Addr.add _ _).block ≠ _; rw [add_block]; exact hn454_2) | exact hn454_2) (.int .i64 ((rd_IVar l0_0 x16_1).f2))).trans hx454_0; (try have hy454_0 := fun (n_ : Nat) => (show (((((w12.drewN n_).setCell ⟨gb453, 0, none⟩ (.int .i64 ((rd_IVar l0_0 x16_1).f0))).setCell ⟨gb453, 1, none⟩ (.int .i64 ((rd_IVar l0_0 x16_1).f1))).setCell ⟨gb453, 2, none⟩ (.int .i64 ((rd_IVar l0_0 x16_1).f2)))).cell? _ = some _ from hx454_0)); clear hn454_0; clear hn454_1; clear hn454_2; replace p454 := eq_true p454; replace q454 := eq_true q454) | (go_at_call 69; (with_reducible refine (impl_in.calls (rd l1 x16_1) ((rd_IVar l0_0 x16_1).f0) ((rd_IVar l0_0 x16_1).f1) true _ A10.out).mono ?_); rintro e w' ⟨rfl, ⟨nd, rfl⟩⟩; (try first | exact ⟨rfl, _, World.drewN_drewN _ _ _⟩ | exact ⟨rfl, _, Eq.trans (World.drewN_drewN _ _ _) (congrArg (World.drewN _) (Nat.add_assoc _ _ _))⟩)))
   repeat (go_quiet (first | ((with_reducible refine gate_dst (N := 6) rfl ?_); refine box_event ?hg (N := 6) ?hd (cs := #[.int .i64 0, .int .i64 0, .int .i64 0]) (t := 62) ?hr ?_; (case hd => rfl); (case hg => rfl); (case hr => first | (go_simp; done) | (go_simp; rfl)); intro gb453 hg w12 hbox hb; have n0_ := Aside0.mk (blk_below (g := gb451) (o := .cells #[.slice (some ad452) l0_0.length c0_0, .slice A0_1 l0_1.length c0_1] 31 (0, 0)) (kz BK451) hb); have n1_ := Aside0.mk (below_step (bz1 HB GE451) hb); have n2_ := Aside0.mk (hbox); have n3_ := Aside0.mk ((by rw [hg]; exact (below_size (bz1 HB GE451)) : w.heap.size ≤ gb453)); have n4_ := Aside0.mk ((by rw [hg]; exact (below_size (bz1 HB GE451)) : w.heap.size ≤ gb453)); have n5_ := Aside0.mk ((by rw [hg]; exact Nat.ne_of_lt (blk_lt (g := gb451) (o := .cells #[.slice (some ad452) l0_0.length c0_0, .slice A0_1 l0_1.length c0_1] 31 (0, 0)) (kz BK451)) : gb451 ≠ gb453)); have n6_ := Aside0.mk ((by rw [hg]; exact Nat.ne_of_gt (blk_lt (g := gb451) (o := .cells #[.slice (some ad452) l0_0.length c0_0, .slice A0_1 l0_1.length c0_1] 31 (0, 0)) (kz BK451)) : gb453 ≠ gb451)); clear BK451; clear HB; have BK451 := n0_; have HB := n1_; have BK453 := n2_; have GW453 := n3_; have GE453 := n4_; have NB451_453 := n5_; have NB453_451 := n6_; clear n0_ n1_ n2_ n3_ n4_ n5_ n6_; clear hb hbox hg; have hnb13 := NB453_451.out; have hnc13 := NB451_453.out; have hcz14_0 : w12.cell? ⟨gb453, 0, none⟩ = some (.int .i64 0) := (blk_cell BK453.out 0).trans rfl; have hcz14_1 : w12.cell? ⟨gb453, 1, none⟩ = some (.int .i64 0) := (blk_cell BK453.out 1).trans rfl; have hcz14_2 : w12.cell? ⟨gb453, 2, none⟩ = some (.int .i64 0) := (blk_cell BK453.out 2).trans rfl; have hfz14_0 := blk_frozen BK453.out 0; have hfz14_1 := blk_frozen BK453.out 1; have hfz14_2 := blk_frozen BK453.out 2; have p454 : 0 ≤ (x16_1 : Int) := dz; have q454 : x16_1 < (l1.length : Int) := dz; obtain ⟨ad454, e454, hx454_0⟩ := Kd.at_int HR1.out x16_1 p454 q454; cases e454; have hn454_0 : ad454.block ≠ gb453 := Nat.ne_of_lt (Nat.lt_of_lt_of_le (by have := World.block_lt_of_cell? _ _ hx454_0; first | rwa [add_block] at this | exact this) GW453.out); have hn454_1 : ad454.block ≠ gb453 := Nat.ne_of_lt (Nat.lt_of_lt_of_le (by have := World.block_lt_of_cell? _ _ hx454_0; first | rwa [add_block] at this | exact this) GW453.out); have hn454_2 : ad454.block ≠ gb453 := Nat.ne_of_lt (Nat.lt_of_lt_of_le (by have := World.block_lt_of_cell? _ _ hx454_0; first | rwa [add_block] at this | exact this) GW453.out); replace hx454_0 := xz HB hx454_0; replace hx454_0 := (cell_far (p := ⟨gb453, 0, none⟩) (by first | (rw [add_block]; exact hn454_0) | (show (Addr.add _ _).block ≠ _; rw [add_block]; exact hn454_0) | exact hn454_0) (.int .i64 ((rd_IVar l0_0 x16_1).f0))).trans hx454_0; replace hx454_0 := (cell_far (p := ⟨gb453, 1, none⟩) (by first | (rw [add_block]; exact hn454_1) | (show (Addr.add _ _).block ≠ _; rw [add_block]; exact hn454_1) | exact hn454_1) (.int .i64 ((rd_IVar l0_0 x16_1).f1))).trans hx454_0; replace hx454_0 := (cell_far (p := ⟨gb453, 2, none⟩) (by first | (rw [add_block]; exact hn454_2) | (show (Addr.add _ _).block ≠ _; rw [add_block]; exact hn454_2) | exact hn454_2) (.int .i64 ((rd_IVar l0_0 x16_1).f2))).trans hx454_0; (try have hy454_0 := fun (n_ : Nat) => (show (((((w12.drewN n_).setCell ⟨gb453, 0, none⟩ (.int .i64 ((rd_IVar l0_0 x16_1).f0))).setCell ⟨gb453, 1, none⟩ (.int .i64 ((rd_IVar l0_0 x16_1).f1))).setCell ⟨gb453, 2, none⟩ (.int .i64 ((rd_IVar l0_0 x16_1).f2)))).cell? _ = some _ from hx454_0)); clear hn454_0; clear hn454_1; clear hn454_2; replace p454 := eq_true p454; replace q454 := eq_true q454) | (go_at_call 69; (with_reducible refine (impl_in.calls (rd l1 x16_1) ((rd_IVar l0_0 x16_1).f0) ((rd_IVar l0_0 x16_1).f1) true _ A10.out).mono ?_); rintro e w' ⟨rfl, ⟨nd, rfl⟩⟩; (try first | exact ⟨rfl, _, World.drewN_drewN _ _ _⟩ | exact ⟨rfl, _, Eq.trans (World.drewN_drewN _ _ _) (congrArg (World.drewN _) (Nat.add_assoc _ _ _))⟩))); try go_wp2_with (first | ((with_reducible refine gate_dst (N := 6) rfl ?_); refine box_event ?hg (N := 6) ?hd (cs := #[.int .i64 0, .int .i64 0, .int .i64 0]) (t := 62) ?hr ?_; (case hd => rfl); (case hg => rfl); (case hr => first | (go_simp; done) | (go_simp; rfl)); intro gb453 hg w12 hbox hb; have n0_ := Aside0.mk (blk_below (g := gb451) (o := .cells #[.slice (some ad452) l0_0.length c0_0, .slice A0_1 l0_1.length c0_1] 31 (0, 0)) (kz BK451) hb); have n1_ := Aside0.mk (below_step (bz1 HB GE451) hb); have n2_ := Aside0.mk (hbox); have n3_ := Aside0.mk ((by rw [hg]; exact (below_size (bz1 HB GE451)) : w.heap.size ≤ gb453)); have n4_ := Aside0.mk ((by rw [hg]; exact (below_size (bz1 HB GE451)) : w.heap.size ≤ gb453)); have n5_ := Aside0.mk ((by rw [hg]; exact Nat.ne_of_lt (blk_lt (g := gb451) (o := .cells #[.slice (some ad452) l0_0.length c0_0, .slice A0_1 l0_1.length c0_1] 31 (0, 0)) (kz BK451)) : gb451 ≠ gb453)); have n6_ := Aside0.mk ((by rw [hg]; exact Nat.ne_of_gt (blk_lt (g := gb451) (o := .cells #[.slice (some ad452) l0_0.length c0_0, .slice A0_1 l0_1.length c0_1] 31 (0, 0)) (kz BK451)) : gb453 ≠ gb451)); clear BK451; clear HB; have BK451 := n0_; have HB := n1_; have BK453 := n2_; have GW453 := n3_; have GE453 := n4_; have NB451_453 := n5_; have NB453_451 := n6_; clear n0_ n1_ n2_ n3_ n4_ n5_ n6_; clear hb hbox hg; have hnb13 := NB453_451.out; have hnc13 := NB451_453.out; have hcz14_0 : w12.cell? ⟨gb453, 0, none⟩ = some (.int .i64 0) := (blk_cell BK453.out 0).trans rfl; have hcz14_1 : w12.cell? ⟨gb453, 1, none⟩ = some (.int .i64 0) := (blk_cell BK453.out 1).trans rfl; have hcz14_2 : w12.cell? ⟨gb453, 2, none⟩ = some (.int .i64 0) := (blk_cell BK453.out 2).trans rfl; have hfz14_0 := blk_frozen BK453.out 0; have hfz14_1 := blk_frozen BK453.out 1; have hfz14_2 := blk_frozen BK453.out 2; have p454 : 0 ≤ (x16_1 : Int) := dz; have q454 : x16_1 < (l1.length : Int) := dz; obtain ⟨ad454, e454, hx454_0⟩ := Kd.at_int HR1.out x16_1 p454 q454; cases e454; have hn454_0 : ad454.block ≠ gb453 := Nat.ne_of_lt (Nat.lt_of_lt_of_le (by have := World.block_lt_of_cell? _ _ hx454_0; first | rwa [add_block] at this | exact this) GW453.out); have hn454_1 : ad454.block ≠ gb453 := Nat.ne_of_lt (Nat.lt_of_lt_of_le (by have := World.block_lt_of_cell? _ _ hx454_0; first | rwa [add_block] at this | exact this) GW453.out); have hn454_2 : ad454.block ≠ gb453 := Nat.ne_of_lt (Nat.lt_of_lt_of_le (by have := World.block_lt_of_cell? _ _ hx454_0; first | rwa [add_block] at this | exact this) GW453.out); replace hx454_0 := xz HB hx454_0; replace hx454_0 := (cell_far (p := ⟨gb453, 0, none⟩) (by first | (rw [add_block]; exact hn454_0) | (show (Addr.add _ _).block ≠ _; rw [add_block]; exact hn454_0) | exact hn454_0) (.int .i64 ((rd_IVar l0_0 x16_1).f0))).trans hx454_0; replace hx454_0 := (cell_far (p := ⟨gb453, 1, none⟩) (by first | (rw [add_block]; exact hn454_1) | (show (Addr.add _ _).block ≠ _; rw [add_block]; exact hn454_1) | exact hn454_1) (.int .i64 ((rd_IVar l0_0 x16_1).f1))).trans hx454_0; replace hx454_0 := (cell_far (p := ⟨gb453, 2, none⟩) (by first | (rw [add_block]; exact hn454_2) | (show (Addr.add _ _).block ≠ _; rw [add_block]; exact hn454_2) | exact hn454_2) (.int .i64 ((rd_IVar l0_0 x16_1).f2))).trans hx454_0; (try have hy454_0 := fun (n_ : Nat) => (show (((((w12.drewN n_).setCell ⟨gb453, 0, none⟩ (.int .i64 ((rd_IVar l0_0 x16_1).f0))).setCell ⟨gb453, 1, none⟩ (.int .i64 ((rd_IVar l0_0 x16_1).f1))).setCell ⟨gb453, 2, none⟩ (.int .i64 ((rd_IVar l0_0 x16_1).f2)))).cell? _ = some _ from hx454_0)); clear hn454_0; clear hn454_1; clear hn454_2; replace p454 := eq_true p454; replace q454 := eq_true q454) | (go_at_call 69; (with_reducible refine (impl_in.calls (rd l1 x16_1) ((rd_IVar l0_0 x16_1).f0) ((rd_IVar l0_0 x16_1).f1) true _ A10.out).mono ?_); rintro e w' ⟨rfl, ⟨nd, rfl⟩⟩; (try first | exact ⟨rfl, _, World.drewN_drewN _ _ _⟩ | exact ⟨rfl, _, Eq.trans (World.drewN_drewN _ _ _) (congrArg (World.drewN _) (Nat.add_assoc _ _ _))⟩))))
   go_roundg k1
   case measure => have := HK1.out; omega
   case rel => exact ⟨(wrap64 (x16_1 + 1)), rq, H', ⟨by have := HK1.out; omega⟩, ⟨by (with_reducible repeat (first | refine blk_drewN ?_ _ | refine blk_drew ?_ | refine blk_alloc ?_ _)); refine blk_far ?_ NB451_453.out _; (with_reducible repeat (first | refine blk_drewN ?_ _ | refine blk_drew ?_ | refine blk_alloc ?_ _)); refine blk_far ?_ NB451_453.out _; (with_reducible repeat (first | refine blk_drewN ?_ _ | refine blk_drew ?_ | refine blk_alloc ?_ _)); refine blk_far ?_ NB451_453.out _; exact kz BK451⟩, ⟨bz2 HB GE451 GE453⟩⟩
end Go.Proofs.Ytoofhjflfpccdaa.PA
end
section
namespace Go.Proofs.Ytoofhjflfpccdaa.PA
open Go.RowKit Go.Proofs.YtoofhjflfpccdaaW.PrintWords Go.Proofs.YtoofhjflfpccdaaW.PrintLast Go.Proofs.YtoofhjflfpccdaaW.PrintMore
attribute [local go_sem] max2_int min2_int max_two min_two max_three min_three max_four min_four   -- for this text's walks alone
set_option linter.unusedVariables false
set_option linter.unusedSimpArgs false
set_option maxHeartbeats 8000000 in
set_option maxRecDepth 100000 in
theorem impl_InRange.calls (k : Nat) (A0_0 : Option Addr) (c0_0 : Nat) (l0_0 : List (IVar)) (A0_1 : Option Addr) (c0_1 : Nat) (l0_1 : List (IRule)) (A1 : Option Addr) (c1 : Nat) (l1 : List Int) (r : Bool) (w : World) (hr0_0 : Kd.C k62 w A0_0 l0_0.length l0_0) (hc0_0 : l0_0.length ≤ c0_0) (hr0_1 : Kd.C k81 w A0_1 l0_1.length l0_1) (hc0_1 : l0_1.length ≤ c0_1) (hr1 : Kd.C (Kd.int .i64) w A1 l1.length l1) (hc1 : l1.length ≤ c1) (h : impl_InRange.f k l0_0 l0_1 l1 = some r) :
  Calls Try.prog 63 #[.agg #[.slice A0_0 l0_0.length c0_0, .slice A0_1 l0_1.length c0_1], .slice A1 l1.length c1] w fun e w' => e = .returned (.bool r) ∧ Below w.heap.size w w' := by
 have hu31 := Try.underlying31
 have HR0_0 := Aside0.mk hr0_0
 have HC0_0 := Aside0.mk hc0_0
 clear hr0_0 hc0_0
 have HR0_1 := Aside0.mk hr0_1
 have HC0_1 := Aside0.mk hc0_1
 clear hr0_1 hc0_1
 have HR1 := Aside0.mk hr1
 have HC1 := Aside0.mk hc1
 clear hr1 hc1
 have HB := Aside0.mk (Below.refl w.heap.size w)
 have H : ((impl_SystemValid.f k l0_0 l0_1).bind fun t457 => (if t457 = true then ((impl_inRange.f k l0_0 l0_1 l1).bind fun t458 => (some t458)) else (some false))) = some r := h
 clear h
 replace H := Option.bind_eq_some_iff.mp H
 obtain ⟨t457, A30, H⟩ := H
 have A3 := Aside0.mk A30
 clear A30
 by_cases c4 : t457 = true
 case neg =>
  replace c4 := Bool.eq_false_iff.mpr c4
  subst c4
  rw [if_neg nt_] at H
  obtain rfl := Option.some.inj H
  go_enter Try.func63, Try.ntmps63
  go_wp2_with (first | ((with_reducible refine gate_dst (N := 2) rfl ?_); refine box_event ?hg (N := 2) ?hd (cs := #[.slice A0_0 l0_0.length c0_0, .slice A0_1 l0_1.length c0_1]) (t := 31) ?hr ?_; (case hd => rfl); (case hg => rfl); (case hr => first | (go_simp; done) | (go_simp; rfl)); intro gb456 hg w11 hbox hb; have n0_ := Aside0.mk (below_step (bz HB) hb); have n1_ := Aside0.mk (hbox); have n2_ := Aside0.mk ((by rw [hg]; exact (below_size (bz HB)) : w.heap.size ≤ gb456)); have n3_ := Aside0.mk ((by rw [hg]; exact (below_size (bz HB)) : w.heap.size ≤ gb456)); clear HB; have HB := n0_; have BK456 := n1_; have GW456 := n2_; have GE456 := n3_; clear n0_ n1_ n2_ n3_; clear hb hbox hg; have hcz12_0 : w11.cell? ⟨gb456, 0, none⟩ = some (.slice A0_0 l0_0.length c0_0) := (blk_cell BK456.out 0).trans rfl; have hcz12_1 : w11.cell? ⟨gb456, 1, none⟩ = some (.slice A0_1 l0_1.length c0_1) := (blk_cell BK456.out 1).trans rfl; have hfz12_0 := blk_frozen BK456.out 0; have hfz12_1 := blk_frozen BK456.out 1) | ((with_reducible refine gate_callee (f := 57) rfl ?_); refine goesL_ (some 6) rfl rfl Try.func57 (by kernel_rfl) rfl #[.agg #[.slice A0_0 l0_0.length c0_0, .slice A0_1 l0_1.length c0_1]] rfl az ?_; (with_reducible refine (impl_SystemValid.calls k _ _ l0_0 _ _ l0_1 false _ ?side1 HC0_0.out ?side3 HC0_1.out A3.out).mono ?_); (case side1 => exact cz HR0_0 HB); (case side3 => exact cz HR0_1 HB); rintro e w13 ⟨rfl, hb⟩; refine ⟨_, rfl, ?_⟩; replace BK456 := Aside0.mk (blk_below (g := gb456) (o := .cells #[.slice A0_0 l0_0.length c0_0, .slice A0_1 l0_1.length c0_1] 31 (0, 0)) (kz BK456) hb); replace HB := Aside0.mk (below_step (bz1 HB GE456) hb); clear hb))
  go_ret
  exact ⟨rz, bz1 HB GE456⟩
 subst c4
 rw [if_pos rfl] at H
 replace H := Option.bind_eq_some_iff.mp H
 obtain ⟨t458, A50, H⟩ := H
 have A5 := Aside0.mk A50
 clear A50
 obtain rfl := Option.some.inj H
 go_enter Try.func63, Try.ntmps63
 go_wp2_with (first | ((with_reducible refine gate_dst (N := 2) rfl ?_); refine box_event ?hg (N := 2) ?hd (cs := #[.slice A0_0 l0_0.length c0_0, .slice A0_1 l0_1.length c0_1]) (t := 31) ?hr ?_; (case hd => rfl); (case hg => rfl); (case hr => first | (go_simp; done) | (go_simp; rfl)); intro gb456 hg w6 hbox hb; have n0_ := Aside0.mk (below_step (bz HB) hb); have n1_ := Aside0.mk (hbox); have n2_ := Aside0.mk ((by rw [hg]; exact (below_size (bz HB)) : w.heap.size ≤ gb456)); have n3_ := Aside0.mk ((by rw [hg]; exact (below_size (bz HB)) : w.heap.size ≤ gb456)); clear HB; have HB := n0_; have BK456 := n1_; have GW456 := n2_; have GE456 := n3_; clear n0_ n1_ n2_ n3_; clear hb hbox hg; have hcz7_0 : w6.cell? ⟨gb456, 0, none⟩ = some (.slice A0_0 l0_0.length c0_0) := (blk_cell BK456.out 0).trans rfl; have hcz7_1 : w6.cell? ⟨gb456, 1, none⟩ = some (.slice A0_1 l0_1.length c0_1) := (blk_cell BK456.out 1).trans rfl; have hfz7_0 := blk_frozen BK456.out 0; have hfz7_1 := blk_frozen BK456.out 1) | ((with_reducible refine gate_callee (f := 57) rfl ?_); refine goesL_ (some 6) rfl rfl Try.func57 (by kernel_rfl) rfl #[.agg #[.slice A0_0 l0_0.length c0_0, .slice A0_1 l0_1.length c0_1]] rfl az ?_; (with_reducible refine (impl_SystemValid.calls k _ _ l0_0 _ _ l0_1 true _ ?side1 ?side2 ?side3 ?side4 A3.out).mono ?_); (case side1 => exact cz HR0_0 HB); (case side2 => exact HC0_0.out); (case side3 => exact cz HR0_1 HB); (case side4 => exact HC0_1.out); rintro e w8 ⟨rfl, hb⟩; refine ⟨_, rfl, ?_⟩; replace BK456 := Aside0.mk (blk_below (g := gb456) (o := .cells #[.slice A0_0 l0_0.length c0_0, .slice A0_1 l0_1.length c0_1] 31 (0, 0)) (kz BK456) hb); replace HB := Aside0.mk (below_step (bz1 HB GE456) hb); clear hb; have hcz9_0 : w8.cell? ⟨gb456, 0, none⟩ = some (.slice A0_0 l0_0.length c0_0) := (blk_cell BK456.out 0).trans rfl; have hcz9_1 : w8.cell? ⟨gb456, 1, none⟩ = some (.slice A0_1 l0_1.length c0_1) := (blk_cell BK456.out 1).trans rfl; have hfz9_0 := blk_frozen BK456.out 0; have hfz9_1 := blk_frozen BK456.out 1) | (go_at_call 74; (with_reducible refine (impl_inRange.calls k _ _ l0_0 _ _ l0_1 _ _ l1 t458 _ ?side1 ?side2 ?side3 ?side4 ?side5 HC1.out A5.out).mono ?_); (case side1 => exact cz HR0_0 HB); (case side2 => exact HC0_0.out); (case side3 => exact cz HR0_1 HB); (case side4 => exact HC0_1.out); (case side5 => exact cz HR1 HB); rintro e w10 ⟨rfl, hb⟩; replace BK456 := Aside0.mk (blk_below (g := gb456) (o := .cells #[.slice A0_0 l0_0.length c0_0, .slice A0_1 l0_1.length c0_1] 31 (0, 0)) (kz BK456) hb); replace HB := Aside0.mk (below_step (bz1 HB GE456) hb); clear hb))
 go_ret
 exact ⟨rz, bz1 HB GE456⟩
end Go.Proofs.Ytoofhjflfpccdaa.PA
end
section
namespace Go.Proofs.Ytoofhjflfpccdaa.PA
open Go.RowKit Go.Proofs.YtoofhjflfpccdaaW.PrintWords Go.Proofs.YtoofhjflfpccdaaW.PrintLast Go.Proofs.YtoofhjflfpccdaaW.PrintMore
attribute [local go_sem] max2_int min2_int max_two min_two max_three min_three max_four min_four   -- for this text's walks alone
set_option linter.unusedVariables false
set_option linter.unusedSimpArgs false
set_option maxHeartbeats 8000000 in
set_option maxRecDepth 100000 in
theorem impl_clone_int.calls (A0 : Option Addr) (c0 : Nat) (l0 : List Int) (r : List Int) (w : World) (hr0 : Kd.C (Kd.int .i64) w A0 l0.length l0) (hc0 : l0.length ≤ c0) (h : impl_clone_int.f l0 = some r) :
  Calls Try.prog 101 #[.slice A0 l0.length c0] w fun e w' => ∃ v0_ : Value, e = .returned (v0_) ∧ Kd.R (Kd.int .i64) 3 w' w.heap.size (fun _ => True) v0_ r ∧ Below w.heap.size w w' := by
 have HR0 := Aside0.mk hr0
 have HC0 := Aside0.mk hc0
 clear hr0 hc0
 have hlen : l0.length ≤ 35184372088832 := by
  unfold impl_clone_int.f at h
  by_cases hh : l0.length ≤ 35184372088832
  case pos => exact hh
  rw [if_neg hh] at h; exact absurd h (by simp)
 obtain rfl : l0 = r := by
  unfold impl_clone_int.f at h
  rw [if_pos hlen] at h
  exact Option.some.inj h
 clear h
 have HB := Aside0.mk (Below.refl w.heap.size w)
 by_cases c1 : (l0.length : Int) = 0
 case pos =>
  have e0 : l0 = [] := List.length_eq_zero_iff.1 (by omega)
  subst e0
  clear c1 hlen
  go_enter Try.func101, Try.ntmps101
  go_wp2
  go_ret
  exact ⟨_, rz, nz, bz HB⟩
 have c1b0 := eq_false c1
 have c1b1 : decide ((l0.length : Int) = 0) = false := decide_eq_false c1
 have c1b2 : ((l0.length : Int) == 0) = false := beq_eq_false_iff_ne.2 c1
 have hmin : min l0.length (List.replicate (l0.length : Int).toNat (0 : Int)).length = l0.length := by simp
 have hres : l0.take (min l0.length (List.replicate (l0.length : Int).toNat (0 : Int)).length) ++ (List.replicate (l0.length : Int).toNat (0 : Int)).drop (min l0.length (List.replicate (l0.length : Int).toNat (0 : Int)).length) = l0 := by rw [hmin]; simp
 have hsz : (Try.prog.info? 3).map (·.size) = some 1 := by
  have h_ := info3
  rcases hq : Try.prog.info? 3 with _ | i_ <;> simp_all
 clear c1 hmin
 go_enter Try.func101, Try.ntmps101
 go_wp2_with (first | ((with_reducible refine gate_dst (N := 9) rfl ?_); refine Kd.R_make (Kd.int .i64) _ 3 rfl (N := 9) rfl 35 _ _ rfl (l0.length : Int) rfl rfl Try.underlying35 (.int .i64 0) 8 info3 rfl (by decide) (by omega) 0 (ok := fun _ => True) (okp := fun _ => True) rfl (fun _ hk => hk) trivial (by omega) (Nat.le_trans (Nat.mul_le_mul_right _ (by omega : (l0.length : Int).toNat ≤ 35184372088832)) (by omega)) (Below.refl _ _) (Nat.le_refl _) ?_; intro v4 w4 ho5 hb hg_ hnew_; clear hg_ hnew_; have HO4 := Aside0.mk (Kd.R_lower ho5 (below_size (bz HB))); replace HB := Aside0.mk (below_step (bz HB) hb); clear hb ho5) | ((with_reducible refine gate_builtin (b := .copy) rfl ?_); refine Kd.R_copy 0 w.heap.size rfl _ _ 35 35 3 rfl Try.underlying35 hsz v4 (List.replicate (l0.length : Int).toNat 0) l0 A0 l0.length c0 (fun _ => True) rfl rfl (ozR HO4) (cz HR0 HB) (bz HB) (below_size (bz HB)) ?_; intro w5 ho5 hb hg_; rw [hres] at ho5; have HO5 := Aside0.mk ho5; replace HB := Aside0.mk hb; clear hb hg_ ho5))
 go_ret
 exact ⟨_, rz, ozR HO5, bz HB⟩
end Go.Proofs.Ytoofhjflfpccdaa.PA
end
section
namespace Go.Proofs.Ytoofhjflfpccdaa.PA
open Go.RowKit Go.Proofs.YtoofhjflfpccdaaW.PrintWords Go.Proofs.YtoofhjflfpccdaaW.PrintLast Go.Proofs.YtoofhjflfpccdaaW.PrintMore
attribute [local go_sem] max2_int min2_int max_two min_two max_three min_three max_four min_four   -- for this text's walks alone
set_option linter.unusedVariables false
set_option linter.unusedSimpArgs false
set_option maxHeartbeats 8000000 in
set_option maxRecDepth 100000 in
theorem impl_bit.calls (a0 : Bool) (r : Int) (w : World) (h : impl_bit.f a0 = some r) :
  Calls Try.prog 76 #[.bool a0] w fun e w' => e = .returned (.int .i64 r) ∧ Drawn0 w w' := by
 have H : (if a0 = true then (some 1) else (some 0)) = some r := h
 clear h
 by_cases c2 : a0 = true
 case pos =>
  subst c2
  rw [if_pos rfl] at H
  obtain rfl := Option.some.inj H
  go_enter Try.func76, Try.ntmps76
  go_wp2
  go_ret
  exact ⟨by first | rfl | (simp; done) | (simp [*]; done), by repeat (first | exact Drawn0.refl _ | apply Drawn0.step)⟩
 replace c2 := Bool.eq_false_iff.mpr c2
 subst c2
 rw [if_neg nt_] at H
 obtain rfl := Option.some.inj H
 go_enter Try.func76, Try.ntmps76
 go_wp2
 go_ret
 exact ⟨by first | rfl | (simp; done) | (simp [*]; done), by repeat (first | exact Drawn0.refl _ | apply Drawn0.step)⟩
end Go.Proofs.Ytoofhjflfpccdaa.PA
end
section
namespace Go.Proofs.Ytoofhjflfpccdaa.PA
open Go.RowKit Go.Proofs.YtoofhjflfpccdaaW.PrintWords Go.Proofs.YtoofhjflfpccdaaW.PrintLast Go.Proofs.YtoofhjflfpccdaaW.PrintMore
attribute [local go_sem] max2_int min2_int max_two min_two max_three min_three max_four min_four   -- for this text's walks alone
set_option linter.unusedVariables false
set_option linter.unusedSimpArgs false
set_option maxHeartbeats 8000000 in
set_option maxRecDepth 100000 in
theorem impl_held.calls (a0 : Int) (r : Int) (w : World) (h : impl_held.f a0 = some r) :
  Calls Try.prog 130 #[.int .i64 a0] w fun e w' => e = .returned (.int .i64 r) ∧ Below w.heap.size w w' := by
 have HB := Aside0.mk (Below.refl w.heap.size w)
 have H : (some (mx (-9999) (mn 9999 a0))) = some r := h
 clear h
 obtain ⟨ji2, hji2⟩ : ∃ j_ : Int, (mn 9999 a0) = j_ := ⟨_, rfl⟩
 replace H : (some (mx (-9999) (ji2))) = some r := by first | (rw [hji2] at H; exact H) | (simp only [hji2] at H ⊢; exact H)
 (try (have hji2h : ji2 ≤ 9999 := by (rw [← hji2]; unfold mn; (repeat' split) <;> omega)))
 (try (have hji2g : ji2 ≤ 64 := by omega))
 have hji2_ : (if a0 < 9999 then a0 else 9999) = ji2 := hji2
 obtain ⟨ji3, hji3⟩ : ∃ j_ : Int, (mx (-9999) (ji2)) = j_ := ⟨_, rfl⟩
 replace H : (some ji3) = some r := by first | (rw [hji3] at H; exact H) | (simp only [hji3] at H ⊢; exact H)
 have hji3_ : (if (-9999) < (ji2) then (ji2) else (-9999)) = ji3 := hji3
 obtain rfl := Option.some.inj H
 go_enter Try.func130, Try.ntmps130
 go_wp2
 go_ret
 exact ⟨by first | rfl | (simp <;> rfl) | (simp only [← hji2, ← hji3]; first | rfl | (simp <;> rfl)) | (simp [*] <;> rfl), bz HB⟩
end Go.Proofs.Ytoofhjflfpccdaa.PA
end
section
namespace Go.Proofs.Ytoofhjflfpccdaa.PA
open Go.RowKit Go.Proofs.YtoofhjflfpccdaaW.PrintWords Go.Proofs.YtoofhjflfpccdaaW.PrintLast Go.Proofs.YtoofhjflfpccdaaW.PrintMore
attribute [local go_sem] max2_int min2_int max_two min_two max_three min_three max_four min_four   -- for this text's walks alone
set_option linter.unusedVariables false
set_option linter.unusedSimpArgs false
set_option maxHeartbeats 8000000 in
set_option maxRecDepth 100000 in
theorem impl_do.calls (a0 : Int) (a1 : Int) (a2 : Int) (r : Int) (w : World) (h : impl_do.f a0 a1 a2 = some r) :
  Calls Try.prog 124 #[.int .i64 a0, .int .i64 a1, .int .i64 a2] w fun e w' => e = .returned (.int .i64 r) ∧ Below w.heap.size w w' := by
 have HB := Aside0.mk (Below.refl w.heap.size w)
 have H : (if a0 = 2 then ((impl_held.f (wrap64 (a1 + a2))).bind fun t826 => (some t826)) else (if a0 = 3 then ((impl_held.f (wrap64 (a1 - a2))).bind fun t827 => (some t827)) else (if a0 = 4 then ((impl_held.f (wrap64 (a1 * a2))).bind fun t828 => (some t828)) else (if a0 = 5 then ((impl_bit.f (decide (a1 < a2))).bind fun t829 => (some t829)) else (if a0 = 6 then ((impl_bit.f (a1 == a2)).bind fun t830 => (some t830)) else (if a0 = 7 then (some (wrap64 (1 - a1))) else (if a0 = 8 then (some (mn a1 a2)) else (some (mx a1 a2))))))))) = some r := h
 clear h
 by_cases c4 : a0 = 2
 case pos =>
  rw [if_pos c4] at H
  have c4b0 : (a0 == 2) = true := beq_iff_eq.mpr c4
  have c4b1 : (a0 != 2) = false := bne_eq_false_iff_eq.mpr c4
  clear c4
  replace H := Option.bind_eq_some_iff.mp H
  obtain ⟨t826, A50, H⟩ := H
  have A5 := Aside0.mk A50
  clear A50
  obtain rfl := Option.some.inj H
  go_enter Try.func124, Try.ntmps124
  go_wp2_with (first | ((with_reducible refine gate_callee (f := 130) rfl ?_); refine goesL_ (some 13) rfl rfl Try.func130 (by kernel_rfl) rfl #[.int .i64 (wrap64 (a1 + a2))] rfl az ?_; (with_reducible refine (impl_held.calls (wrap64 (a1 + a2)) t826 _ A5.out).mono ?_); rintro e w6 ⟨rfl, hb⟩; refine ⟨_, rfl, ?_⟩; replace HB := Aside0.mk (below_step (bz HB) hb); clear hb))
  go_ret
  exact ⟨rz, bz HB⟩
 rw [if_neg c4] at H
 have c4b0 : (a0 == 2) = false := beq_eq_false_iff_ne.mpr c4
 have c4b1 : (a0 != 2) = true := bne_iff_ne.mpr c4
 by_cases c7 : a0 = 3
 case pos =>
  rw [if_pos c7] at H
  have c7b0 : (a0 == 3) = true := beq_iff_eq.mpr c7
  have c7b1 : (a0 != 3) = false := bne_eq_false_iff_eq.mpr c7
  clear c7
  replace H := Option.bind_eq_some_iff.mp H
  obtain ⟨t827, A80, H⟩ := H
  have A8 := Aside0.mk A80
  clear A80
  obtain rfl := Option.some.inj H
  go_enter Try.func124, Try.ntmps124
  go_wp2_with (first | ((with_reducible refine gate_callee (f := 130) rfl ?_); refine goesL_ (some 19) rfl rfl Try.func130 (by kernel_rfl) rfl #[.int .i64 (wrap64 (a1 - a2))] rfl az ?_; (with_reducible refine (impl_held.calls (wrap64 (a1 - a2)) t827 _ A8.out).mono ?_); rintro e w9 ⟨rfl, hb⟩; refine ⟨_, rfl, ?_⟩; replace HB := Aside0.mk (below_step (bz HB) hb); clear hb))
  go_ret
  exact ⟨rz, bz HB⟩
 rw [if_neg c7] at H
 have c7b0 : (a0 == 3) = false := beq_eq_false_iff_ne.mpr c7
 have c7b1 : (a0 != 3) = true := bne_iff_ne.mpr c7
 by_cases c10 : a0 = 4
 case pos =>
  rw [if_pos c10] at H
  have c10b0 : (a0 == 4) = true := beq_iff_eq.mpr c10
  have c10b1 : (a0 != 4) = false := bne_eq_false_iff_eq.mpr c10
  clear c10
  replace H := Option.bind_eq_some_iff.mp H
  obtain ⟨t828, A110, H⟩ := H
  have A11 := Aside0.mk A110
  clear A110
  obtain rfl := Option.some.inj H
  go_enter Try.func124, Try.ntmps124
  go_wp2_with (first | ((with_reducible refine gate_callee (f := 130) rfl ?_); refine goesL_ (some 25) rfl rfl Try.func130 (by kernel_rfl) rfl #[.int .i64 (wrap64 (a1 * a2))] rfl az ?_; (with_reducible refine (impl_held.calls (wrap64 (a1 * a2)) t828 _ A11.out).mono ?_); rintro e w12 ⟨rfl, hb⟩; refine ⟨_, rfl, ?_⟩; replace HB := Aside0.mk (below_step (bz HB) hb); clear hb))
  go_ret
  exact ⟨rz, bz HB⟩
 rw [if_neg c10] at H
 have c10b0 : (a0 == 4) = false := beq_eq_false_iff_ne.mpr c10
 have c10b1 : (a0 != 4) = true := bne_iff_ne.mpr c10
 by_cases c13 : a0 = 5
 case pos =>
  rw [if_pos c13] at H
  have c13b0 : (a0 == 5) = true := beq_iff_eq.mpr c13
  have c13b1 : (a0 != 5) = false := bne_eq_false_iff_eq.mpr c13
  clear c13
  replace H := Option.bind_eq_some_iff.mp H
  obtain ⟨t829, A140, H⟩ := H
  have A14 := Aside0.mk A140
  clear A140
  obtain rfl := Option.some.inj H
  go_enter Try.func124, Try.ntmps124
  go_wp2_with (first | ((with_reducible refine gate_callee (f := 76) rfl ?_); refine goesL_ (some 31) rfl rfl Try.func76 (by kernel_rfl) rfl #[.bool (decide (a1 < a2))] rfl az ?_; (with_reducible refine (impl_bit.calls (decide (a1 < a2)) t829 _ A14.out).mono ?_); rintro e w' ⟨rfl, ⟨nd, rfl⟩⟩; refine ⟨_, rfl, ?_⟩))
  go_ret
  exact ⟨rz, bz HB⟩
 rw [if_neg c13] at H
 have c13b0 : (a0 == 5) = false := beq_eq_false_iff_ne.mpr c13
 have c13b1 : (a0 != 5) = true := bne_iff_ne.mpr c13
 by_cases c15 : a0 = 6
 case pos =>
  rw [if_pos c15] at H
  have c15b0 : (a0 == 6) = true := beq_iff_eq.mpr c15
  have c15b1 : (a0 != 6) = false := bne_eq_false_iff_eq.mpr c15
  clear c15
  replace H := Option.bind_eq_some_iff.mp H
  obtain ⟨t830, A160, H⟩ := H
  have A16 := Aside0.mk A160
  clear A160
  obtain rfl := Option.some.inj H
  go_enter Try.func124, Try.ntmps124
  go_wp2_with (first | ((with_reducible refine gate_callee (f := 76) rfl ?_); refine goesL_ (some 37) rfl rfl Try.func76 (by kernel_rfl) rfl #[.bool (a1 == a2)] rfl az ?_; (with_reducible refine (impl_bit.calls (a1 == a2) t830 _ A16.out).mono ?_); rintro e w' ⟨rfl, ⟨nd, rfl⟩⟩; refine ⟨_, rfl, ?_⟩))
  go_ret
  exact ⟨rz, bz HB⟩
 rw [if_neg c15] at H
 have c15b0 : (a0 == 6) = false := beq_eq_false_iff_ne.mpr c15
 have c15b1 : (a0 != 6) = true := bne_iff_ne.mpr c15
 by_cases c17 : a0 = 7
 case pos =>
  rw [if_pos c17] at H
  have c17b0 : (a0 == 7) = true := beq_iff_eq.mpr c17
  have c17b1 : (a0 != 7) = false := bne_eq_false_iff_eq.mpr c17
  clear c17
  obtain rfl := Option.some.inj H
  go_enter Try.func124, Try.ntmps124
  go_wp2
  go_ret
  exact ⟨rz, bz HB⟩
 rw [if_neg c17] at H
 have c17b0 : (a0 == 7) = false := beq_eq_false_iff_ne.mpr c17
 have c17b1 : (a0 != 7) = true := bne_iff_ne.mpr c17
 by_cases c18 : a0 = 8
 case neg =>
  rw [if_neg c18] at H
  have c18b0 : (a0 == 8) = false := beq_eq_false_iff_ne.mpr c18
  have c18b1 : (a0 != 8) = true := bne_iff_ne.mpr c18
  obtain ⟨ji20, hji20⟩ : ∃ j_ : Int, (mx a1 a2) = j_ := ⟨_, rfl⟩
  replace H : (some ji20) = some r := by first | (rw [hji20] at H; exact H) | (simp only [hji20] at H ⊢; exact H)
  have hji20_ : (if a1 < a2 then a2 else a1) = ji20 := hji20
  obtain rfl := Option.some.inj H
  go_enter Try.func124, Try.ntmps124
  go_wp2
  go_ret
  exact ⟨by first | rfl | (simp <;> rfl) | (simp only [← hji20]; first | rfl | (simp <;> rfl)) | (simp [*] <;> rfl), bz HB⟩
 rw [if_pos c18] at H
 have c18b0 : (a0 == 8) = true := beq_iff_eq.mpr c18
 have c18b1 : (a0 != 8) = false := bne_eq_false_iff_eq.mpr c18
 clear c18
 obtain ⟨ji19, hji19⟩ : ∃ j_ : Int, (mn a1 a2) = j_ := ⟨_, rfl⟩
 replace H : (some ji19) = some r := by first | (rw [hji19] at H; exact H) | (simp only [hji19] at H ⊢; exact H)
 have hji19_ : (if a2 < a1 then a2 else a1) = ji19 := hji19
 obtain rfl := Option.some.inj H
 go_enter Try.func124, Try.ntmps124
 go_wp2
 go_ret
 exact ⟨by first | rfl | (simp <;> rfl) | (simp only [← hji19]; first | rfl | (simp <;> rfl)) | (simp [*] <;> rfl), bz HB⟩
end Go.Proofs.Ytoofhjflfpccdaa.PA
end
section
namespace Go.Proofs.Ytoofhjflfpccdaa.PA
open Go.RowKit Go.Proofs.YtoofhjflfpccdaaW.PrintWords Go.Proofs.YtoofhjflfpccdaaW.PrintLast Go.Proofs.YtoofhjflfpccdaaW.PrintMore
attribute [local go_sem] max2_int min2_int max_two min_two max_three min_three max_four min_four   -- for this text's walks alone
set_option linter.unusedVariables false
set_option linter.unusedSimpArgs false
def impl_eval.T6 : Bool × List (List Nat × List Nat) := (true, [([], []), ([], []), ([], []), ([2], [2]), ([], []), ([], []), ([5], [5]), ([4, 6], [4, 6]), ([7], [7]), ([], []), ([], []), ([10], [10]), ([9, 11], [9, 11]), ([12], [12]), ([3, 8, 13], [3, 8, 13]), ([0, 1, 0, 1, 2, 3, 4, 5, 6, 7, 8, 9, 10, 11, 12, 13, 14], [0, 1]), ([15, 14, 14, 0, 1, 2, 3, 4, 5, 6, 7, 8, 9, 10, 11, 12, 13, 14], [14, 15])])
def impl_eval.B6 : List Nat := [0, 0, 0, 4, 0, 0, 32, 112, 240, 0, 0, 1024, 3584, 7680, 16380, 32767, 65535]
theorem impl_eval.tab6 : rtab .any (opsOf Try.f110 6) = impl_eval.T6 := by kernel_rfl
theorem impl_eval.bits6 : waitsOk impl_eval.T6.2 impl_eval.B6 = true := by kernel_rfl
set_option maxHeartbeats 8000000 in
set_option maxRecDepth 100000 in
theorem impl_eval.calls (k : Nat) (A0 : Option Addr) (c0 : Nat) (l0 : List (ITerm)) (A1 : Option Addr) (c1 : Nat) (l1 : List Int) (r : Int) (w : World) (hr0 : Kd.C k107 w A0 l0.length l0) (hc0 : l0.length ≤ c0) (hr1 : Kd.C (Kd.int .i64) w A1 l1.length l1) (hc1 : l1.length ≤ c1) (h : impl_eval.f k l0 l1 = some r) :
  Calls Try.prog 110 #[.slice A0 l0.length c0, .slice A1 l1.length c1] w fun e w' => e = .returned (.int .i64 r) ∧ Below w.heap.size w w' := by
 have hu107 := Try.underlying107
 have HR0 := Aside0.mk hr0
 have HC0 := Aside0.mk hc0
 clear hr0 hc0
 have HR1 := Aside0.mk hr1
 have HC1 := Aside0.mk hc1
 clear hr1 hc1
 have HB := Aside0.mk (Below.refl w.heap.size w)
 have H : (if 0 ≤ (l0.length : Int) then (if ((l0.length : Int) : Int).toNat ≤ 35184372088832 then (impl_eval.l0 k l1 (List.replicate ((l0.length : Int) : Int).toNat 0) l0 (l0.length : Int) 0) else (none)) else (none)) = some r := h
 clear h
 by_cases c3 : 0 ≤ (l0.length : Int)
 case neg =>
  rw [if_neg c3] at H
  exact absurd H (by simp)
 rw [if_pos c3] at H
 have c3b0 := eq_true c3
 have c3b1 : decide (0 ≤ (l0.length : Int)) = true := decide_eq_true c3
 clear c3
 by_cases c4 : ((l0.length : Int) : Int).toNat ≤ 35184372088832
 case neg =>
  rw [if_neg c4] at H
  exact absurd H (by simp)
 rw [if_pos c4] at H
 have c4b0 := eq_true c4
 have c4b1 : decide (((l0.length : Int) : Int).toNat ≤ 35184372088832) = true := decide_eq_true c4
 clear c4
 obtain ⟨y831, hy831⟩ : ∃ y_ : List Int, y_ = (List.replicate ((l0.length : Int) : Int).toNat 0) := ⟨_, rfl⟩
 replace H : (impl_eval.l0 k l1 y831 l0 (l0.length : Int) 0) = some r := by first | (rw [hy831]; with_reducible exact H) | (have H2_ := (Option.bind_some _ _).symm.trans H; rw [hy831]; with_reducible exact H2_) | (have H2_ := (Option.bind_some _ _).symm.trans H; with_reducible exact H2_) | with_reducible exact H | (rw [hy831]; exact H) | exact H
 have Ny831 := Aside0.mk hy831
 clear hy831
 have H' := Aside0.mk H
 clear H
 go_enter Try.func110, Try.ntmps110
 go_wp2_with (first | ((with_reducible refine gate_dst (N := 10) rfl ?_); refine Kd.R_make (Kd.int .i64) _ 3 rfl (N := 10) rfl 35 _ _ rfl (l0.length : Int) rfl rfl Try.underlying35 (.int .i64 0) 8 info3 rfl (by decide) (by omega) 0 (ok := fun _ => True) (okp := fun _ => True) rfl (fun _ hk => hk) trivial (dz) (Nat.le_trans (Nat.mul_le_mul_right _ (dz : (l0.length : Int).toNat ≤ 35184372088832)) (by omega)) (Below.refl _ _) (Nat.le_refl _) ?_; intro v832 w5 ho6 hb hg_ hnew_; clear hg_ hnew_; (first | rw [← Ny831.out] at ho6 | (simp only [Int.reduceToNat] at ho6; rw [← Ny831.out] at ho6)); have HO833 := Aside0.mk (Kd.R_lower ho6 (below_size (bz HB))); replace HB := Aside0.mk (below_step (bz HB) hb); clear hb ho6))
 go_loopg [13] k (fun kq v13 w' => ∃ (x5_1 : List Int) (x13_1 : Int), v13 = .int .i64 x13_1 ∧ Aside0 (impl_eval.l0 kq l1 x5_1 l0 (l0.length : Int) x13_1 = some r) ∧ Aside0 (kq ≤ k) ∧ Aside0 (Kd.R (Kd.int .i64) 3 w' w.heap.size (fun _ => True) v832 x5_1) ∧ Aside0 (Below w.heap.size w w'))
 case atStart => exact ⟨(y831), (0), rq, H', ⟨Nat.le_refl _⟩, ⟨ozR HO833⟩, ⟨bz HB⟩⟩
 case round =>
  clear H'
  try clear c1
  try clear p2
  try clear c3
  try clear c3b0
  try clear c3b1
  try clear c4
  try clear c4b0
  try clear c4b1
  obtain ⟨x5_1, x13_1, rfl, HA, HK1, HO_5, HB⟩ := hrel
  cases gk with
  | zero => exact absurd HA.out (by simp [impl_eval.l0])
  | succ k1 =>
   have H := HA.out
   clear HA
   simp only [impl_eval.l0] at H
   by_cases c7 : x13_1 < (l0.length : Int)
   case neg =>
    rw [if_neg c7] at H
    have c7b0 : decide (x13_1 < (l0.length : Int)) = false := decide_eq_false c7
    clear c7
    obtain ⟨ji44, hji44⟩ : ∃ j_ : Int, (wrap64 ((x5_1.length : Int) - 1)) = j_ := ⟨_, rfl⟩
    replace H : (if 0 ≤ (ji44) then (if (ji44) < (x5_1.length : Int) then (some (rd x5_1 (ji44))) else (none)) else (none)) = some r := by first | (rw [hji44] at H; exact H) | (simp only [hji44] at H ⊢; exact H)
    have hji44w : (IntKind.i64.wrap ((x5_1.length : Int) - 1)) = ji44 := (i64_w _).trans hji44
    by_cases c45 : 0 ≤ (ji44)
    case neg =>
     rw [if_neg c45] at H
     exact absurd H (by simp)
    rw [if_pos c45] at H
    have c45b0 : decide (0 ≤ (ji44)) = true := decide_eq_true c45
    clear c45
    by_cases c46 : (ji44) < (x5_1.length : Int)
    case neg =>
     rw [if_neg c46] at H
     exact absurd H (by simp)
    rw [if_pos c46] at H
    have c46b0 : decide ((ji44) < (x5_1.length : Int)) = true := decide_eq_true c46
    clear c46
    obtain rfl := Option.some.inj H
    obtain ⟨Ao47, co47, eo47⟩ := Kd.R_slice HO_5.out
    subst eo47
    have p834 : 0 ≤ ((ji44) : Int) := dz
    have q834 : (ji44) < (x5_1.length : Int) := dz
    obtain ⟨ad834, e834, hx834_0⟩ := Kd.at_int (Kd.R_reads' HO_5.out).2.2 (ji44) p834 q834
    cases e834
    replace p834 := eq_true p834
    replace q834 := eq_true q834
    go_wp2
    go_ret
    exact ⟨by first | rfl | (simp <;> rfl) | (simp only [← hji44]; first | rfl | (simp <;> rfl)) | (simp [*] <;> rfl), bz HB⟩
   rw [if_pos c7] at H
   have c7b0 : decide (x13_1 < (l0.length : Int)) = true := decide_eq_true c7
   clear c7
   by_cases c8 : 0 ≤ x13_1
   case neg =>
    rw [if_neg c8] at H
    exact absurd H (by simp)
   rw [if_pos c8] at H
   have c8b0 : decide (0 ≤ x13_1) = true := decide_eq_true c8
   clear c8
   by_cases c9 : x13_1 < (l0.length : Int)
   case neg =>
    rw [if_neg c9] at H
    exact absurd H (by simp)
   rw [if_pos c9] at H
   have c9b0 : decide (x13_1 < (l0.length : Int)) = true := decide_eq_true c9
   clear c9
   by_cases c10 : ((rd_ITerm l0 x13_1).f0) = 0
   case pos =>
    rw [if_pos c10] at H
    have c10b0 : (((rd_ITerm l0 x13_1).f0) == 0) = true := beq_iff_eq.mpr c10
    have c10b1 : (((rd_ITerm l0 x13_1).f0) != 0) = false := bne_eq_false_iff_eq.mpr c10
    clear c10
    by_cases c11 : x13_1 < (x5_1.length : Int)
    case neg =>
     rw [if_neg c11] at H
     exact absurd H (by simp)
    rw [if_pos c11] at H
    have c11b0 : decide (x13_1 < (x5_1.length : Int)) = true := decide_eq_true c11
    clear c11
    obtain ⟨y837, hy837⟩ : ∃ y_ : List Int, y_ = (x5_1.set (x13_1 : Int).toNat ((rd_ITerm l0 x13_1).f1)) := ⟨_, rfl⟩
    replace H : (impl_eval.l0 k1 l1 y837 l0 (l0.length : Int) (wrap64 (x13_1 + 1))) = some r := by first | (rw [hy837]; with_reducible exact H) | (have H2_ := (Option.bind_some _ _).symm.trans H; rw [hy837]; with_reducible exact H2_) | (have H2_ := (Option.bind_some _ _).symm.trans H; with_reducible exact H2_) | with_reducible exact H | (rw [hy837]; exact H) | exact H
    have Ny837 := Aside0.mk hy837
    clear hy837
    have H' := Aside0.mk H
    clear H
    have p835 : 0 ≤ (x13_1 : Int) := dz
    have q835 : x13_1 < (l0.length : Int) := dz
    obtain ⟨ad835, e835, hx835_0, hx835_1, hx835_2, hx835_3⟩ := at_ITerm HR0.out x13_1 p835 q835
    cases e835
    replace hx835_0 := xz HB hx835_0
    replace hx835_1 := xz HB hx835_1
    replace hx835_2 := xz HB hx835_2
    replace hx835_3 := xz HB hx835_3
    replace p835 := eq_true p835
    replace q835 := eq_true q835
    go_wp2_with (first | ((with_reducible refine gate_dst (N := 7) rfl ?_); refine box_event ?hg (N := 7) ?hd (cs := #[.int .i64 0, .int .i64 0, .int .i64 0, .int .i64 0]) (t := 107) ?hr ?_; (case hd => rfl); (case hg => rfl); (case hr => first | (go_simp; done) | (go_simp; rfl)); intro gb836 hg w13 hbox hb; have n0_ := Aside0.mk (Kd.R_below (ozR HO_5) hb); have n1_ := Aside0.mk (below_step (bz HB) hb); have n2_ := Aside0.mk (hbox); have n3_ := Aside0.mk ((by rw [hg]; exact (below_size (bz HB)) : w.heap.size ≤ gb836)); have n4_ := Aside0.mk ((by rw [hg]; exact (below_size (bz HB)) : w.heap.size ≤ gb836)); clear HO_5; clear HB; have HO_5 := n0_; have HB := n1_; have BK836 := n2_; have GW836 := n3_; have GE836 := n4_; clear n0_ n1_ n2_ n3_ n4_; clear hb hbox hg; have hcz14_0 : w13.cell? ⟨gb836, 0, none⟩ = some (.int .i64 0) := (blk_cell BK836.out 0).trans rfl; have hcz14_1 : w13.cell? ⟨gb836, 1, none⟩ = some (.int .i64 0) := (blk_cell BK836.out 1).trans rfl; have hcz14_2 : w13.cell? ⟨gb836, 2, none⟩ = some (.int .i64 0) := (blk_cell BK836.out 2).trans rfl; have hcz14_3 : w13.cell? ⟨gb836, 3, none⟩ = some (.int .i64 0) := (blk_cell BK836.out 3).trans rfl; have hfz14_0 := blk_frozen BK836.out 0; have hfz14_1 := blk_frozen BK836.out 1; have hfz14_2 := blk_frozen BK836.out 2; have hfz14_3 := blk_frozen BK836.out 3) | ((with_reducible refine gate_store (t := 107) (p := 7) rfl ?_); refine store_event (t := 107) (p := 7) (v := ?vo_w15) (w1 := ((((w13.setCell ⟨gb836, 0, none⟩ (.int .i64 ((rd_ITerm l0 x13_1).f0))).setCell ⟨gb836, 1, none⟩ (.int .i64 ((rd_ITerm l0 x13_1).f1))).setCell ⟨gb836, 2, none⟩ (.int .i64 ((rd_ITerm l0 x13_1).f2))).setCell ⟨gb836, 3, none⟩ (.int .i64 ((rd_ITerm l0 x13_1).f3)))) ?hg ?ho ?hn ?hr ?_; (case ho => rfl); (case hg => rfl); (case hn => rfl); (case hr => first | (go_simp; done) | (go_simp; rfl)); intro w15 hw; have n0_ : Aside0 (Kd.R (Kd.int .i64) 3 w15 w.heap.size (fun _ => True) v832 x5_1) := ⟨(by rw [hw]; exact (by (with_reducible repeat (first | apply Kd.R_alloc | apply Kd.R_drewN | apply Kd.R_drew)); exact Kd.R_mono (Kd.R_far (p := ⟨gb836, 3, none⟩) (Kd.R_far (p := ⟨gb836, 2, none⟩) (Kd.R_far (p := ⟨gb836, 1, none⟩) (Kd.R_far (p := ⟨gb836, 0, none⟩) (Kd.R_types HO_5.out BK836.out (by decide)) (fun _ hk => hk.2) (.int .i64 ((rd_ITerm l0 x13_1).f0))) (fun _ hk => hk.2) (.int .i64 ((rd_ITerm l0 x13_1).f1))) (fun _ hk => hk.2) (.int .i64 ((rd_ITerm l0 x13_1).f2))) (fun _ hk => hk.2) (.int .i64 ((rd_ITerm l0 x13_1).f3))) (fun _ hk => trivial)))⟩; have n1_ : Aside0 (w15.heap[gb836]? = some (.cells #[.int .i64 ((rd_ITerm l0 x13_1).f0), .int .i64 ((rd_ITerm l0 x13_1).f1), .int .i64 ((rd_ITerm l0 x13_1).f2), .int .i64 ((rd_ITerm l0 x13_1).f3)] 107 (0, 0))) := ⟨(by rw [hw]; exact (by (with_reducible repeat (first | refine blk_drewN ?_ _ | refine blk_drew ?_ | refine blk_alloc ?_ _)); refine blk_put (cs := #[.int .i64 ((rd_ITerm l0 x13_1).f0), .int .i64 ((rd_ITerm l0 x13_1).f1), .int .i64 ((rd_ITerm l0 x13_1).f2), .int .i64 0]) ?_ 3 _ rfl; (with_reducible repeat (first | refine blk_drewN ?_ _ | refine blk_drew ?_ | refine blk_alloc ?_ _)); refine blk_put (cs := #[.int .i64 ((rd_ITerm l0 x13_1).f0), .int .i64 ((rd_ITerm l0 x13_1).f1), .int .i64 0, .int .i64 0]) ?_ 2 _ rfl; (with_reducible repeat (first | refine blk_drewN ?_ _ | refine blk_drew ?_ | refine blk_alloc ?_ _)); refine blk_put (cs := #[.int .i64 ((rd_ITerm l0 x13_1).f0), .int .i64 0, .int .i64 0, .int .i64 0]) ?_ 1 _ rfl; (with_reducible repeat (first | refine blk_drewN ?_ _ | refine blk_drew ?_ | refine blk_alloc ?_ _)); refine blk_put (cs := #[.int .i64 0, .int .i64 0, .int .i64 0, .int .i64 0]) ?_ 0 _ rfl; exact kz BK836))⟩; have n2_ : Aside0 (Below w.heap.size w w15) := ⟨(by rw [hw]; exact (bz1 HB GE836))⟩; clear hw; clear HO_5; clear BK836; clear HB; have HO_5 := n0_; have BK836 := n1_; have HB := n2_; clear n0_ n1_ n2_; have hcz16_0 : w15.cell? ⟨gb836, 0, none⟩ = some (.int .i64 ((rd_ITerm l0 x13_1).f0)) := (blk_cell BK836.out 0).trans rfl; have hcz16_1 : w15.cell? ⟨gb836, 1, none⟩ = some (.int .i64 ((rd_ITerm l0 x13_1).f1)) := (blk_cell BK836.out 1).trans rfl; have hcz16_2 : w15.cell? ⟨gb836, 2, none⟩ = some (.int .i64 ((rd_ITerm l0 x13_1).f2)) := (blk_cell BK836.out 2).trans rfl; have hcz16_3 : w15.cell? ⟨gb836, 3, none⟩ = some (.int .i64 ((rd_ITerm l0 x13_1).f3)) := (blk_cell BK836.out 3).trans rfl; have hfz16_0 := blk_frozen BK836.out 0; have hfz16_1 := blk_frozen BK836.out 1; have hfz16_2 := blk_frozen BK836.out 2; have hfz16_3 := blk_frozen BK836.out 3; have p12 : 0 ≤ (x13_1 : Int) := dz; have q12 : (x13_1 : Int) < ((x5_1.length : Int) : Int) := dz; obtain ⟨go12, co12, eo12, gb12, gl12, cl12, HG12⟩ := Kd.R_form HO_5.out (by omega); (first | cases eo12 | (injection eo12 with ea_ en_ ec_; (first | subst ea_ | (injection ea_ with ea_; subst ea_)); subst ec_; clear en_)); have GB12 := Aside0.mk gb12; have GG12 := Aside0.mk HG12; clear gb12 gl12 HG12; obtain ⟨hx12_0, hf12_0⟩ := Kd.R_celln 0 HO_5.out (x13_1 : Int) p12 q12; replace p12 := eq_true p12; replace q12 := eq_true q12; obtain ⟨hy17_, hz17_⟩ := Kd.R_celln 0 HO_5.out (x13_1 : Int) (dz) (dz); have HP17 := Kd.R_putg HO_5.out (x13_1 : Int) ((rd_ITerm l0 x13_1).f1)) | ((with_reducible refine gate_store (t := 3) (p := 42) rfl ?_); refine store_event (t := 3) (p := 42) (v := ?vo_w18) (w1 := (w15.setCell ⟨go12, (x13_1 : Int).toNat, none⟩ (.int .i64 ((rd_ITerm l0 x13_1).f1)))) ?hg ?ho ?hn ?hr ?_; (case ho => rfl); (case hg => rfl); (case hn => rfl); (case hr => first | (go_simp; done) | (go_simp; rfl)); intro w18 hw; have hg : w15.grownBy w18 (some go12) := (by rw [hw]; exact HP17.2); have hp_ : Kd.R (Kd.int .i64) 3 w18 w.heap.size (fun _ => True) (.slice (some ⟨go12, 0, none⟩) x5_1.length co12) y837 := (by rw [hw, Ny837.out]; exact HP17.1); clear HP17; have n0_ := Aside0.mk (hp_); have n1_ := Aside0.mk (blk_grown (g := gb836) (o := .cells #[.int .i64 ((rd_ITerm l0 x13_1).f0), .int .i64 ((rd_ITerm l0 x13_1).f1), .int .i64 ((rd_ITerm l0 x13_1).f2), .int .i64 ((rd_ITerm l0 x13_1).f3)] 107 (0, 0)) (kz BK836) hg (Kd.R_ne HO_5.out BK836.out (by decide))); have n2_ := Aside0.mk ((by rw [hw]; exact below_set (HB.out) GB12.out : Below w.heap.size w w18)); clear HO_5; clear BK836; clear HB; have HO_5 := n0_; have BK836 := n1_; have HB := n2_; clear n0_ n1_ n2_; clear hg hw hp_))
    go_roundg k1
    case measure => have := HK1.out; omega
    case rel => exact ⟨(y837), (wrap64 (x13_1 + 1)), rq, H', ⟨by have := HK1.out; omega⟩, ⟨ozR HO_5⟩, ⟨bz1 HB GE836⟩⟩
   rw [if_neg c10] at H
   have c10b0 : (((rd_ITerm l0 x13_1).f0) == 0) = false := beq_eq_false_iff_ne.mpr c10
   have c10b1 : (((rd_ITerm l0 x13_1).f0) != 0) = true := bne_iff_ne.mpr c10
   by_cases c19 : ((rd_ITerm l0 x13_1).f0) = 1
   case pos =>
    rw [if_pos c19] at H
    have c19b0 : (((rd_ITerm l0 x13_1).f0) == 1) = true := beq_iff_eq.mpr c19
    have c19b1 : (((rd_ITerm l0 x13_1).f0) != 1) = false := bne_eq_false_iff_eq.mpr c19
    clear c19
    by_cases c20 : 0 ≤ ((rd_ITerm l0 x13_1).f1)
    case neg =>
     rw [if_neg c20] at H
     exact absurd H (by simp)
    rw [if_pos c20] at H
    have c20b0 : decide (0 ≤ ((rd_ITerm l0 x13_1).f1)) = true := decide_eq_true c20
    clear c20
    by_cases c21 : ((rd_ITerm l0 x13_1).f1) < (l1.length : Int)
    case neg =>
     rw [if_neg c21] at H
     exact absurd H (by simp)
    rw [if_pos c21] at H
    have c21b0 : decide (((rd_ITerm l0 x13_1).f1) < (l1.length : Int)) = true := decide_eq_true c21
    clear c21
    by_cases c22 : x13_1 < (x5_1.length : Int)
    case neg =>
     rw [if_neg c22] at H
     exact absurd H (by simp)
    rw [if_pos c22] at H
    have c22b0 : decide (x13_1 < (x5_1.length : Int)) = true := decide_eq_true c22
    clear c22
    obtain ⟨y839, hy839⟩ : ∃ y_ : List Int, y_ = (x5_1.set (x13_1 : Int).toNat (rd l1 ((rd_ITerm l0 x13_1).f1))) := ⟨_, rfl⟩
    replace H : (impl_eval.l0 k1 l1 y839 l0 (l0.length : Int) (wrap64 (x13_1 + 1))) = some r := by first | (rw [hy839]; with_reducible exact H) | (have H2_ := (Option.bind_some _ _).symm.trans H; rw [hy839]; with_reducible exact H2_) | (have H2_ := (Option.bind_some _ _).symm.trans H; with_reducible exact H2_) | with_reducible exact H | (rw [hy839]; exact H) | exact H
    have Ny839 := Aside0.mk hy839
    clear hy839
    have H' := Aside0.mk H
    clear H
    have p835 : 0 ≤ (x13_1 : Int) := dz
    have q835 : x13_1 < (l0.length : Int) := dz
    obtain ⟨ad835, e835, hx835_0, hx835_1, hx835_2, hx835_3⟩ := at_ITerm HR0.out x13_1 p835 q835
    cases e835
    replace hx835_0 := xz HB hx835_0
    replace hx835_1 := xz HB hx835_1
    replace hx835_2 := xz HB hx835_2
    replace hx835_3 := xz HB hx835_3
    replace p835 := eq_true p835
    replace q835 := eq_true q835
    go_wp2_with (first | ((with_reducible refine gate_dst (N := 7) rfl ?_); refine box_event ?hg (N := 7) ?hd (cs := #[.int .i64 0, .int .i64 0, .int .i64 0, .int .i64 0]) (t := 107) ?hr ?_; (case hd => rfl); (case hg => rfl); (case hr => first | (go_simp; done) | (go_simp; rfl)); intro gb836 hg w24 hbox hb; have n0_ := Aside0.mk (Kd.R_below (ozR HO_5) hb); have n1_ := Aside0.mk (below_step (bz HB) hb); have n2_ := Aside0.mk (hbox); have n3_ := Aside0.mk ((by rw [hg]; exact (below_size (bz HB)) : w.heap.size ≤ gb836)); have n4_ := Aside0.mk ((by rw [hg]; exact (below_size (bz HB)) : w.heap.size ≤ gb836)); clear HO_5; clear HB; have HO_5 := n0_; have HB := n1_; have BK836 := n2_; have GW836 := n3_; have GE836 := n4_; clear n0_ n1_ n2_ n3_ n4_; clear hb hbox hg; have hcz25_0 : w24.cell? ⟨gb836, 0, none⟩ = some (.int .i64 0) := (blk_cell BK836.out 0).trans rfl; have hcz25_1 : w24.cell? ⟨gb836, 1, none⟩ = some (.int .i64 0) := (blk_cell BK836.out 1).trans rfl; have hcz25_2 : w24.cell? ⟨gb836, 2, none⟩ = some (.int .i64 0) := (blk_cell BK836.out 2).trans rfl; have hcz25_3 : w24.cell? ⟨gb836, 3, none⟩ = some (.int .i64 0) := (blk_cell BK836.out 3).trans rfl; have hfz25_0 := blk_frozen BK836.out 0; have hfz25_1 := blk_frozen BK836.out 1; have hfz25_2 := blk_frozen BK836.out 2; have hfz25_3 := blk_frozen BK836.out 3) | ((with_reducible refine gate_store (t := 107) (p := 7) rfl ?_); refine store_event (t := 107) (p := 7) (v := ?vo_w26) (w1 := ((((w24.setCell ⟨gb836, 0, none⟩ (.int .i64 ((rd_ITerm l0 x13_1).f0))).setCell ⟨gb836, 1, none⟩ (.int .i64 ((rd_ITerm l0 x13_1).f1))).setCell ⟨gb836, 2, none⟩ (.int .i64 ((rd_ITerm l0 x13_1).f2))).setCell ⟨gb836, 3, none⟩ (.int .i64 ((rd_ITerm l0 x13_1).f3)))) ?hg ?ho ?hn ?hr ?_; (case ho => rfl); (case hg => rfl); (case hn => rfl); (case hr => first | (go_simp; done) | (go_simp; rfl)); intro w26 hw; have n0_ : Aside0 (Kd.R (Kd.int .i64) 3 w26 w.heap.size (fun _ => True) v832 x5_1) := ⟨(by rw [hw]; exact (by (with_reducible repeat (first | apply Kd.R_alloc | apply Kd.R_drewN | apply Kd.R_drew)); exact Kd.R_mono (Kd.R_far (p := ⟨gb836, 3, none⟩) (Kd.R_far (p := ⟨gb836, 2, none⟩) (Kd.R_far (p := ⟨gb836, 1, none⟩) (Kd.R_far (p := ⟨gb836, 0, none⟩) (Kd.R_types HO_5.out BK836.out (by decide)) (fun _ hk => hk.2) (.int .i64 ((rd_ITerm l0 x13_1).f0))) (fun _ hk => hk.2) (.int .i64 ((rd_ITerm l0 x13_1).f1))) (fun _ hk => hk.2) (.int .i64 ((rd_ITerm l0 x13_1).f2))) (fun _ hk => hk.2) (.int .i64 ((rd_ITerm l0 x13_1).f3))) (fun _ hk => trivial)))⟩; have n1_ : Aside0 (w26.heap[gb836]? = some (.cells #[.int .i64 ((rd_ITerm l0 x13_1).f0), .int .i64 ((rd_ITerm l0 x13_1).f1), .int .i64 ((rd_ITerm l0 x13_1).f2), .int .i64 ((rd_ITerm l0 x13_1).f3)] 107 (0, 0))) := ⟨(by rw [hw]; exact (by (with_reducible repeat (first | refine blk_drewN ?_ _ | refine blk_drew ?_ | refine blk_alloc ?_ _)); refine blk_put (cs := #[.int .i64 ((rd_ITerm l0 x13_1).f0), .int .i64 ((rd_ITerm l0 x13_1).f1), .int .i64 ((rd_ITerm l0 x13_1).f2), .int .i64 0]) ?_ 3 _ rfl; (with_reducible repeat (first | refine blk_drewN ?_ _ | refine blk_drew ?_ | refine blk_alloc ?_ _)); refine blk_put (cs := #[.int .i64 ((rd_ITerm l0 x13_1).f0), .int .i64 ((rd_ITerm l0 x13_1).f1), .int .i64 0, .int .i64 0]) ?_ 2 _ rfl; (with_reducible repeat (first | refine blk_drewN ?_ _ | refine blk_drew ?_ | refine blk_alloc ?_ _)); refine blk_put (cs := #[.int .i64 ((rd_ITerm l0 x13_1).f0), .int .i64 0, .int .i64 0, .int .i64 0]) ?_ 1 _ rfl; (with_reducible repeat (first | refine blk_drewN ?_ _ | refine blk_drew ?_ | refine blk_alloc ?_ _)); refine blk_put (cs := #[.int .i64 0, .int .i64 0, .int .i64 0, .int .i64 0]) ?_ 0 _ rfl; exact kz BK836))⟩; have n2_ : Aside0 (Below w.heap.size w w26) := ⟨(by rw [hw]; exact (bz1 HB GE836))⟩; clear hw; clear HO_5; clear BK836; clear HB; have HO_5 := n0_; have BK836 := n1_; have HB := n2_; clear n0_ n1_ n2_; have hcz27_0 : w26.cell? ⟨gb836, 0, none⟩ = some (.int .i64 ((rd_ITerm l0 x13_1).f0)) := (blk_cell BK836.out 0).trans rfl; have hcz27_1 : w26.cell? ⟨gb836, 1, none⟩ = some (.int .i64 ((rd_ITerm l0 x13_1).f1)) := (blk_cell BK836.out 1).trans rfl; have hcz27_2 : w26.cell? ⟨gb836, 2, none⟩ = some (.int .i64 ((rd_ITerm l0 x13_1).f2)) := (blk_cell BK836.out 2).trans rfl; have hcz27_3 : w26.cell? ⟨gb836, 3, none⟩ = some (.int .i64 ((rd_ITerm l0 x13_1).f3)) := (blk_cell BK836.out 3).trans rfl; have hfz27_0 := blk_frozen BK836.out 0; have hfz27_1 := blk_frozen BK836.out 1; have hfz27_2 := blk_frozen BK836.out 2; have hfz27_3 := blk_frozen BK836.out 3; have p838 : 0 ≤ (((rd_ITerm l0 x13_1).f1) : Int) := dz; have q838 : ((rd_ITerm l0 x13_1).f1) < (l1.length : Int) := dz; obtain ⟨ad838, e838, hx838_0⟩ := Kd.at_int HR1.out ((rd_ITerm l0 x13_1).f1) p838 q838; cases e838; replace hx838_0 := xz HB hx838_0; replace p838 := eq_true p838; replace q838 := eq_true q838; have p23 : 0 ≤ (x13_1 : Int) := dz; have q23 : (x13_1 : Int) < ((x5_1.length : Int) : Int) := dz; obtain ⟨go23, co23, eo23, gb23, gl23, cl23, HG23⟩ := Kd.R_form HO_5.out (by omega); (first | cases eo23 | (injection eo23 with ea_ en_ ec_; (first | subst ea_ | (injection ea_ with ea_; subst ea_)); subst ec_; clear en_)); have GB23 := Aside0.mk gb23; have GG23 := Aside0.mk HG23; clear gb23 gl23 HG23; obtain ⟨hx23_0, hf23_0⟩ := Kd.R_celln 0 HO_5.out (x13_1 : Int) p23 q23; replace p23 := eq_true p23; replace q23 := eq_true q23; obtain ⟨hy28_, hz28_⟩ := Kd.R_celln 0 HO_5.out (x13_1 : Int) (dz) (dz); have HP28 := Kd.R_putg HO_5.out (x13_1 : Int) (rd l1 ((rd_ITerm l0 x13_1).f1))) | ((with_reducible refine gate_store (t := 3) (p := 52) rfl ?_); refine store_event (t := 3) (p := 52) (v := ?vo_w29) (w1 := (w26.setCell ⟨go23, (x13_1 : Int).toNat, none⟩ (.int .i64 (rd l1 ((rd_ITerm l0 x13_1).f1))))) ?hg ?ho ?hn ?hr ?_; (case ho => rfl); (case hg => rfl); (case hn => rfl); (case hr => first | (go_simp; done) | (go_simp; rfl)); intro w29 hw; have hg : w26.grownBy w29 (some go23) := (by rw [hw]; exact HP28.2); have hp_ : Kd.R (Kd.int .i64) 3 w29 w.heap.size (fun _ => True) (.slice (some ⟨go23, 0, none⟩) x5_1.length co23) y839 := (by rw [hw, Ny839.out]; exact HP28.1); clear HP28; have n0_ := Aside0.mk (hp_); have n1_ := Aside0.mk (blk_grown (g := gb836) (o := .cells #[.int .i64 ((rd_ITerm l0 x13_1).f0), .int .i64 ((rd_ITerm l0 x13_1).f1), .int .i64 ((rd_ITerm l0 x13_1).f2), .int .i64 ((rd_ITerm l0 x13_1).f3)] 107 (0, 0)) (kz BK836) hg (Kd.R_ne HO_5.out BK836.out (by decide))); have n2_ := Aside0.mk ((by rw [hw]; exact below_set (HB.out) GB23.out : Below w.heap.size w w29)); clear HO_5; clear BK836; clear HB; have HO_5 := n0_; have BK836 := n1_; have HB := n2_; clear n0_ n1_ n2_; clear hg hw hp_))
    go_roundg k1
    case measure => have := HK1.out; omega
    case rel => exact ⟨(y839), (wrap64 (x13_1 + 1)), rq, H', ⟨by have := HK1.out; omega⟩, ⟨ozR HO_5⟩, ⟨bz1 HB GE836⟩⟩
   rw [if_neg c19] at H
   have c19b0 : (((rd_ITerm l0 x13_1).f0) == 1) = false := beq_eq_false_iff_ne.mpr c19
   have c19b1 : (((rd_ITerm l0 x13_1).f0) != 1) = true := bne_iff_ne.mpr c19
   by_cases c30 : 0 ≤ ((rd_ITerm l0 x13_1).f2)
   case neg =>
    rw [if_neg c30] at H
    exact absurd H (by simp)
   rw [if_pos c30] at H
   have c30b0 : decide (0 ≤ ((rd_ITerm l0 x13_1).f2)) = true := decide_eq_true c30
   clear c30
   by_cases c31 : ((rd_ITerm l0 x13_1).f2) < (x5_1.length : Int)
   case neg =>
    rw [if_neg c31] at H
    exact absurd H (by simp)
   rw [if_pos c31] at H
   have c31b0 : decide (((rd_ITerm l0 x13_1).f2) < (x5_1.length : Int)) = true := decide_eq_true c31
   clear c31
   by_cases c32 : 0 ≤ ((rd_ITerm l0 x13_1).f3)
   case neg =>
    rw [if_neg c32] at H
    exact absurd H (by simp)
   rw [if_pos c32] at H
   have c32b0 : decide (0 ≤ ((rd_ITerm l0 x13_1).f3)) = true := decide_eq_true c32
   clear c32
   by_cases c33 : ((rd_ITerm l0 x13_1).f3) < (x5_1.length : Int)
   case neg =>
    rw [if_neg c33] at H
    exact absurd H (by simp)
   rw [if_pos c33] at H
   have c33b0 : decide (((rd_ITerm l0 x13_1).f3) < (x5_1.length : Int)) = true := decide_eq_true c33
   clear c33
   replace H := Option.bind_eq_some_iff.mp H
   obtain ⟨t842, A340, H⟩ := H
   have A34 := Aside0.mk A340
   clear A340
   by_cases c35 : x13_1 < (x5_1.length : Int)
   case neg =>
    rw [if_neg c35] at H
    exact absurd H (by simp)
   rw [if_pos c35] at H
   have c35b0 : decide (x13_1 < (x5_1.length : Int)) = true := decide_eq_true c35
   clear c35
   obtain ⟨y843, hy843⟩ : ∃ y_ : List Int, y_ = (x5_1.set (x13_1 : Int).toNat t842) := ⟨_, rfl⟩
   replace H : (impl_eval.l0 k1 l1 y843 l0 (l0.length : Int) (wrap64 (x13_1 + 1))) = some r := by first | (rw [hy843]; with_reducible exact H) | (have H2_ := (Option.bind_some _ _).symm.trans H; rw [hy843]; with_reducible exact H2_) | (have H2_ := (Option.bind_some _ _).symm.trans H; with_reducible exact H2_) | with_reducible exact H | (rw [hy843]; exact H) | exact H
   have Ny843 := Aside0.mk hy843
   clear hy843
   have H' := Aside0.mk H
   clear H
   have p835 : 0 ≤ (x13_1 : Int) := dz
   have q835 : x13_1 < (l0.length : Int) := dz
   obtain ⟨ad835, e835, hx835_0, hx835_1, hx835_2, hx835_3⟩ := at_ITerm HR0.out x13_1 p835 q835
   cases e835
   replace hx835_0 := xz HB hx835_0
   replace hx835_1 := xz HB hx835_1
   replace hx835_2 := xz HB hx835_2
   replace hx835_3 := xz HB hx835_3
   replace p835 := eq_true p835
   replace q835 := eq_true q835
   try go_wp2_with (first | ((with_reducible refine gate_dst (N := 7) rfl ?_); refine box_event ?hg (N := 7) ?hd (cs := #[.int .i64 0, .int .i64 0, .int .i64 0, .int .i64 0]) (t := 107) ?hr ?_; (case hd => rfl); (case hg => rfl); (case hr => first | (go_simp; done) | (go_simp; rfl)); intro gb836 hg w37 hbox hb; have n0_ := Aside0.mk (Kd.R_below (ozR HO_5) hb); have n1_ := Aside0.mk (below_step (bz HB) hb); have n2_ := Aside0.mk (hbox); have n3_ := Aside0.mk ((by rw [hg]; exact (below_size (bz HB)) : w.heap.size ≤ gb836)); have n4_ := Aside0.mk ((by rw [hg]; exact (below_size (bz HB)) : w.heap.size ≤ gb836)); clear HO_5; clear HB; have HO_5 := n0_; have HB := n1_; have BK836 := n2_; have GW836 := n3_; have GE836 := n4_; clear n0_ n1_ n2_ n3_ n4_; clear hb hbox hg; have hcz38_0 : w37.cell? ⟨gb836, 0, none⟩ = some (.int .i64 0) := (blk_cell BK836.out 0).trans rfl; have hcz38_1 : w37.cell? ⟨gb836, 1, none⟩ = some (.int .i64 0) := (blk_cell BK836.out 1).trans rfl; have hcz38_2 : w37.cell? ⟨gb836, 2, none⟩ = some (.int .i64 0) := (blk_cell BK836.out 2).trans rfl; have hcz38_3 : w37.cell? ⟨gb836, 3, none⟩ = some (.int .i64 0) := (blk_cell BK836.out 3).trans rfl; have hfz38_0 := blk_frozen BK836.out 0; have hfz38_1 := blk_frozen BK836.out 1; have hfz38_2 := blk_frozen BK836.out 2; have hfz38_3 := blk_frozen BK836.out 3))
   have n0_ : Aside0 (Kd.R (Kd.int .i64) 3 ((((w37.setCell ⟨gb836, 0, none⟩ (.int .i64 ((rd_ITerm l0 x13_1).f0))).setCell ⟨gb836, 1, none⟩ (.int .i64 ((rd_ITerm l0 x13_1).f1))).setCell ⟨gb836, 2, none⟩ (.int .i64 ((rd_ITerm l0 x13_1).f2))).setCell ⟨gb836, 3, none⟩ (.int .i64 ((rd_ITerm l0 x13_1).f3))) w.heap.size (fun _ => True) v832 x5_1) := ⟨by (with_reducible repeat (first | apply Kd.R_alloc | apply Kd.R_drewN | apply Kd.R_drew)); exact Kd.R_mono (Kd.R_far (p := ⟨gb836, 3, none⟩) (Kd.R_far (p := ⟨gb836, 2, none⟩) (Kd.R_far (p := ⟨gb836, 1, none⟩) (Kd.R_far (p := ⟨gb836, 0, none⟩) (Kd.R_types HO_5.out BK836.out (by decide)) (fun _ hk => hk.2) (.int .i64 ((rd_ITerm l0 x13_1).f0))) (fun _ hk => hk.2) (.int .i64 ((rd_ITerm l0 x13_1).f1))) (fun _ hk => hk.2) (.int .i64 ((rd_ITerm l0 x13_1).f2))) (fun _ hk => hk.2) (.int .i64 ((rd_ITerm l0 x13_1).f3))) (fun _ hk => trivial)⟩
   have n1_ : Aside0 (((((w37.setCell ⟨gb836, 0, none⟩ (.int .i64 ((rd_ITerm l0 x13_1).f0))).setCell ⟨gb836, 1, none⟩ (.int .i64 ((rd_ITerm l0 x13_1).f1))).setCell ⟨gb836, 2, none⟩ (.int .i64 ((rd_ITerm l0 x13_1).f2))).setCell ⟨gb836, 3, none⟩ (.int .i64 ((rd_ITerm l0 x13_1).f3))).heap[gb836]? = some (.cells #[.int .i64 ((rd_ITerm l0 x13_1).f0), .int .i64 ((rd_ITerm l0 x13_1).f1), .int .i64 ((rd_ITerm l0 x13_1).f2), .int .i64 ((rd_ITerm l0 x13_1).f3)] 107 (0, 0))) := ⟨by (with_reducible repeat (first | refine blk_drewN ?_ _ | refine blk_drew ?_ | refine blk_alloc ?_ _)); refine blk_put (cs := #[.int .i64 ((rd_ITerm l0 x13_1).f0), .int .i64 ((rd_ITerm l0 x13_1).f1), .int .i64 ((rd_ITerm l0 x13_1).f2), .int .i64 0]) ?_ 3 _ rfl; (with_reducible repeat (first | refine blk_drewN ?_ _ | refine blk_drew ?_ | refine blk_alloc ?_ _)); refine blk_put (cs := #[.int .i64 ((rd_ITerm l0 x13_1).f0), .int .i64 ((rd_ITerm l0 x13_1).f1), .int .i64 0, .int .i64 0]) ?_ 2 _ rfl; (with_reducible repeat (first | refine blk_drewN ?_ _ | refine blk_drew ?_ | refine blk_alloc ?_ _)); refine blk_put (cs := #[.int .i64 ((rd_ITerm l0 x13_1).f0), .int .i64 0, .int .i64 0, .int .i64 0]) ?_ 1 _ rfl; (with_reducible repeat (first | refine blk_drewN ?_ _ | refine blk_drew ?_ | refine blk_alloc ?_ _)); refine blk_put (cs := #[.int .i64 0, .int .i64 0, .int .i64 0, .int .i64 0]) ?_ 0 _ rfl; exact kz BK836⟩
   have n2_ : Aside0 (Below w.heap.size w ((((w37.setCell ⟨gb836, 0, none⟩ (.int .i64 ((rd_ITerm l0 x13_1).f0))).setCell ⟨gb836, 1, none⟩ (.int .i64 ((rd_ITerm l0 x13_1).f1))).setCell ⟨gb836, 2, none⟩ (.int .i64 ((rd_ITerm l0 x13_1).f2))).setCell ⟨gb836, 3, none⟩ (.int .i64 ((rd_ITerm l0 x13_1).f3)))) := ⟨bz1 HB GE836⟩
   (try clear HO_5)
   (try clear BK836)
   (try clear HB)
   generalize ((((w37.setCell ⟨gb836, 0, none⟩ (.int .i64 ((rd_ITerm l0 x13_1).f0))).setCell ⟨gb836, 1, none⟩ (.int .i64 ((rd_ITerm l0 x13_1).f1))).setCell ⟨gb836, 2, none⟩ (.int .i64 ((rd_ITerm l0 x13_1).f2))).setCell ⟨gb836, 3, none⟩ (.int .i64 ((rd_ITerm l0 x13_1).f3))) = w39 at n0_ n1_ n2_ ⊢
   have HO_5 := n0_
   have BK836 := n1_
   have HB := n2_
   clear n0_ n1_ n2_
   have n0_ := Aside0.mk (Kd.R_drew HO_5.out)
   have n1_ := Aside0.mk (blk_drew BK836.out)
   have n2_ := Aside0.mk (below_drew1 HB.out)
   clear HO_5
   clear BK836
   clear HB
   have HO_5 := n0_
   have BK836 := n1_
   have HB := n2_
   clear n0_ n1_ n2_
   obtain ⟨Ao41, co41, eo41⟩ := Kd.R_slice HO_5.out
   (first | subst eo41 | (injection eo41 with f1_ f2_ f3_; have f4_ := f1_.symm; have f5_ := f3_.symm; clear f1_ f2_ f3_; subst f4_; subst f5_))
   have p840 : 0 ≤ (((rd_ITerm l0 x13_1).f2) : Int) := dz
   have q840 : ((rd_ITerm l0 x13_1).f2) < (x5_1.length : Int) := dz
   obtain ⟨ad840, e840, hx840_0⟩ := Kd.at_int (Kd.R_reads' HO_5.out).2.2 ((rd_ITerm l0 x13_1).f2) p840 q840
   cases e840
   replace p840 := eq_true p840
   replace q840 := eq_true q840
   have p841 : 0 ≤ (((rd_ITerm l0 x13_1).f3) : Int) := dz
   have q841 : ((rd_ITerm l0 x13_1).f3) < (x5_1.length : Int) := dz
   obtain ⟨ad841, e841, hx841_0⟩ := Kd.at_int (Kd.R_reads' HO_5.out).2.2 ((rd_ITerm l0 x13_1).f3) p841 q841
   obtain rfl : ad840 = ad841 := (by injection e841)
   replace p841 := eq_true p841
   replace q841 := eq_true q841
   refine start_ (n := 17) (S := fun w' => w'.cell? ⟨gb836, 0, none⟩ = some (.int .i64 ((rd_ITerm l0 x13_1).f0)) ∧ w'.cell? ⟨gb836, 1, none⟩ = some (.int .i64 ((rd_ITerm l0 x13_1).f1)) ∧ w'.cell? ⟨gb836, 2, none⟩ = some (.int .i64 ((rd_ITerm l0 x13_1).f2)) ∧ w'.cell? ⟨gb836, 3, none⟩ = some (.int .i64 ((rd_ITerm l0 x13_1).f3)) ∧ w'.cell? (ad840.add (((rd_ITerm l0 x13_1).f2)).toNat) = some (.int .i64 (rd x5_1 ((rd_ITerm l0 x13_1).f2))) ∧ w'.cell? (ad840.add (((rd_ITerm l0 x13_1).f3)).toNat) = some (.int .i64 (rd x5_1 ((rd_ITerm l0 x13_1).f3)))) (ds := [16]) #[false, false, false, false, false, false, false, false, false, false, false, false, false, false, false, false, false] (by kernel_rfl) rfl rfl ⟨(blk_cell BK836.out 0).trans rfl, (blk_cell BK836.out 1).trans rfl, (blk_cell BK836.out 2).trans rfl, (blk_cell BK836.out 3).trans rfl, hx840_0, hx841_0⟩ (fun hHeld => ?_); refine with_tabW impl_eval.tab6 impl_eval.bits6 (fun HT_ HW_ => ?_)
   generalize w39.drew = w40 at HO_5 BK836 HB hx840_0 hx841_0 hHeld ⊢
   refine pure_ (i := 0) (N := some 20) (v := ?_) (a' := ?_) #[true, false, false, false, false, false, false, false, false, false, false, false, false, false, false, false, false] rfl rfl (any_of HT_.out (by kernel_rfl)) (fun _ _ _ h => h) (Or.inl ⟨by rfl, ?_⟩) ?_ ?_
   rotate_left
   ·
    intro w'
    go_simp
    with_reducible rfl
   rotate_left
   ·
    simp only [Act.put, sb_, sc0_, sc1_, i64_w, i32_w]
    rfl
   refine pure_ (i := 1) (N := some 21) (v := ?_) (a' := ?_) #[true, true, false, false, false, false, false, false, false, false, false, false, false, false, false, false, false] rfl rfl (any_of HT_.out (by kernel_rfl)) (fun _ _ _ h => h) (Or.inl ⟨by rfl, ?_⟩) ?_ ?_
   rotate_left
   ·
    intro w'
    go_simp
    with_reducible rfl
   rotate_left
   ·
    simp only [Act.put, sb_, sc0_, sc1_, i64_w, i32_w]
    rfl
   refine pure_ (i := 2) (N := some 22) (v := ?_) (a' := ?_) #[true, true, true, false, false, false, false, false, false, false, false, false, false, false, false, false, false] rfl rfl (any_of HT_.out (by kernel_rfl)) (fun _ _ _ h => h) (Or.inl ⟨by rfl, ?_⟩) ?_ ?_
   rotate_left
   ·
    intro w'
    go_simp
    with_reducible rfl
   rotate_left
   ·
    simp only [Act.put, sb_, sc0_, sc1_, i64_w, i32_w]
    rfl
   refine pure_ (i := 4) (N := some 24) (v := ?_) (a' := ?_) #[true, true, true, false, true, false, false, false, false, false, false, false, false, false, false, false, false] rfl rfl (any_of HT_.out (by kernel_rfl)) (fun _ _ _ h => h) (Or.inl ⟨by rfl, ?_⟩) ?_ ?_
   rotate_left
   ·
    intro w'
    go_simp
    with_reducible rfl
   rotate_left
   ·
    simp only [Act.put, sb_, sc0_, sc1_, i64_w, i32_w]
    rfl
   refine pure_ (i := 5) (N := some 25) (v := ?_) (a' := ?_) #[true, true, true, false, true, true, false, false, false, false, false, false, false, false, false, false, false] rfl rfl (any_of HT_.out (by kernel_rfl)) (fun _ _ _ h => h) (Or.inl ⟨by rfl, ?_⟩) ?_ ?_
   rotate_left
   ·
    intro w'
    go_simp
    with_reducible rfl
   rotate_left
   ·
    simp only [Act.put, sb_, sc0_, sc1_, i64_w, i32_w]
    rfl
   refine pure_ (i := 9) (N := some 29) (v := ?_) (a' := ?_) #[true, true, true, false, true, true, false, false, false, true, false, false, false, false, false, false, false] rfl rfl (any_of HT_.out (by kernel_rfl)) (fun _ _ _ h => h) (Or.inl ⟨by rfl, ?_⟩) ?_ ?_
   rotate_left
   ·
    intro w'
    go_simp
    with_reducible rfl
   rotate_left
   ·
    simp only [Act.put, sb_, sc0_, sc1_, i64_w, i32_w]
    rfl
   refine pure_ (i := 10) (N := some 30) (v := ?_) (a' := ?_) #[true, true, true, false, true, true, false, false, false, true, true, false, false, false, false, false, false] rfl rfl (any_of HT_.out (by kernel_rfl)) (fun _ _ _ h => h) (Or.inl ⟨by rfl, ?_⟩) ?_ ?_
   rotate_left
   ·
    intro w'
    go_simp
    with_reducible rfl
   rotate_left
   ·
    simp only [Act.put, sb_, sc0_, sc1_, i64_w, i32_w]
    rfl
   refine take_ (i := 3) (N := some 23) (v := ?_) (a' := ?_) #[true, true, true, true, true, true, false, false, false, true, true, false, false, false, false, false, false] rfl rfl (take_ofW HT_.out HW_.out (by kernel_rfl)) (fun _ _ _ h => h) (Or.inl ⟨by rfl, ?_⟩) hHeld ?_ ?_
   rotate_left
   ·
    rintro w' ⟨s0, s1, s2, s3, s4, s5⟩
    go_simp
    with_reducible rfl
   rotate_left
   ·
    simp only [Act.put, sb_, sc0_, sc1_, i64_w, i32_w]
    rfl
   refine take_ (i := 6) (N := some 26) (v := ?_) (a' := ?_) #[true, true, true, true, true, true, true, false, false, true, true, false, false, false, false, false, false] rfl rfl (take_ofW HT_.out HW_.out (by kernel_rfl)) (fun _ _ _ h => h) (Or.inl ⟨by rfl, ?_⟩) hHeld ?_ ?_
   rotate_left
   ·
    rintro w' ⟨s0, s1, s2, s3, s4, s5⟩
    go_simp
    with_reducible rfl
   rotate_left
   ·
    simp only [Act.put, sb_, sc0_, sc1_, i64_w, i32_w]
    rfl
   refine pure_ (i := 7) (N := some 27) (v := ?_) (a' := ?_) #[true, true, true, true, true, true, true, true, false, true, true, false, false, false, false, false, false] rfl rfl (any_of HT_.out (by kernel_rfl)) (fun _ _ _ h => h) (Or.inl ⟨by rfl, ?_⟩) ?_ ?_
   rotate_left
   ·
    intro w'
    go_simp
    with_reducible rfl
   rotate_left
   ·
    simp only [Act.put, sb_, sc0_, sc1_, i64_w, i32_w]
    rfl
   refine take_ (i := 8) (N := some 28) (v := ?_) (a' := ?_) #[true, true, true, true, true, true, true, true, true, true, true, false, false, false, false, false, false] rfl rfl (take_ofW HT_.out HW_.out (by kernel_rfl)) (fun _ _ _ h => h) (Or.inl ⟨by rfl, ?_⟩) hHeld ?_ ?_
   rotate_left
   ·
    rintro w' ⟨s0, s1, s2, s3, s4, s5⟩
    go_simp
    with_reducible rfl
   rotate_left
   ·
    simp only [Act.put, sb_, sc0_, sc1_, i64_w, i32_w]
    rfl
   refine take_ (i := 11) (N := some 31) (v := ?_) (a' := ?_) #[true, true, true, true, true, true, true, true, true, true, true, true, false, false, false, false, false] rfl rfl (take_ofW HT_.out HW_.out (by kernel_rfl)) (fun _ _ _ h => h) (Or.inl ⟨by rfl, ?_⟩) hHeld ?_ ?_
   rotate_left
   ·
    rintro w' ⟨s0, s1, s2, s3, s4, s5⟩
    go_simp
    with_reducible rfl
   rotate_left
   ·
    simp only [Act.put, sb_, sc0_, sc1_, i64_w, i32_w]
    rfl
   refine pure_ (i := 12) (N := some 32) (v := ?_) (a' := ?_) #[true, true, true, true, true, true, true, true, true, true, true, true, true, false, false, false, false] rfl rfl (any_of HT_.out (by kernel_rfl)) (fun _ _ _ h => h) (Or.inl ⟨by rfl, ?_⟩) ?_ ?_
   rotate_left
   ·
    intro w'
    go_simp
    with_reducible rfl
   rotate_left
   ·
    simp only [Act.put, sb_, sc0_, sc1_, i64_w, i32_w]
    rfl
   refine take_ (i := 13) (N := some 33) (v := ?_) (a' := ?_) #[true, true, true, true, true, true, true, true, true, true, true, true, true, true, false, false, false] rfl rfl (take_ofW HT_.out HW_.out (by kernel_rfl)) (fun _ _ _ h => h) (Or.inl ⟨by rfl, ?_⟩) hHeld ?_ ?_
   rotate_left
   ·
    rintro w' ⟨s0, s1, s2, s3, s4, s5⟩
    go_simp
    with_reducible rfl
   rotate_left
   ·
    simp only [Act.put, sb_, sc0_, sc1_, i64_w, i32_w]
    rfl
   refine one_ (i := 14) (N := some 34) #[true, true, true, true, true, true, true, true, true, true, true, true, true, true, true, false, false] rfl rfl (one_of HT_.out (by kernel_rfl)) (by decide) (fun K hK => ?_)
   refine goes_ Try.func124 (by kernel_rfl) rfl #[.int .i64 ((rd_ITerm l0 x13_1).f0), .int .i64 (rd x5_1 ((rd_ITerm l0 x13_1).f2)), .int .i64 (rd x5_1 ((rd_ITerm l0 x13_1).f3))] (by rfl) rfl rfl az ?_
   with_reducible refine (impl_do.calls ((rd_ITerm l0 x13_1).f0) (rd x5_1 ((rd_ITerm l0 x13_1).f2)) (rd x5_1 ((rd_ITerm l0 x13_1).f3)) t842 _ A34.out).mono ?_
   rintro e w42 ⟨rfl, hb⟩
   have HS4_ := (hb.cell (World.block_lt_of_cell? _ _ (hHeld.2.2.2.2.1))).trans (hHeld.2.2.2.2.1)
   have HS5_ := (hb.cell (World.block_lt_of_cell? _ _ (hHeld.2.2.2.2.2))).trans (hHeld.2.2.2.2.2)
   refine ⟨_, rfl, ?_⟩
   have n0_ := Aside0.mk (Kd.R_below (ozR HO_5) hb)
   have n1_ := Aside0.mk (blk_below (g := gb836) (o := .cells #[.int .i64 ((rd_ITerm l0 x13_1).f0), .int .i64 ((rd_ITerm l0 x13_1).f1), .int .i64 ((rd_ITerm l0 x13_1).f2), .int .i64 ((rd_ITerm l0 x13_1).f3)] 107 (0, 0)) (kz BK836) hb)
   have n2_ := Aside0.mk (below_step (bz1 HB GE836) hb)
   clear HO_5
   clear BK836
   clear HB
   have HO_5 := n0_
   have BK836 := n1_
   have HB := n2_
   clear n0_ n1_ n2_
   (try clear hb)
   (try clear hb2)
   (try clear hk)
   (try clear hi)
   have p36 : 0 ≤ (x13_1 : Int) := dz
   have q36 : (x13_1 : Int) < ((x5_1.length : Int) : Int) := dz
   obtain ⟨go36, co36, eo36, gb36, gl36, cl36, HG36⟩ := Kd.R_form HO_5.out (by omega)
   (first | cases eo36 | (injection eo36 with ea_ en_ ec_; (first | subst ea_ | (injection ea_ with ea_; subst ea_)); subst ec_; clear en_))
   have GB36 := Aside0.mk gb36
   have GG36 := Aside0.mk HG36
   clear gb36 gl36 HG36
   (first | simp only [add_plain] at hx840_0 | skip)
   (first | simp only [add_plain] at hx841_0 | skip)
   obtain ⟨hx36_0, hf36_0⟩ := Kd.R_celln 0 HO_5.out (x13_1 : Int) p36 q36
   replace p36 := eq_true p36
   replace q36 := eq_true q36
   have HP43 := Kd.R_putn HO_5.out (x13_1 : Int) t842
   rw [← Ny843.out] at HP43
   have HQ43 := Aside0.mk HP43
   clear HP43
   refine hK.out _ _ ⟨(blk_cell BK836.out 0).trans rfl, (blk_cell BK836.out 1).trans rfl, (blk_cell BK836.out 2).trans rfl, (blk_cell BK836.out 3).trans rfl, HS4_, HS5_⟩ (fun hHeld => ?_)
   clear hK K
   refine norm_ (a' := ?_) ?_ ?_
   rotate_left
   ·
    show Act.put _ (some 34) _ = _
    simp only [Act.put, sb_, sc0_, sc1_, i64_w, i32_w]
    rfl
   refine pure_ (i := 15) (N := some 35) (v := ?_) (a' := ?_) #[true, true, true, true, true, true, true, true, true, true, true, true, true, true, true, true, false] rfl rfl (any_of HT_.out (by kernel_rfl)) (fun _ _ _ h => h) (Or.inl ⟨by rfl, ?_⟩) ?_ ?_
   rotate_left
   ·
    intro w'
    go_simp
    with_reducible rfl
   rotate_left
   ·
    simp only [Act.put, sb_, sc0_, sc1_, i64_w, i32_w]
    rfl
   refine last_ (i := 16) (N := none) #[true, true, true, true, true, true, true, true, true, true, true, true, true, true, true, true, true] rfl rfl (one_of HT_.out (by kernel_rfl)) (by decide) (fun K hK => ?_)
   refine skip_ (w1 := ?_) (by rfl) rfl ?_ ?_
   rotate_left
   ·
    go_simp
    rfl
   refine hK.out _ _ ?_
   clear hK K
   refine done_ (done_of HT_.out (by kernel_rfl)) ?_
   try go_wp2
   go_roundg k1
   case measure => have := HK1.out; omega
   case rel => exact ⟨(y843), (wrap64 (x13_1 + 1)), rq, H', ⟨by have := HK1.out; omega⟩, ⟨by (with_reducible repeat (first | apply Kd.R_alloc | apply Kd.R_drewN | apply Kd.R_drew)); exact HQ43.out⟩, ⟨bz2 HB GB36 GE836⟩⟩
end Go.Proofs.Ytoofhjflfpccdaa.PA
end
section
namespace Go.Proofs.Ytoofhjflfpccdaa.PA
open Go.RowKit Go.Proofs.YtoofhjflfpccdaaW.PrintWords Go.Proofs.YtoofhjflfpccdaaW.PrintLast Go.Proofs.YtoofhjflfpccdaaW.PrintMore
attribute [local go_sem] max2_int min2_int max_two min_two max_three min_three max_four min_four   -- for this text's walks alone
set_option linter.unusedVariables false
set_option linter.unusedSimpArgs false
set_option maxHeartbeats 8000000 in
set_option maxRecDepth 100000 in
theorem impl_use.calls (k : Nat) (A0_0 : Option Addr) (c0_0 : Nat) (l0_0 : List (IVar)) (A0_1 : Option Addr) (c0_1 : Nat) (l0_1 : List (IRule)) (A1 : Option Addr) (c1 : Nat) (l1 : List Int) (a2 : Int) (r1 : List Int) (r2 : Bool) (w : World) (hr0_0 : Kd.C k62 w A0_0 l0_0.length l0_0) (hc0_0 : l0_0.length ≤ c0_0) (hr0_1 : Kd.C k81 w A0_1 l0_1.length l0_1) (hc0_1 : l0_1.length ≤ c0_1) (hr1 : Kd.C (Kd.int .i64) w A1 l1.length l1) (hc1 : l1.length ≤ c1) (h : impl_use.f k l0_0 l0_1 l1 a2 = some (r1, r2)) :
  Calls Try.prog 82 #[.agg #[.slice A0_0 l0_0.length c0_0, .slice A0_1 l0_1.length c0_1], .slice A1 l1.length c1, .int .i64 a2] w fun e w' => ∃ v0_ : Value, e = .returned (.tuple #[v0_, .bool r2]) ∧ Kd.R (Kd.int .i64) 3 w' w.heap.size (fun _ => True) v0_ r1 ∧ Below w.heap.size w w' := by
 have hu31 := Try.underlying31
 have hu81 := Try.underlying81
 have HR0_0 := Aside0.mk hr0_0
 have HC0_0 := Aside0.mk hc0_0
 clear hr0_0 hc0_0
 have HR0_1 := Aside0.mk hr0_1
 have HC0_1 := Aside0.mk hc0_1
 clear hr0_1 hc0_1
 have HR1 := Aside0.mk hr1
 have HC1 := Aside0.mk hc1
 clear hr1 hc1
 have HB := Aside0.mk (Below.refl w.heap.size w)
 have H : (if 0 ≤ a2 then (if a2 < (l0_1.length : Int) then ((impl_eval.f k ((rd_IRule l0_1 a2).f0) l1).bind fun t847 => (if t847 = 0 then (some (([] : List Int), false)) else ((impl_clone_int.f l1).bind fun t848 => (impl_use.l0 k l1 t848 ((rd_IRule l0_1 a2).f1) (((rd_IRule l0_1 a2).f1).length : Int) 0 l0_0 l0_1 ((rd_IRule l0_1 a2).f0) ((rd_IRule l0_1 a2).f1) ((rd_IRule l0_1 a2).f2))))) else (none)) else (none)) = some (r1, r2) := h
 clear h
 by_cases c4 : 0 ≤ a2
 case neg =>
  rw [if_neg c4] at H
  exact absurd H (by simp)
 rw [if_pos c4] at H
 have c4b0 : decide (0 ≤ a2) = true := decide_eq_true c4
 clear c4
 by_cases c5 : a2 < (l0_1.length : Int)
 case neg =>
  rw [if_neg c5] at H
  exact absurd H (by simp)
 rw [if_pos c5] at H
 have c5b0 : decide (a2 < (l0_1.length : Int)) = true := decide_eq_true c5
 clear c5
 replace H := Option.bind_eq_some_iff.mp H
 obtain ⟨t847, A60, H⟩ := H
 have A6 := Aside0.mk A60
 clear A60
 by_cases c7 : t847 = 0
 case pos =>
  rw [if_pos c7] at H
  have c7b0 : (t847 == 0) = true := beq_iff_eq.mpr c7
  have c7b1 : (t847 != 0) = false := bne_eq_false_iff_eq.mpr c7
  clear c7
  simp only [Option.some.injEq, Prod.mk.injEq] at H
  obtain ⟨rfl, rfl⟩ := H
  go_enter Try.func82, Try.ntmps82
  go_wp2_with (first | ((with_reducible refine gate_dst (N := 3) rfl ?_); refine box_event ?hg (N := 3) ?hd (cs := #[.slice A0_0 l0_0.length c0_0, .slice A0_1 l0_1.length c0_1]) (t := 31) ?hr ?_; (case hd => rfl); (case hg => rfl); (case hr => first | (go_simp; done) | (go_simp; rfl)); intro gb844 hg w8 hbox hb; have n0_ := Aside0.mk (below_step (bz HB) hb); have n1_ := Aside0.mk (hbox); have n2_ := Aside0.mk ((by rw [hg]; exact (below_size (bz HB)) : w.heap.size ≤ gb844)); have n3_ := Aside0.mk ((by rw [hg]; exact (below_size (bz HB)) : w.heap.size ≤ gb844)); clear HB; have HB := n0_; have BK844 := n1_; have GW844 := n2_; have GE844 := n3_; clear n0_ n1_ n2_ n3_; clear hb hbox hg; have hcz9_0 : w8.cell? ⟨gb844, 0, none⟩ = some (.slice A0_0 l0_0.length c0_0) := (blk_cell BK844.out 0).trans rfl; have hcz9_1 : w8.cell? ⟨gb844, 1, none⟩ = some (.slice A0_1 l0_1.length c0_1) := (blk_cell BK844.out 1).trans rfl; have hfz9_0 := blk_frozen BK844.out 0; have hfz9_1 := blk_frozen BK844.out 1; have p845 : 0 ≤ (a2 : Int) := dz; have q845 : a2 < (l0_1.length : Int) := dz; obtain ⟨ad845, A845_0, c845_0, A845_1, c845_1, A845_2, c845_2, e845, hx845_0, hx845_1, hx845_2, hl845_0, hi845_0, hl845_1, hi845_1, hl845_2, hi845_2⟩ := at_IRule HR0_1.out a2 p845 q845; cases e845; replace hx845_0 := xz HB hx845_0; replace hx845_1 := xz HB hx845_1; replace hx845_2 := xz HB hx845_2; have HR845_0 := Aside0.mk hi845_0; have HC845_0 := Aside0.mk hl845_0; clear hi845_0 hl845_0; have HR845_1 := Aside0.mk hi845_1; have HC845_1 := Aside0.mk hl845_1; clear hi845_1 hl845_1; have HR845_2 := Aside0.mk hi845_2; have HC845_2 := Aside0.mk hl845_2; clear hi845_2 hl845_2; replace p845 := eq_true p845; replace q845 := eq_true q845) | ((with_reducible refine gate_dst (N := 8) rfl ?_); refine box_event ?hg (N := 8) ?hd (cs := #[.slice none 0 0, .slice none 0 0, .slice none 0 0]) (t := 81) ?hr ?_; (case hd => rfl); (case hg => rfl); (case hr => first | (go_simp; done) | (go_simp; rfl)); intro gb846 hg w10 hbox hb; have n0_ := Aside0.mk (blk_below (g := gb844) (o := .cells #[.slice A0_0 l0_0.length c0_0, .slice (some ad845) l0_1.length c0_1] 31 (0, 0)) (kz BK844) hb); have n1_ := Aside0.mk (below_step (bz1 HB GE844) hb); have n2_ := Aside0.mk (hbox); have n3_ := Aside0.mk ((by rw [hg]; exact (below_size (bz1 HB GE844)) : w.heap.size ≤ gb846)); have n4_ := Aside0.mk ((by rw [hg]; exact (below_size (bz1 HB GE844)) : w.heap.size ≤ gb846)); have n5_ := Aside0.mk ((by rw [hg]; exact Nat.ne_of_lt (blk_lt (g := gb844) (o := .cells #[.slice A0_0 l0_0.length c0_0, .slice (some ad845) l0_1.length c0_1] 31 (0, 0)) (kz BK844)) : gb844 ≠ gb846)); have n6_ := Aside0.mk ((by rw [hg]; exact Nat.ne_of_gt (blk_lt (g := gb844) (o := .cells #[.slice A0_0 l0_0.length c0_0, .slice (some ad845) l0_1.length c0_1] 31 (0, 0)) (kz BK844)) : gb846 ≠ gb844)); clear BK844; clear HB; have BK844 := n0_; have HB := n1_; have BK846 := n2_; have GW846 := n3_; have GE846 := n4_; have NB844_846 := n5_; have NB846_844 := n6_; clear n0_ n1_ n2_ n3_ n4_ n5_ n6_; clear hb hbox hg; have hnb11 := NB846_844.out; have hnc11 := NB844_846.out; have hcz12_0 : w10.cell? ⟨gb846, 0, none⟩ = some (.slice none 0 0) := (blk_cell BK846.out 0).trans rfl; have hcz12_1 : w10.cell? ⟨gb846, 1, none⟩ = some (.slice none 0 0) := (blk_cell BK846.out 1).trans rfl; have hcz12_2 : w10.cell? ⟨gb846, 2, none⟩ = some (.slice none 0 0) := (blk_cell BK846.out 2).trans rfl; have hfz12_0 := blk_frozen BK846.out 0; have hfz12_1 := blk_frozen BK846.out 1; have hfz12_2 := blk_frozen BK846.out 2) | ((with_reducible refine gate_callee (f := 110) rfl ?_); refine goesL_ (some 20) rfl rfl Try.func110 (by kernel_rfl) rfl #[.slice A845_0 ((rd_IRule l0_1 a2).f0).length c845_0, .slice A1 l1.length c1] rfl az ?_; (with_reducible refine (impl_eval.calls k _ _ ((rd_IRule l0_1 a2).f0) _ _ l1 t847 _ ?side1 HC845_0.out ?side3 HC1.out A6.out).mono ?_); (case side1 => exact Kd.C_below HR845_0.out (bz2 HB GE844 GE846)); (case side3 => exact Kd.C_below HR1.out (bz2 HB GE844 GE846)); rintro e w13 ⟨rfl, hb⟩; refine ⟨_, rfl, ?_⟩; replace BK844 := Aside0.mk (blk_below (g := gb844) (o := .cells #[.slice A0_0 l0_0.length c0_0, .slice (some ad845) l0_1.length c0_1] 31 (0, 0)) (by (with_reducible repeat (first | refine blk_drewN ?_ _ | refine blk_drew ?_ | refine blk_alloc ?_ _)); refine blk_far ?_ NB844_846.out _; (with_reducible repeat (first | refine blk_drewN ?_ _ | refine blk_drew ?_ | refine blk_alloc ?_ _)); refine blk_far ?_ NB844_846.out _; (with_reducible repeat (first | refine blk_drewN ?_ _ | refine blk_drew ?_ | refine blk_alloc ?_ _)); refine blk_far ?_ NB844_846.out _; exact kz BK844) hb); replace BK846 := Aside0.mk (blk_below (g := gb846) (o := .cells #[.slice A845_0 ((rd_IRule l0_1 a2).f0).length c845_0, .slice A845_1 ((rd_IRule l0_1 a2).f1).length c845_1, .slice A845_2 ((rd_IRule l0_1 a2).f2).length c845_2] 81 (0, 0)) (by (with_reducible repeat (first | refine blk_drewN ?_ _ | refine blk_drew ?_ | refine blk_alloc ?_ _)); refine blk_put (cs := #[.slice A845_0 ((rd_IRule l0_1 a2).f0).length c845_0, .slice A845_1 ((rd_IRule l0_1 a2).f1).length c845_1, .slice none 0 0]) ?_ 2 _ rfl; (with_reducible repeat (first | refine blk_drewN ?_ _ | refine blk_drew ?_ | refine blk_alloc ?_ _)); refine blk_put (cs := #[.slice A845_0 ((rd_IRule l0_1 a2).f0).length c845_0, .slice none 0 0, .slice none 0 0]) ?_ 1 _ rfl; (with_reducible repeat (first | refine blk_drewN ?_ _ | refine blk_drew ?_ | refine blk_alloc ?_ _)); refine blk_put (cs := #[.slice none 0 0, .slice none 0 0, .slice none 0 0]) ?_ 0 _ rfl; exact kz BK846) hb); replace HB := Aside0.mk (below_step (bz2 HB GE844 GE846) hb); clear hb))
  go_ret2
  exact ⟨_, rz, nz, bz2 HB GE844 GE846⟩
 rw [if_neg c7] at H
 have c7b0 : (t847 == 0) = false := beq_eq_false_iff_ne.mpr c7
 have c7b1 : (t847 != 0) = true := bne_iff_ne.mpr c7
 replace H := Option.bind_eq_some_iff.mp H
 obtain ⟨t848, A140, H⟩ := H
 have A14 := Aside0.mk A140
 clear A140
 have H' := Aside0.mk H
 clear H
 go_enter Try.func82, Try.ntmps82
 go_wp2_with (first | ((with_reducible refine gate_dst (N := 3) rfl ?_); refine box_event ?hg (N := 3) ?hd (cs := #[.slice A0_0 l0_0.length c0_0, .slice A0_1 l0_1.length c0_1]) (t := 31) ?hr ?_; (case hd => rfl); (case hg => rfl); (case hr => first | (go_simp; done) | (go_simp; rfl)); intro gb844 hg w15 hbox hb; have n0_ := Aside0.mk (below_step (bz HB) hb); have n1_ := Aside0.mk (hbox); have n2_ := Aside0.mk ((by rw [hg]; exact (below_size (bz HB)) : w.heap.size ≤ gb844)); have n3_ := Aside0.mk ((by rw [hg]; exact (below_size (bz HB)) : w.heap.size ≤ gb844)); clear HB; have HB := n0_; have BK844 := n1_; have GW844 := n2_; have GE844 := n3_; clear n0_ n1_ n2_ n3_; clear hb hbox hg; have hcz16_0 : w15.cell? ⟨gb844, 0, none⟩ = some (.slice A0_0 l0_0.length c0_0) := (blk_cell BK844.out 0).trans rfl; have hcz16_1 : w15.cell? ⟨gb844, 1, none⟩ = some (.slice A0_1 l0_1.length c0_1) := (blk_cell BK844.out 1).trans rfl; have hfz16_0 := blk_frozen BK844.out 0; have hfz16_1 := blk_frozen BK844.out 1; have p845 : 0 ≤ (a2 : Int) := dz; have q845 : a2 < (l0_1.length : Int) := dz; obtain ⟨ad845, A845_0, c845_0, A845_1, c845_1, A845_2, c845_2, e845, hx845_0, hx845_1, hx845_2, hl845_0, hi845_0, hl845_1, hi845_1, hl845_2, hi845_2⟩ := at_IRule HR0_1.out a2 p845 q845; cases e845; replace hx845_0 := xz HB hx845_0; replace hx845_1 := xz HB hx845_1; replace hx845_2 := xz HB hx845_2; have HR845_0 := Aside0.mk hi845_0; have HC845_0 := Aside0.mk hl845_0; clear hi845_0 hl845_0; have HR845_1 := Aside0.mk hi845_1; have HC845_1 := Aside0.mk hl845_1; clear hi845_1 hl845_1; have HR845_2 := Aside0.mk hi845_2; have HC845_2 := Aside0.mk hl845_2; clear hi845_2 hl845_2; replace p845 := eq_true p845; replace q845 := eq_true q845) | ((with_reducible refine gate_dst (N := 8) rfl ?_); refine box_event ?hg (N := 8) ?hd (cs := #[.slice none 0 0, .slice none 0 0, .slice none 0 0]) (t := 81) ?hr ?_; (case hd => rfl); (case hg => rfl); (case hr => first | (go_simp; done) | (go_simp; rfl)); intro gb846 hg w17 hbox hb; have n0_ := Aside0.mk (blk_below (g := gb844) (o := .cells #[.slice A0_0 l0_0.length c0_0, .slice (some ad845) l0_1.length c0_1] 31 (0, 0)) (kz BK844) hb); have n1_ := Aside0.mk (below_step (bz1 HB GE844) hb); have n2_ := Aside0.mk (hbox); have n3_ := Aside0.mk ((by rw [hg]; exact (below_size (bz1 HB GE844)) : w.heap.size ≤ gb846)); have n4_ := Aside0.mk ((by rw [hg]; exact (below_size (bz1 HB GE844)) : w.heap.size ≤ gb846)); have n5_ := Aside0.mk ((by rw [hg]; exact Nat.ne_of_lt (blk_lt (g := gb844) (o := .cells #[.slice A0_0 l0_0.length c0_0, .slice (some ad845) l0_1.length c0_1] 31 (0, 0)) (kz BK844)) : gb844 ≠ gb846)); have n6_ := Aside0.mk ((by rw [hg]; exact Nat.ne_of_gt (blk_lt (g := gb844) (o := .cells #[.slice A0_0 l0_0.length c0_0, .slice (some ad845) l0_1.length c0_1] 31 (0, 0)) (kz BK844)) : gb846 ≠ gb844)); clear BK844; clear HB; have BK844 := n0_; have HB := n1_; have BK846 := n2_; have GW846 := n3_; have GE846 := n4_; have NB844_846 := n5_; have NB846_844 := n6_; clear n0_ n1_ n2_ n3_ n4_ n5_ n6_; clear hb hbox hg; have hnb18 := NB846_844.out; have hnc18 := NB844_846.out; have hcz19_0 : w17.cell? ⟨gb846, 0, none⟩ = some (.slice none 0 0) := (blk_cell BK846.out 0).trans rfl; have hcz19_1 : w17.cell? ⟨gb846, 1, none⟩ = some (.slice none 0 0) := (blk_cell BK846.out 1).trans rfl; have hcz19_2 : w17.cell? ⟨gb846, 2, none⟩ = some (.slice none 0 0) := (blk_cell BK846.out 2).trans rfl; have hfz19_0 := blk_frozen BK846.out 0; have hfz19_1 := blk_frozen BK846.out 1; have hfz19_2 := blk_frozen BK846.out 2) | ((with_reducible refine gate_callee (f := 110) rfl ?_); refine goesL_ (some 20) rfl rfl Try.func110 (by kernel_rfl) rfl #[.slice A845_0 ((rd_IRule l0_1 a2).f0).length c845_0, .slice A1 l1.length c1] rfl az ?_; (with_reducible refine (impl_eval.calls k _ _ ((rd_IRule l0_1 a2).f0) _ _ l1 t847 _ ?side1 HC845_0.out ?side3 HC1.out A6.out).mono ?_); (case side1 => exact Kd.C_below HR845_0.out (bz2 HB GE844 GE846)); (case side3 => exact Kd.C_below HR1.out (bz2 HB GE844 GE846)); rintro e w20 ⟨rfl, hb⟩; refine ⟨_, rfl, ?_⟩; replace BK844 := Aside0.mk (blk_below (g := gb844) (o := .cells #[.slice A0_0 l0_0.length c0_0, .slice (some ad845) l0_1.length c0_1] 31 (0, 0)) (by (with_reducible repeat (first | refine blk_drewN ?_ _ | refine blk_drew ?_ | refine blk_alloc ?_ _)); refine blk_far ?_ NB844_846.out _; (with_reducible repeat (first | refine blk_drewN ?_ _ | refine blk_drew ?_ | refine blk_alloc ?_ _)); refine blk_far ?_ NB844_846.out _; (with_reducible repeat (first | refine blk_drewN ?_ _ | refine blk_drew ?_ | refine blk_alloc ?_ _)); refine blk_far ?_ NB844_846.out _; exact kz BK844) hb); replace BK846 := Aside0.mk (blk_below (g := gb846) (o := .cells #[.slice A845_0 ((rd_IRule l0_1 a2).f0).length c845_0, .slice A845_1 ((rd_IRule l0_1 a2).f1).length c845_1, .slice A845_2 ((rd_IRule l0_1 a2).f2).length c845_2] 81 (0, 0)) (by (with_reducible repeat (first | refine blk_drewN ?_ _ | refine blk_drew ?_ | refine blk_alloc ?_ _)); refine blk_put (cs := #[.slice A845_0 ((rd_IRule l0_1 a2).f0).length c845_0, .slice A845_1 ((rd_IRule l0_1 a2).f1).length c845_1, .slice none 0 0]) ?_ 2 _ rfl; (with_reducible repeat (first | refine blk_drewN ?_ _ | refine blk_drew ?_ | refine blk_alloc ?_ _)); refine blk_put (cs := #[.slice A845_0 ((rd_IRule l0_1 a2).f0).length c845_0, .slice none 0 0, .slice none 0 0]) ?_ 1 _ rfl; (with_reducible repeat (first | refine blk_drewN ?_ _ | refine blk_drew ?_ | refine blk_alloc ?_ _)); refine blk_put (cs := #[.slice none 0 0, .slice none 0 0, .slice none 0 0]) ?_ 0 _ rfl; exact kz BK846) hb); replace HB := Aside0.mk (below_step (bz2 HB GE844 GE846) hb); clear hb) | ((with_reducible refine gate_callee (f := 101) rfl ?_); refine goesL_ (some 23) rfl rfl Try.func101 (by kernel_rfl) rfl #[.slice A1 l1.length c1] rfl az ?_; (with_reducible refine (impl_clone_int.calls _ _ l1 t848 _ ?side1 HC1.out A14.out).mono ?_); (case side1 => exact cz HR1 HB); rintro e w21 ⟨v849, rfl, ho0, hb⟩; refine ⟨_, rfl, ?_⟩; have HO850 := Aside0.mk (Kd.R_lower ho0 (below_size (bz2 HB GE844 GE846))); replace BK844 := Aside0.mk (blk_below (g := gb844) (o := .cells #[.slice A0_0 l0_0.length c0_0, .slice (some ad845) l0_1.length c0_1] 31 (0, 0)) (kz BK844) hb); replace BK846 := Aside0.mk (blk_below (g := gb846) (o := .cells #[.slice A845_0 ((rd_IRule l0_1 a2).f0).length c845_0, .slice A845_1 ((rd_IRule l0_1 a2).f1).length c845_1, .slice A845_2 ((rd_IRule l0_1 a2).f2).length c845_2] 81 (0, 0)) (kz BK846) hb); replace HB := Aside0.mk (below_step (bz2 HB GE844 GE846) hb); clear hb; (try clear ho0); have hcz22_0 : w21.cell? ⟨gb846, 0, none⟩ = some (.slice A845_0 ((rd_IRule l0_1 a2).f0).length c845_0) := (blk_cell BK846.out 0).trans rfl; have hcz22_1 : w21.cell? ⟨gb846, 1, none⟩ = some (.slice A845_1 ((rd_IRule l0_1 a2).f1).length c845_1) := (blk_cell BK846.out 1).trans rfl; have hcz22_2 : w21.cell? ⟨gb846, 2, none⟩ = some (.slice A845_2 ((rd_IRule l0_1 a2).f2).length c845_2) := (blk_cell BK846.out 2).trans rfl; have hfz22_0 := blk_frozen BK846.out 0; have hfz22_1 := blk_frozen BK846.out 1; have hfz22_2 := blk_frozen BK846.out 2))
 go_loopg [27] k (fun kq v27 w' => ∃ (x9_1 : List Int) (x27_1 : Int), v27 = .int .i64 x27_1 ∧ Aside0 (impl_use.l0 kq l1 x9_1 ((rd_IRule l0_1 a2).f1) (((rd_IRule l0_1 a2).f1).length : Int) x27_1 l0_0 l0_1 ((rd_IRule l0_1 a2).f0) ((rd_IRule l0_1 a2).f1) ((rd_IRule l0_1 a2).f2) = some (r1, r2)) ∧ Aside0 (kq ≤ k) ∧ Aside0 (Kd.R (Kd.int .i64) 3 w' w.heap.size (fun _ => True) v849 x9_1) ∧ Aside0 (w'.heap[gb844]? = some (.cells #[(.slice A0_0 l0_0.length c0_0), (.slice (some ad845) l0_1.length c0_1)] 31 (0, 0))) ∧ Aside0 (w'.heap[gb846]? = some (.cells #[(.slice A845_0 ((rd_IRule l0_1 a2).f0).length c845_0), (.slice A845_1 ((rd_IRule l0_1 a2).f1).length c845_1), (.slice A845_2 ((rd_IRule l0_1 a2).f2).length c845_2)] 81 (0, 0))) ∧ Aside0 (Below w.heap.size w w'))
 case atStart => exact ⟨(t848), (0), rq, H', ⟨Nat.le_refl _⟩, ⟨ozR HO850⟩, ⟨kz BK844⟩, ⟨kz BK846⟩, ⟨bz2 HB GE844 GE846⟩⟩
 case round =>
  clear H'
  try clear c1
  try clear p2
  try clear c4
  try clear c4b0
  try clear c5
  try clear c5b0
  try clear c7
  try clear c7b0
  try clear c7b1
  try clear c8
  try clear p8
  try clear q8
  try clear hx8
  try clear c10
  try clear c11
  try clear c18
  try clear hcz12_0
  try clear hcz12_1
  try clear hcz12_2
  try clear hcz16_0
  try clear hcz16_1
  try clear hcz19_0
  try clear hcz19_1
  try clear hcz19_2
  try clear hcz22_0
  try clear hcz22_1
  try clear hcz22_2
  try clear hcz9_0
  try clear hcz9_1
  try clear hfz12_0
  try clear hfz12_1
  try clear hfz12_2
  try clear hfz16_0
  try clear hfz16_1
  try clear hfz19_0
  try clear hfz19_1
  try clear hfz19_2
  try clear hfz22_0
  try clear hfz22_1
  try clear hfz22_2
  try clear hfz9_0
  try clear hfz9_1
  try clear hx845_0
  try clear hx845_1
  try clear hx845_2
  try clear p845
  try clear q845
  obtain ⟨x9_1, x27_1, rfl, HA, HK1, HO_9, BK844, BK846, HB⟩ := hrel
  cases gk with
  | zero => exact absurd HA.out (by simp [impl_use.l0])
  | succ k1 =>
   have H := HA.out
   clear HA
   simp only [impl_use.l0] at H
   by_cases c23 : x27_1 < (((rd_IRule l0_1 a2).f1).length : Int)
   case neg =>
    rw [if_neg c23] at H
    have c23b0 : decide (x27_1 < (((rd_IRule l0_1 a2).f1).length : Int)) = false := decide_eq_false c23
    clear c23
    replace H := Option.bind_eq_some_iff.mp H
    obtain ⟨t855, A360, H⟩ := H
    have A36 := Aside0.mk A360
    clear A360
    by_cases c37 : t855 = true
    case pos =>
     subst c37
     rw [if_pos rfl] at H
     simp only [Option.some.injEq, Prod.mk.injEq] at H
     obtain ⟨rfl, rfl⟩ := H
     have hnb38 := NB844_846.out
     have hnc38 := NB846_844.out
     have hcz39_0 : wr.cell? ⟨gb844, 0, none⟩ = some (.slice A0_0 l0_0.length c0_0) := (blk_cell BK844.out 0).trans rfl
     have hcz39_1 : wr.cell? ⟨gb844, 1, none⟩ = some (.slice (some ad845) l0_1.length c0_1) := (blk_cell BK844.out 1).trans rfl
     have hfz39_0 := blk_frozen BK844.out 0
     have hfz39_1 := blk_frozen BK844.out 1
     obtain ⟨Ao40, co40, eo40⟩ := Kd.R_slice HO_9.out
     subst eo40
     go_wp2_with (first | ((with_reducible refine gate_callee (f := 74) rfl ?_); refine goesL_ (some 45) rfl rfl Try.func74 (by kernel_rfl) rfl #[.agg #[.slice A0_0 l0_0.length c0_0, .slice (some ad845) l0_1.length c0_1], .slice Ao40 x9_1.length co40] rfl az ?_; (with_reducible refine (impl_inRange.calls k1 _ _ l0_0 _ _ l0_1 _ _ x9_1 true _ ?side1 HC0_0.out ?side3 HC0_1.out ?side5 ?side6 A36.out).mono ?_); (case side1 => exact cz HR0_0 HB); (case side3 => exact cz HR0_1 HB); (case side5 => exact cz1 (Kd.R_reads' HO_9.out).2.2); (case side6 => exact (Kd.R_reads' HO_9.out).2.1); rintro e w41 ⟨rfl, hb⟩; refine ⟨_, rfl, ?_⟩; replace HO_9 := Aside0.mk (Kd.R_below (ozR HO_9) hb); replace BK844 := Aside0.mk (blk_below (g := gb844) (o := .cells #[.slice A0_0 l0_0.length c0_0, .slice (some ad845) l0_1.length c0_1] 31 (0, 0)) (kz BK844) hb); replace BK846 := Aside0.mk (blk_below (g := gb846) (o := .cells #[.slice A845_0 ((rd_IRule l0_1 a2).f0).length c845_0, .slice A845_1 ((rd_IRule l0_1 a2).f1).length c845_1, .slice A845_2 ((rd_IRule l0_1 a2).f2).length c845_2] 81 (0, 0)) (kz BK846) hb); replace HB := Aside0.mk (below_step (bz2 HB GE844 GE846) hb); clear hb))
     go_ret2
     exact ⟨_, rz, ozR HO_9, bz2 HB GE844 GE846⟩
    replace c37 := Bool.eq_false_iff.mpr c37
    subst c37
    rw [if_neg nt_] at H
    simp only [Option.some.injEq, Prod.mk.injEq] at H
    obtain ⟨rfl, rfl⟩ := H
    have hnb42 := NB844_846.out
    have hnc42 := NB846_844.out
    have hcz43_0 : wr.cell? ⟨gb844, 0, none⟩ = some (.slice A0_0 l0_0.length c0_0) := (blk_cell BK844.out 0).trans rfl
    have hcz43_1 : wr.cell? ⟨gb844, 1, none⟩ = some (.slice (some ad845) l0_1.length c0_1) := (blk_cell BK844.out 1).trans rfl
    have hfz43_0 := blk_frozen BK844.out 0
    have hfz43_1 := blk_frozen BK844.out 1
    obtain ⟨Ao44, co44, eo44⟩ := Kd.R_slice HO_9.out
    subst eo44
    go_wp2_with (first | ((with_reducible refine gate_callee (f := 74) rfl ?_); refine goesL_ (some 45) rfl rfl Try.func74 (by kernel_rfl) rfl #[.agg #[.slice A0_0 l0_0.length c0_0, .slice (some ad845) l0_1.length c0_1], .slice Ao44 x9_1.length co44] rfl az ?_; (with_reducible refine (impl_inRange.calls k1 _ _ l0_0 _ _ l0_1 _ _ x9_1 false _ ?side1 HC0_0.out ?side3 HC0_1.out ?side5 ?side6 A36.out).mono ?_); (case side1 => exact cz HR0_0 HB); (case side3 => exact cz HR0_1 HB); (case side5 => exact cz1 (Kd.R_reads' HO_9.out).2.2); (case side6 => exact (Kd.R_reads' HO_9.out).2.1); rintro e w45 ⟨rfl, hb⟩; refine ⟨_, rfl, ?_⟩; replace HO_9 := Aside0.mk (Kd.R_below (ozR HO_9) hb); replace BK844 := Aside0.mk (blk_below (g := gb844) (o := .cells #[.slice A0_0 l0_0.length c0_0, .slice (some ad845) l0_1.length c0_1] 31 (0, 0)) (kz BK844) hb); replace BK846 := Aside0.mk (blk_below (g := gb846) (o := .cells #[.slice A845_0 ((rd_IRule l0_1 a2).f0).length c845_0, .slice A845_1 ((rd_IRule l0_1 a2).f1).length c845_1, .slice A845_2 ((rd_IRule l0_1 a2).f2).length c845_2] 81 (0, 0)) (kz BK846) hb); replace HB := Aside0.mk (below_step (bz2 HB GE844 GE846) hb); clear hb))
    go_ret2
    exact ⟨_, rz, nz, bz2 HB GE844 GE846⟩
   rw [if_pos c23] at H
   have c23b0 : decide (x27_1 < (((rd_IRule l0_1 a2).f1).length : Int)) = true := decide_eq_true c23
   clear c23
   by_cases c24 : 0 ≤ x27_1
   case neg =>
    rw [if_neg c24] at H
    exact absurd H (by simp)
   rw [if_pos c24] at H
   have c24b0 : decide (0 ≤ x27_1) = true := decide_eq_true c24
   clear c24
   by_cases c25 : x27_1 < (((rd_IRule l0_1 a2).f1).length : Int)
   case neg =>
    rw [if_neg c25] at H
    exact absurd H (by simp)
   rw [if_pos c25] at H
   have c25b0 : decide (x27_1 < (((rd_IRule l0_1 a2).f1).length : Int)) = true := decide_eq_true c25
   clear c25
   by_cases c26 : x27_1 < (((rd_IRule l0_1 a2).f2).length : Int)
   case neg =>
    rw [if_neg c26] at H
    exact absurd H (by simp)
   rw [if_pos c26] at H
   have c26b0 : decide (x27_1 < (((rd_IRule l0_1 a2).f2).length : Int)) = true := decide_eq_true c26
   clear c26
   replace H := Option.bind_eq_some_iff.mp H
   obtain ⟨t853, A270, H⟩ := H
   have A27 := Aside0.mk A270
   clear A270
   by_cases c28 : 0 ≤ (rd ((rd_IRule l0_1 a2).f1) x27_1)
   case neg =>
    rw [if_neg c28] at H
    exact absurd H (by simp)
   rw [if_pos c28] at H
   have c28b0 : decide (0 ≤ (rd ((rd_IRule l0_1 a2).f1) x27_1)) = true := decide_eq_true c28
   clear c28
   by_cases c29 : (rd ((rd_IRule l0_1 a2).f1) x27_1) < (x9_1.length : Int)
   case neg =>
    rw [if_neg c29] at H
    exact absurd H (by simp)
   rw [if_pos c29] at H
   have c29b0 : decide ((rd ((rd_IRule l0_1 a2).f1) x27_1) < (x9_1.length : Int)) = true := decide_eq_true c29
   clear c29
   obtain ⟨y854, hy854⟩ : ∃ y_ : List Int, y_ = (x9_1.set ((rd ((rd_IRule l0_1 a2).f1) x27_1) : Int).toNat t853) := ⟨_, rfl⟩
   replace H : (impl_use.l0 k1 l1 y854 ((rd_IRule l0_1 a2).f1) (((rd_IRule l0_1 a2).f1).length : Int) (wrap64 (x27_1 + 1)) l0_0 l0_1 ((rd_IRule l0_1 a2).f0) ((rd_IRule l0_1 a2).f1) ((rd_IRule l0_1 a2).f2)) = some (r1, r2) := by first | (rw [hy854]; with_reducible exact H) | (have H2_ := (Option.bind_some _ _).symm.trans H; rw [hy854]; with_reducible exact H2_) | (have H2_ := (Option.bind_some _ _).symm.trans H; with_reducible exact H2_) | with_reducible exact H | (rw [hy854]; exact H) | exact H
   have Ny854 := Aside0.mk hy854
   clear hy854
   have H' := Aside0.mk H
   clear H
   have p851 : 0 ≤ (x27_1 : Int) := dz
   have q851 : x27_1 < (((rd_IRule l0_1 a2).f1).length : Int) := dz
   obtain ⟨ad851, e851, hx851_0⟩ := Kd.at_int HR845_1.out x27_1 p851 q851
   cases e851
   replace hx851_0 := xz HB hx851_0
   replace p851 := eq_true p851
   replace q851 := eq_true q851
   have hnb31 := NB846_844.out
   have hnc31 := NB844_846.out
   have hcz32_0 : wr.cell? ⟨gb846, 0, none⟩ = some (.slice A845_0 ((rd_IRule l0_1 a2).f0).length c845_0) := (blk_cell BK846.out 0).trans rfl
   have hcz32_1 : wr.cell? ⟨gb846, 1, none⟩ = some (.slice (some ad851) ((rd_IRule l0_1 a2).f1).length c845_1) := (blk_cell BK846.out 1).trans rfl
   have hcz32_2 : wr.cell? ⟨gb846, 2, none⟩ = some (.slice A845_2 ((rd_IRule l0_1 a2).f2).length c845_2) := (blk_cell BK846.out 2).trans rfl
   have hfz32_0 := blk_frozen BK846.out 0
   have hfz32_1 := blk_frozen BK846.out 1
   have hfz32_2 := blk_frozen BK846.out 2
   have p852 : 0 ≤ (x27_1 : Int) := dz
   have q852 : x27_1 < (((rd_IRule l0_1 a2).f2).length : Int) := dz
   obtain ⟨ad852, A852_0, c852_0, e852, hx852_0, hl852_0, hi852_0⟩ := at_LITerm HR845_2.out x27_1 p852 q852
   cases e852
   replace hx852_0 := xz HB hx852_0
   have HR852_0 := Aside0.mk hi852_0
   have HC852_0 := Aside0.mk hl852_0
   clear hi852_0 hl852_0
   replace p852 := eq_true p852
   replace q852 := eq_true q852
   go_wp2_with (first | ((with_reducible refine gate_callee (f := 110) rfl ?_); refine goesL_ (some 40) rfl rfl Try.func110 (by kernel_rfl) rfl #[.slice A852_0 (rd_LITerm ((rd_IRule l0_1 a2).f2) x27_1).length c852_0, .slice A1 l1.length c1] rfl az ?_; (with_reducible refine (impl_eval.calls k1 _ _ (rd_LITerm ((rd_IRule l0_1 a2).f2) x27_1) _ _ l1 t853 _ ?side1 HC852_0.out ?side3 HC1.out A27.out).mono ?_); (case side1 => exact cz HR852_0 HB); (case side3 => exact cz HR1 HB); rintro e w33 ⟨rfl, hb⟩; refine ⟨_, rfl, ?_⟩; replace HO_9 := Aside0.mk (Kd.R_below (ozR HO_9) hb); replace BK844 := Aside0.mk (blk_below (g := gb844) (o := .cells #[.slice A0_0 l0_0.length c0_0, .slice (some ad845) l0_1.length c0_1] 31 (0, 0)) (kz BK844) hb); replace BK846 := Aside0.mk (blk_below (g := gb846) (o := .cells #[.slice A845_0 ((rd_IRule l0_1 a2).f0).length c845_0, .slice (some ad851) ((rd_IRule l0_1 a2).f1).length c845_1, .slice (some ad852) ((rd_IRule l0_1 a2).f2).length c845_2] 81 (0, 0)) (kz BK846) hb); replace HB := Aside0.mk (below_step (bz2 HB GE844 GE846) hb); clear hb; have p30 : 0 ≤ ((rd ((rd_IRule l0_1 a2).f1) x27_1) : Int) := dz; have q30 : ((rd ((rd_IRule l0_1 a2).f1) x27_1) : Int) < ((x9_1.length : Int) : Int) := dz; obtain ⟨go30, co30, eo30, gb30, gl30, cl30, HG30⟩ := Kd.R_form HO_9.out (by omega); (first | cases eo30 | (injection eo30 with ea_ en_ ec_; (first | subst ea_ | (injection ea_ with ea_; subst ea_)); subst ec_; clear en_)); have GB30 := Aside0.mk gb30; have GG30 := Aside0.mk HG30; clear gb30 gl30 HG30; obtain ⟨hx30_0, hf30_0⟩ := Kd.R_celln 0 HO_9.out ((rd ((rd_IRule l0_1 a2).f1) x27_1) : Int) p30 q30; replace p30 := eq_true p30; replace q30 := eq_true q30; obtain ⟨hy34_, hz34_⟩ := Kd.R_celln 0 HO_9.out ((rd ((rd_IRule l0_1 a2).f1) x27_1) : Int) (dz) (dz); have HP34 := Kd.R_putg HO_9.out ((rd ((rd_IRule l0_1 a2).f1) x27_1) : Int) t853) | ((with_reducible refine gate_store (t := 3) (p := 41) rfl ?_); refine store_event (t := 3) (p := 41) (v := ?vo_w35) (w1 := (w33.setCell ⟨go30, ((rd ((rd_IRule l0_1 a2).f1) x27_1) : Int).toNat, none⟩ (.int .i64 t853))) ?hg ?ho ?hn ?hr ?_; (case ho => rfl); (case hg => rfl); (case hn => rfl); (case hr => first | (go_simp; done) | (go_simp; rfl)); intro w35 hw; have hg : w33.grownBy w35 (some go30) := (by rw [hw]; exact HP34.2); have hp_ : Kd.R (Kd.int .i64) 3 w35 w.heap.size (fun _ => True) (.slice (some ⟨go30, 0, none⟩) x9_1.length co30) y854 := (by rw [hw, Ny854.out]; exact HP34.1); clear HP34; have n0_ := Aside0.mk (hp_); have n1_ := Aside0.mk (blk_grown (g := gb844) (o := .cells #[.slice A0_0 l0_0.length c0_0, .slice (some ad845) l0_1.length c0_1] 31 (0, 0)) (kz BK844) hg (Kd.R_ne HO_9.out BK844.out (by decide))); have n2_ := Aside0.mk (blk_grown (g := gb846) (o := .cells #[.slice A845_0 ((rd_IRule l0_1 a2).f0).length c845_0, .slice (some ad851) ((rd_IRule l0_1 a2).f1).length c845_1, .slice (some ad852) ((rd_IRule l0_1 a2).f2).length c845_2] 81 (0, 0)) (kz BK846) hg (Kd.R_ne HO_9.out BK846.out (by decide))); have n3_ := Aside0.mk ((by rw [hw]; exact below_set (HB.out) GB30.out : Below w.heap.size w w35)); clear HO_9; clear BK844; clear BK846; clear HB; have HO_9 := n0_; have BK844 := n1_; have BK846 := n2_; have HB := n3_; clear n0_ n1_ n2_ n3_; clear hg hw hp_))
   go_roundg k1
   case measure => have := HK1.out; omega
   case rel => exact ⟨(y854), (wrap64 (x27_1 + 1)), rq, H', ⟨by have := HK1.out; omega⟩, ⟨ozR HO_9⟩, ⟨kz BK844⟩, ⟨kz BK846⟩, ⟨bz2 HB GE844 GE846⟩⟩
end Go.Proofs.Ytoofhjflfpccdaa.PA
end
section
namespace Go.Proofs.Ytoofhjflfpccdaa.PA
open Go.RowKit Go.Proofs.YtoofhjflfpccdaaW.PrintWords Go.Proofs.YtoofhjflfpccdaaW.PrintLast Go.Proofs.YtoofhjflfpccdaaW.PrintMore
attribute [local go_sem] max2_int min2_int max_two min_two max_three min_three max_four min_four   -- for this text's walks alone
set_option linter.unusedVariables false
set_option linter.unusedSimpArgs false
set_option maxHeartbeats 8000000 in
set_option maxRecDepth 100000 in
theorem slices_Equal_int_int.calls (k : Nat) (A0 : Option Addr) (c0 : Nat) (l0 : List Int) (A1 : Option Addr) (c1 : Nat) (l1 : List Int) (r : Bool) (w : World) (hr0 : Kd.C (Kd.int .i64) w A0 l0.length l0) (hc0 : l0.length ≤ c0) (hr1 : Kd.C (Kd.int .i64) w A1 l1.length l1) (hc1 : l1.length ≤ c1) (h : slices_Equal_int_int.f k l0 l1 = some r) :
  Calls Try.prog 84 #[.slice A0 l0.length c0, .slice A1 l1.length c1] w fun e w' => e = .returned (.bool r) ∧ Drawn0 w w' := by
 have HR0 := Aside0.mk hr0
 have HC0 := Aside0.mk hc0
 clear hr0 hc0
 have HR1 := Aside0.mk hr1
 have HC1 := Aside0.mk hc1
 clear hr1 hc1
 have H : (if (l0.length : Int) = (l1.length : Int) then (slices_Equal_int_int.l0 k l0 l1 (l0.length : Int) 0) else (some false)) = some r := h
 clear h
 by_cases c3 : (l0.length : Int) = (l1.length : Int)
 case neg =>
  rw [if_neg c3] at H
  have c3b0 : ((l0.length : Int) == (l1.length : Int)) = false := beq_eq_false_iff_ne.mpr c3
  have c3b1 : ((l0.length : Int) != (l1.length : Int)) = true := bne_iff_ne.mpr c3
  have c3b2 : (l0.length == l1.length) = false := by first | simpa using c3 | (simp at c3 ⊢; omega)
  obtain rfl := Option.some.inj H
  go_enter Try.func84, Try.ntmps84
  go_wp2
  repeat (go_quiet (fail); try go_wp2)
  go_ret
  exact ⟨by first | rfl | (simp; done) | (simp [*]; done), by repeat (first | exact Drawn0.refl _ | apply Drawn0.step)⟩
 rw [if_pos c3] at H
 have c3b0 : ((l0.length : Int) == (l1.length : Int)) = true := beq_iff_eq.mpr c3
 have c3b1 : ((l0.length : Int) != (l1.length : Int)) = false := bne_eq_false_iff_eq.mpr c3
 have c3b2 : (l0.length == l1.length) = true := by first | simpa using c3 | (simp at c3 ⊢; omega)
 clear c3
 have H' := Aside0.mk H
 clear H
 go_enter Try.func84, Try.ntmps84
 go_wp2
 repeat (go_quiet (fail); try go_wp2)
 go_loopg [13] k (fun kq v13 w' => ∃ (x13_1 : Int), v13 = .int .i64 x13_1 ∧ Aside0 (slices_Equal_int_int.l0 kq l0 l1 (l0.length : Int) x13_1 = some r) ∧ Aside0 (kq ≤ k) ∧ Drawn0 w w')
 case atStart => exact ⟨(0), rq, H', ⟨Nat.le_refl _⟩, by repeat (first | exact Drawn0.refl _ | apply Drawn0.step)⟩
 case round =>
  clear H'
  try clear c1
  try clear p2
  try clear c3
  try clear c3b0
  try clear c3b1
  try clear c3b2
  obtain ⟨x13_1, rfl, HA, HK1, ⟨m1, rfl⟩⟩ := hrel
  cases gk with
  | zero => exact absurd HA.out (by simp [slices_Equal_int_int.l0])
  | succ k1 =>
   have H := HA.out
   clear HA
   simp only [slices_Equal_int_int.l0] at H
   by_cases c4 : x13_1 < (l0.length : Int)
   case neg =>
    rw [if_neg c4] at H
    have c4b0 : decide (x13_1 < (l0.length : Int)) = false := decide_eq_false c4
    clear c4
    obtain rfl := Option.some.inj H
    go_wp2
    repeat (go_quiet (fail); try go_wp2)
    go_ret
    exact ⟨by first | rfl | (simp; done) | (simp [*]; done), by repeat (first | exact Drawn0.refl _ | apply Drawn0.step)⟩
   rw [if_pos c4] at H
   have c4b0 : decide (x13_1 < (l0.length : Int)) = true := decide_eq_true c4
   clear c4
   by_cases c5 : 0 ≤ x13_1
   case neg =>
    rw [if_neg c5] at H
    exact absurd H (by simp)
   rw [if_pos c5] at H
   have c5b0 : decide (0 ≤ x13_1) = true := decide_eq_true c5
   clear c5
   by_cases c6 : x13_1 < (l0.length : Int)
   case neg =>
    rw [if_neg c6] at H
    exact absurd H (by simp)
   rw [if_pos c6] at H
   have c6b0 : decide (x13_1 < (l0.length : Int)) = true := decide_eq_true c6
   clear c6
   by_cases c7 : x13_1 < (l1.length : Int)
   case neg =>
    rw [if_neg c7] at H
    exact absurd H (by simp)
   rw [if_pos c7] at H
   have c7b0 : decide (x13_1 < (l1.length : Int)) = true := decide_eq_true c7
   clear c7
   by_cases c8 : (rd l0 x13_1) = (rd l1 x13_1)
   case neg =>
    rw [if_neg c8] at H
    have c8b0 : ((rd l0 x13_1) == (rd l1 x13_1)) = false := beq_eq_false_iff_ne.mpr c8
    have c8b1 : ((rd l0 x13_1) != (rd l1 x13_1)) = true := bne_iff_ne.mpr c8
    obtain rfl := Option.some.inj H
    have p856 : 0 ≤ (x13_1 : Int) := dz
    have q856 : x13_1 < (l0.length : Int) := dz
    obtain ⟨ad856, e856, hx856_0⟩ := Kd.at_int HR0.out x13_1 p856 q856
    cases e856
    replace p856 := eq_true p856
    replace q856 := eq_true q856
    have p857 : 0 ≤ (x13_1 : Int) := dz
    have q857 : x13_1 < (l1.length : Int) := dz
    obtain ⟨ad857, e857, hx857_0⟩ := Kd.at_int HR1.out x13_1 p857 q857
    cases e857
    replace p857 := eq_true p857
    replace q857 := eq_true q857
    go_wp2
    repeat (go_quiet (fail); try go_wp2)
    go_ret
    exact ⟨by first | rfl | (simp; done) | (simp [*]; done), by repeat (first | exact Drawn0.refl _ | apply Drawn0.step)⟩
   rw [if_pos c8] at H
   have c8b0 : ((rd l0 x13_1) == (rd l1 x13_1)) = true := beq_iff_eq.mpr c8
   have c8b1 : ((rd l0 x13_1) != (rd l1 x13_1)) = false := bne_eq_false_iff_eq.mpr c8
   clear c8
   have H' := Aside0.mk H
   clear H
   have p856 : 0 ≤ (x13_1 : Int) := dz
   have q856 : x13_1 < (l0.length : Int) := dz
   obtain ⟨ad856, e856, hx856_0⟩ := Kd.at_int HR0.out x13_1 p856 q856
   cases e856
   replace p856 := eq_true p856
   replace q856 := eq_true q856
   have p857 : 0 ≤ (x13_1 : Int) := dz
   have q857 : x13_1 < (l1.length : Int) := dz
   obtain ⟨ad857, e857, hx857_0⟩ := Kd.at_int HR1.out x13_1 p857 q857
   cases e857
   replace p857 := eq_true p857
   replace q857 := eq_true q857
   go_wp2
   repeat (go_quiet (fail); try go_wp2)
   go_roundg k1
   case measure => have := HK1.out; omega
   case rel => exact ⟨(wrap64 (x13_1 + 1)), rq, H', ⟨by have := HK1.out; omega⟩, by repeat (first | exact Drawn0.refl _ | apply Drawn0.step)⟩
end Go.Proofs.Ytoofhjflfpccdaa.PA
end
section
namespace Go.Proofs.Ytoofhjflfpccdaa.PA
open Go.RowKit Go.Proofs.YtoofhjflfpccdaaW.PrintWords Go.Proofs.YtoofhjflfpccdaaW.PrintLast Go.Proofs.YtoofhjflfpccdaaW.PrintMore
attribute [local go_sem] max2_int min2_int max_two min_two max_three min_three max_four min_four   -- for this text's walks alone
set_option linter.unusedVariables false
set_option linter.unusedSimpArgs false
set_option maxHeartbeats 8000000 in
set_option maxRecDepth 100000 in
theorem impl_RulesCommute.calls (k : Nat) (A0_0 : Option Addr) (c0_0 : Nat) (l0_0 : List (IVar)) (A0_1 : Option Addr) (c0_1 : Nat) (l0_1 : List (IRule)) (A1 : Option Addr) (c1 : Nat) (l1 : List Int) (a2 : Int) (a3 : Int) (r : Bool) (w : World) (hr0_0 : Kd.C k62 w A0_0 l0_0.length l0_0) (hc0_0 : l0_0.length ≤ c0_0) (hr0_1 : Kd.C k81 w A0_1 l0_1.length l0_1) (hc0_1 : l0_1.length ≤ c0_1) (hr1 : Kd.C (Kd.int .i64) w A1 l1.length l1) (hc1 : l1.length ≤ c1) (h : impl_RulesCommute.f k l0_0 l0_1 l1 a2 a3 = some r) :
  Calls Try.prog 46 #[.agg #[.slice A0_0 l0_0.length c0_0, .slice A0_1 l0_1.length c0_1], .slice A1 l1.length c1, .int .i64 a2, .int .i64 a3] w fun e w' => e = .returned (.bool r) ∧ Below w.heap.size w w' := by
 have hu31 := Try.underlying31
 have HR0_0 := Aside0.mk hr0_0
 have HC0_0 := Aside0.mk hc0_0
 clear hr0_0 hc0_0
 have HR0_1 := Aside0.mk hr0_1
 have HC0_1 := Aside0.mk hc0_1
 clear hr0_1 hc0_1
 have HR1 := Aside0.mk hr1
 have HC1 := Aside0.mk hc1
 clear hr1 hc1
 have HB := Aside0.mk (Below.refl w.heap.size w)
 have H : ((impl_InRange.f k l0_0 l0_1 l1).bind fun t1132 => (if t1132 = true then ((impl_in.f a2 0 (wrap64 ((l0_1.length : Int) - 1))).bind fun t1133 => (if t1133 = true then ((impl_in.f a3 0 (wrap64 ((l0_1.length : Int) - 1))).bind fun t1134 => (impl_RulesCommute.j0 k l1 a2 a3 (!t1134) l0_0 l0_1)) else (impl_RulesCommute.j0 k l1 a2 a3 true l0_0 l0_1))) else (impl_RulesCommute.j0 k l1 a2 a3 true l0_0 l0_1))) = some r := h
 clear h
 have HC5 := Aside0.mk H
 clear H
 go_enter Try.func46, Try.ntmps46
 go_upto_region 1 with (first | ((with_reducible refine gate_dst (N := 4) rfl ?_); (try (refine gate_guard (by rfl) ?_; dsimp only)); refine box_event ?hg (N := 4) ?hd (cs := #[.slice A0_0 l0_0.length c0_0, .slice A0_1 l0_1.length c0_1]) (t := 31) ?hr ?_; (case hd => rfl); (case hg => rfl); (case hr => first | (go_simp; done) | (go_simp; rfl)); intro gb1131 hg w6 hbox hb; have n0_ := Aside0.mk (below_step (bz HB) hb); have n1_ := Aside0.mk (hbox); have n2_ := Aside0.mk ((by rw [hg]; exact (below_size (bz HB)) : w.heap.size ≤ gb1131)); have n3_ := Aside0.mk ((by rw [hg]; exact (below_size (bz HB)) : w.heap.size ≤ gb1131)); clear HB; have HB := n0_; have BK1131 := n1_; have GW1131 := n2_; have GE1131 := n3_; clear n0_ n1_ n2_ n3_; clear hb hbox hg))
 (try simp only [Act.put, sb_, sc0_, sc1_])
 go_cut [38] (fun v38 wc => ∃ (kq : Nat) (x38_4 : Bool), v38 = .bool x38_4 ∧ Aside0 (impl_RulesCommute.j0 kq l1 a2 a3 x38_4 l0_0 l0_1 = some r) ∧ Aside0 (kq ≤ k) ∧ Aside0 (wc.heap[gb1131]? = some (.cells #[(.slice A0_0 l0_0.length c0_0), (.slice A0_1 l0_1.length c0_1)] 31 (0, 0))) ∧ Aside0 (Below w.heap.size w wc))
 case first =>
  have H := HC5.out
  clear HC5
  replace H := Option.bind_eq_some_iff.mp H
  obtain ⟨t1132, A70, H⟩ := H
  have A7 := Aside0.mk A70
  clear A70
  by_cases c8 : t1132 = true
  case neg =>
   replace c8 := Bool.eq_false_iff.mpr c8
   subst c8
   rw [if_neg nt_] at H
   have H' := Aside0.mk H
   clear H
   have hcz18_0 : w6.cell? ⟨gb1131, 0, none⟩ = some (.slice A0_0 l0_0.length c0_0) := (blk_cell BK1131.out 0).trans rfl
   have hcz18_1 : w6.cell? ⟨gb1131, 1, none⟩ = some (.slice A0_1 l0_1.length c0_1) := (blk_cell BK1131.out 1).trans rfl
   have hfz18_0 := blk_frozen BK1131.out 0
   have hfz18_1 := blk_frozen BK1131.out 1
   go_wp2_with (first | ((with_reducible refine gate_callee (f := 63) rfl ?_); refine goesL_ (some 19) rfl rfl Try.func63 (by kernel_rfl) rfl #[.agg #[.slice A0_0 l0_0.length c0_0, .slice A0_1 l0_1.length c0_1], .slice A1 l1.length c1] rfl az ?_; (with_reducible refine (impl_InRange.calls k _ _ l0_0 _ _ l0_1 _ _ l1 false _ ?side1 HC0_0.out ?side3 HC0_1.out ?side5 HC1.out A7.out).mono ?_); (case side1 => exact cz HR0_0 HB); (case side3 => exact cz HR0_1 HB); (case side5 => exact cz HR1 HB); rintro e w19 ⟨rfl, hb⟩; refine ⟨_, rfl, ?_⟩; replace BK1131 := Aside0.mk (blk_below (g := gb1131) (o := .cells #[.slice A0_0 l0_0.length c0_0, .slice A0_1 l0_1.length c0_1] 31 (0, 0)) (kz BK1131) hb); replace HB := Aside0.mk (below_step (bz1 HB GE1131) hb); clear hb))
   go_meet
   case rel => exact ⟨_, (true), rq, H', ⟨by first | omega | exact Nat.le_refl _⟩, ⟨kz BK1131⟩, ⟨bz1 HB GE1131⟩⟩
  subst c8
  rw [if_pos rfl] at H
  replace H := Option.bind_eq_some_iff.mp H
  obtain ⟨t1133, A90, H⟩ := H
  have A9 := Aside0.mk A90
  clear A90
  by_cases c10 : t1133 = true
  case neg =>
   replace c10 := Bool.eq_false_iff.mpr c10
   subst c10
   rw [if_neg nt_] at H
   have H' := Aside0.mk H
   clear H
   have hcz15_0 : w6.cell? ⟨gb1131, 0, none⟩ = some (.slice A0_0 l0_0.length c0_0) := (blk_cell BK1131.out 0).trans rfl
   have hcz15_1 : w6.cell? ⟨gb1131, 1, none⟩ = some (.slice A0_1 l0_1.length c0_1) := (blk_cell BK1131.out 1).trans rfl
   have hfz15_0 := blk_frozen BK1131.out 0
   have hfz15_1 := blk_frozen BK1131.out 1
   go_wp2_with (first | ((with_reducible refine gate_callee (f := 63) rfl ?_); refine goesL_ (some 19) rfl rfl Try.func63 (by kernel_rfl) rfl #[.agg #[.slice A0_0 l0_0.length c0_0, .slice A0_1 l0_1.length c0_1], .slice A1 l1.length c1] rfl az ?_; (with_reducible refine (impl_InRange.calls k _ _ l0_0 _ _ l0_1 _ _ l1 true _ ?side1 HC0_0.out ?side3 HC0_1.out ?side5 HC1.out A7.out).mono ?_); (case side1 => exact cz HR0_0 HB); (case side3 => exact cz HR0_1 HB); (case side5 => exact cz HR1 HB); rintro e w16 ⟨rfl, hb⟩; refine ⟨_, rfl, ?_⟩; replace BK1131 := Aside0.mk (blk_below (g := gb1131) (o := .cells #[.slice A0_0 l0_0.length c0_0, .slice A0_1 l0_1.length c0_1] 31 (0, 0)) (kz BK1131) hb); replace HB := Aside0.mk (below_step (bz1 HB GE1131) hb); clear hb; have hcz17_0 : w16.cell? ⟨gb1131, 0, none⟩ = some (.slice A0_0 l0_0.length c0_0) := (blk_cell BK1131.out 0).trans rfl; have hcz17_1 : w16.cell? ⟨gb1131, 1, none⟩ = some (.slice A0_1 l0_1.length c0_1) := (blk_cell BK1131.out 1).trans rfl; have hfz17_0 := blk_frozen BK1131.out 0; have hfz17_1 := blk_frozen BK1131.out 1) | (go_at_call 69; (with_reducible refine (impl_in.calls a2 0 (wrap64 ((l0_1.length : Int) - 1)) false _ A9.out).mono ?_); rintro e w' ⟨rfl, ⟨nd, rfl⟩⟩))
   go_meet
   case rel => exact ⟨_, (true), rq, H', ⟨by first | omega | exact Nat.le_refl _⟩, ⟨kz BK1131⟩, ⟨bz1 HB GE1131⟩⟩
  subst c10
  rw [if_pos rfl] at H
  replace H := Option.bind_eq_some_iff.mp H
  obtain ⟨t1134, A110, H⟩ := H
  have A11 := Aside0.mk A110
  clear A110
  have H' := Aside0.mk H
  clear H
  have hcz12_0 : w6.cell? ⟨gb1131, 0, none⟩ = some (.slice A0_0 l0_0.length c0_0) := (blk_cell BK1131.out 0).trans rfl
  have hcz12_1 : w6.cell? ⟨gb1131, 1, none⟩ = some (.slice A0_1 l0_1.length c0_1) := (blk_cell BK1131.out 1).trans rfl
  have hfz12_0 := blk_frozen BK1131.out 0
  have hfz12_1 := blk_frozen BK1131.out 1
  go_wp2_with (first | ((with_reducible refine gate_callee (f := 63) rfl ?_); refine goesL_ (some 19) rfl rfl Try.func63 (by kernel_rfl) rfl #[.agg #[.slice A0_0 l0_0.length c0_0, .slice A0_1 l0_1.length c0_1], .slice A1 l1.length c1] rfl az ?_; (with_reducible refine (impl_InRange.calls k _ _ l0_0 _ _ l0_1 _ _ l1 true _ ?side1 HC0_0.out ?side3 HC0_1.out ?side5 HC1.out A7.out).mono ?_); (case side1 => exact cz HR0_0 HB); (case side3 => exact cz HR0_1 HB); (case side5 => exact cz HR1 HB); rintro e w13 ⟨rfl, hb⟩; refine ⟨_, rfl, ?_⟩; replace BK1131 := Aside0.mk (blk_below (g := gb1131) (o := .cells #[.slice A0_0 l0_0.length c0_0, .slice A0_1 l0_1.length c0_1] 31 (0, 0)) (kz BK1131) hb); replace HB := Aside0.mk (below_step (bz1 HB GE1131) hb); clear hb; have hcz14_0 : w13.cell? ⟨gb1131, 0, none⟩ = some (.slice A0_0 l0_0.length c0_0) := (blk_cell BK1131.out 0).trans rfl; have hcz14_1 : w13.cell? ⟨gb1131, 1, none⟩ = some (.slice A0_1 l0_1.length c0_1) := (blk_cell BK1131.out 1).trans rfl; have hfz14_0 := blk_frozen BK1131.out 0; have hfz14_1 := blk_frozen BK1131.out 1) | (go_at_call 69; (with_reducible refine (impl_in.calls a2 0 (wrap64 ((l0_1.length : Int) - 1)) true _ A9.out).mono ?_); rintro e w' ⟨rfl, ⟨nd, rfl⟩⟩) | (go_at_call 69; (with_reducible refine (impl_in.calls a3 0 (wrap64 ((l0_1.length : Int) - 1)) t1134 _ A11.out).mono ?_); rintro e w' ⟨rfl, ⟨nd, rfl⟩⟩))
  go_meet
  case rel => exact ⟨_, (!t1134), rq, H', ⟨by first | omega | exact Nat.le_refl _⟩, ⟨kz BK1131⟩, ⟨bz1 HB GE1131⟩⟩
 case rest =>
  clear HC5
  try clear c1
  try clear p2
  try clear c4
  try clear c6
  try clear p6
  try clear c8
  try clear c10
  try clear hcz12_0
  try clear hcz12_1
  try clear hcz14_0
  try clear hcz14_1
  try clear hcz15_0
  try clear hcz15_1
  try clear hcz17_0
  try clear hcz17_1
  try clear hcz18_0
  try clear hcz18_1
  try clear hfz12_0
  try clear hfz12_1
  try clear hfz14_0
  try clear hfz14_1
  try clear hfz15_0
  try clear hfz15_1
  try clear hfz17_0
  try clear hfz17_1
  try clear hfz18_0
  try clear hfz18_1
  obtain ⟨kq, x38_4, rfl, HA, HJ4, BK1131, HB⟩ := hcut
  cases kq with
  | zero => exact absurd HA.out (by simp [impl_RulesCommute.j0])
  | succ kj4 =>
   have H := HA.out
   clear HA
   simp only [impl_RulesCommute.j0] at H
   by_cases c20 : x38_4 = true
   case pos =>
    subst c20
    rw [if_pos rfl] at H
    obtain rfl := Option.some.inj H
    go_wp2
    go_ret
    exact ⟨rz, bz1 HB GE1131⟩
   replace c20 := Bool.eq_false_iff.mpr c20
   subst c20
   rw [if_neg nt_] at H
   replace H := Option.bind_eq_some_iff.mp H
   obtain ⟨⟨t1135, t1138⟩, A210, H⟩ := H
   dsimp only at H
   have A21 := Aside0.mk A210
   clear A210
   replace H := Option.bind_eq_some_iff.mp H
   obtain ⟨⟨t1139, t1142⟩, A220, H⟩ := H
   dsimp only at H
   have A22 := Aside0.mk A220
   clear A220
   have HC23 := Aside0.mk H
   clear H
   have hcz24_0 : wc.cell? ⟨gb1131, 0, none⟩ = some (.slice A0_0 l0_0.length c0_0) := (blk_cell BK1131.out 0).trans rfl
   have hcz24_1 : wc.cell? ⟨gb1131, 1, none⟩ = some (.slice A0_1 l0_1.length c0_1) := (blk_cell BK1131.out 1).trans rfl
   have hfz24_0 := blk_frozen BK1131.out 0
   have hfz24_1 := blk_frozen BK1131.out 1
   go_upto_region 5 with (first | ((with_reducible refine gate_callee (f := 82) rfl ?_); refine goesL_ (some 43) rfl rfl Try.func82 (by kernel_rfl) rfl #[.agg #[.slice A0_0 l0_0.length c0_0, .slice A0_1 l0_1.length c0_1], .slice A1 l1.length c1, .int .i64 a2] rfl az ?_; (with_reducible refine (impl_use.calls kj4 _ _ l0_0 _ _ l0_1 _ _ l1 a2 t1135 t1138 _ ?side1 HC0_0.out ?side3 HC0_1.out ?side5 HC1.out A21.out).mono ?_); (case side1 => exact cz HR0_0 HB); (case side3 => exact cz HR0_1 HB); (case side5 => exact cz HR1 HB); rintro e w25 ⟨v1136, rfl, ho0, hb⟩; refine ⟨_, rfl, ?_⟩; have HO1137 := Aside0.mk (Kd.R_lower ho0 (below_size (bz1 HB GE1131))); replace BK1131 := Aside0.mk (blk_below (g := gb1131) (o := .cells #[.slice A0_0 l0_0.length c0_0, .slice A0_1 l0_1.length c0_1] 31 (0, 0)) (kz BK1131) hb); replace HB := Aside0.mk (below_step (bz1 HB GE1131) hb); clear hb; (try clear ho0); have hcz26_0 : w25.cell? ⟨gb1131, 0, none⟩ = some (.slice A0_0 l0_0.length c0_0) := (blk_cell BK1131.out 0).trans rfl; have hcz26_1 : w25.cell? ⟨gb1131, 1, none⟩ = some (.slice A0_1 l0_1.length c0_1) := (blk_cell BK1131.out 1).trans rfl; have hfz26_0 := blk_frozen BK1131.out 0; have hfz26_1 := blk_frozen BK1131.out 1) | ((with_reducible refine gate_callee (f := 82) rfl ?_); refine goesL_ (some 50) rfl rfl Try.func82 (by kernel_rfl) rfl #[.agg #[.slice A0_0 l0_0.length c0_0, .slice A0_1 l0_1.length c0_1], .slice A1 l1.length c1, .int .i64 a3] rfl az ?_; (with_reducible refine (impl_use.calls kj4 _ _ l0_0 _ _ l0_1 _ _ l1 a3 t1139 t1142 _ ?side1 HC0_0.out ?side3 HC0_1.out ?side5 HC1.out A22.out).mono ?_); (case side1 => exact cz HR0_0 HB); (case side3 => exact cz HR0_1 HB); (case side5 => exact cz HR1 HB); rintro e w27 ⟨v1140, rfl, ho0, hb⟩; refine ⟨_, rfl, ?_⟩; have n0_ := Aside0.mk (Kd.R_elder' (ozR HO1137) (Kd.R_base ho0) hb); have n1_ := Aside0.mk (Kd.R_lower (Kd.R_new' ho0 (Kd.R_lt (ozR HO1137))) (below_size (bz1 HB GE1131))); have n2_ := Aside0.mk (blk_below (g := gb1131) (o := .cells #[.slice A0_0 l0_0.length c0_0, .slice A0_1 l0_1.length c0_1] 31 (0, 0)) (kz BK1131) hb); have n3_ := Aside0.mk (below_step (bz1 HB GE1131) hb); clear HO1137; clear BK1131; clear HB; have HO1137 := n0_; have HO1141 := n1_; have BK1131 := n2_; have HB := n3_; clear n0_ n1_ n2_ n3_; clear hb; (try clear ho0)))
   (try simp only [Act.put, sb_, sc0_, sc1_])
   go_cut [58] (fun v58 wc => ∃ (kq : Nat) (x58_22 : Bool), v58 = .bool x58_22 ∧ Aside0 (impl_RulesCommute.j1 kq a2 a3 t1135 t1139 x58_22 l0_0 l0_1 = some r) ∧ Aside0 (kq ≤ kj4) ∧ Aside0 (Kd.R (Kd.int .i64) 3 wc w.heap.size (fun k_ => some k_ ≠ (v1140 : Value).ownBlock) v1136 t1135) ∧ Aside0 (Kd.R (Kd.int .i64) 3 wc w.heap.size (fun k_ => some k_ ≠ (v1136 : Value).ownBlock) v1140 t1139) ∧ Aside0 (wc.heap[gb1131]? = some (.cells #[(.slice A0_0 l0_0.length c0_0), (.slice A0_1 l0_1.length c0_1)] 31 (0, 0))) ∧ Aside0 (Below w.heap.size w wc))
   case first =>
    have H := HC23.out
    clear HC23
    by_cases c28 : t1138 = true
    case pos =>
     subst c28
     rw [if_pos rfl] at H
     have H' := Aside0.mk H
     clear H
     go_wp2
     go_meet
     case rel => exact ⟨_, (!t1142), rq, H', ⟨by have := HJ4.out; first | omega | exact Nat.le_refl _⟩, ⟨by (with_reducible repeat (first | apply Kd.R_alloc | apply Kd.R_drewN | apply Kd.R_drew)); exact Kd.R_mono HO1137.out (fun _ hk => hk.2)⟩, ⟨by (with_reducible repeat (first | apply Kd.R_alloc | apply Kd.R_drewN | apply Kd.R_drew)); exact Kd.R_mono HO1141.out (fun _ hk => hk.2)⟩, ⟨kz BK1131⟩, ⟨bz1 HB GE1131⟩⟩
    replace c28 := Bool.eq_false_iff.mpr c28
    subst c28
    rw [if_neg nt_] at H
    have H' := Aside0.mk H
    clear H
    go_wp2
    go_meet
    case rel => exact ⟨_, (true), rq, H', ⟨by have := HJ4.out; first | omega | exact Nat.le_refl _⟩, ⟨by (with_reducible repeat (first | apply Kd.R_alloc | apply Kd.R_drewN | apply Kd.R_drew)); exact Kd.R_mono HO1137.out (fun _ hk => hk.2)⟩, ⟨by (with_reducible repeat (first | apply Kd.R_alloc | apply Kd.R_drewN | apply Kd.R_drew)); exact Kd.R_mono HO1141.out (fun _ hk => hk.2)⟩, ⟨kz BK1131⟩, ⟨bz1 HB GE1131⟩⟩
   case rest =>
    clear HC23
    try clear c1
    try clear c2
    try clear p2
    try clear c4
    try clear c6
    try clear p6
    try clear c8
    try clear c10
    try clear c20
    try clear c28
    try clear hcz12_0
    try clear hcz12_1
    try clear hcz14_0
    try clear hcz14_1
    try clear hcz15_0
    try clear hcz15_1
    try clear hcz17_0
    try clear hcz17_1
    try clear hcz18_0
    try clear hcz18_1
    try clear hcz24_0
    try clear hcz24_1
    try clear hcz26_0
    try clear hcz26_1
    try clear hfz12_0
    try clear hfz12_1
    try clear hfz14_0
    try clear hfz14_1
    try clear hfz15_0
    try clear hfz15_1
    try clear hfz17_0
    try clear hfz17_1
    try clear hfz18_0
    try clear hfz18_1
    try clear hfz24_0
    try clear hfz24_1
    try clear hfz26_0
    try clear hfz26_1
    try clear p2
    try clear p6
    obtain ⟨kq, x58_22, rfl, HA, HJ22, HO_9, HO_11, BK1131, HB⟩ := hcut
    cases kq with
    | zero => exact absurd HA.out (by simp [impl_RulesCommute.j1])
    | succ kj22 =>
     have H := HA.out
     clear HA
     simp only [impl_RulesCommute.j1] at H
     by_cases c29 : x58_22 = true
     case pos =>
      subst c29
      rw [if_pos rfl] at H
      obtain rfl := Option.some.inj H
      go_wp2
      go_ret
      exact ⟨rz, bz1 HB GE1131⟩
     replace c29 := Bool.eq_false_iff.mpr c29
     subst c29
     rw [if_neg nt_] at H
     replace H := Option.bind_eq_some_iff.mp H
     obtain ⟨⟨t1143, t1146⟩, A300, H⟩ := H
     dsimp only at H
     have A30 := Aside0.mk A300
     clear A300
     replace H := Option.bind_eq_some_iff.mp H
     obtain ⟨⟨t1147, t1150⟩, A310, H⟩ := H
     dsimp only at H
     have A31 := Aside0.mk A310
     clear A310
     by_cases c32 : t1146 = true
     case neg =>
      replace c32 := Bool.eq_false_iff.mpr c32
      subst c32
      rw [if_neg nt_] at H
      obtain rfl := Option.some.inj H
      have hcz49_0 : wc.cell? ⟨gb1131, 0, none⟩ = some (.slice A0_0 l0_0.length c0_0) := (blk_cell BK1131.out 0).trans rfl
      have hcz49_1 : wc.cell? ⟨gb1131, 1, none⟩ = some (.slice A0_1 l0_1.length c0_1) := (blk_cell BK1131.out 1).trans rfl
      have hfz49_0 := blk_frozen BK1131.out 0
      have hfz49_1 := blk_frozen BK1131.out 1
      obtain ⟨Ao50, co50, eo50⟩ := Kd.R_slice HO_9.out
      subst eo50
      go_wp2_with (first | ((with_reducible refine gate_callee (f := 82) rfl ?_); refine goesL_ (some 63) rfl rfl Try.func82 (by kernel_rfl) rfl #[.agg #[.slice A0_0 l0_0.length c0_0, .slice A0_1 l0_1.length c0_1], .slice Ao50 t1135.length co50, .int .i64 a3] rfl az ?_; (with_reducible refine (impl_use.calls kj22 _ _ l0_0 _ _ l0_1 _ _ t1135 a3 t1143 false _ ?side1 HC0_0.out ?side3 HC0_1.out ?side5 ?side6 A30.out).mono ?_); (case side1 => exact cz HR0_0 HB); (case side3 => exact cz HR0_1 HB); (case side5 => exact cz1 (Kd.R_reads' HO_9.out).2.2); (case side6 => exact (Kd.R_reads' HO_9.out).2.1); rintro e w51 ⟨v1144, rfl, ho0, hb⟩; refine ⟨_, rfl, ?_⟩; have n0_ := Aside0.mk (Kd.R_elder' (ozR HO_9) (Kd.R_base ho0) hb); have n1_ := Aside0.mk (Kd.R_elder' (ozR HO_11) (Kd.R_base ho0) hb); have n2_ := Aside0.mk (Kd.R_lower (Kd.R_new' (Kd.R_new' ho0 (Kd.R_lt (ozR HO_9))) (Kd.R_lt (ozR HO_11))) (below_size (bz1 HB GE1131))); have n3_ := Aside0.mk (blk_below (g := gb1131) (o := .cells #[.slice A0_0 l0_0.length c0_0, .slice A0_1 l0_1.length c0_1] 31 (0, 0)) (kz BK1131) hb); have n4_ := Aside0.mk (below_step (bz1 HB GE1131) hb); clear HO_9; clear HO_11; clear BK1131; clear HB; have HO_9 := n0_; have HO_11 := n1_; have HO1145 := n2_; have BK1131 := n3_; have HB := n4_; clear n0_ n1_ n2_ n3_ n4_; clear hb; (try clear ho0); have hcz52_0 : w51.cell? ⟨gb1131, 0, none⟩ = some (.slice A0_0 l0_0.length c0_0) := (blk_cell BK1131.out 0).trans rfl; have hcz52_1 : w51.cell? ⟨gb1131, 1, none⟩ = some (.slice A0_1 l0_1.length c0_1) := (blk_cell BK1131.out 1).trans rfl; have hfz52_0 := blk_frozen BK1131.out 0; have hfz52_1 := blk_frozen BK1131.out 1; obtain ⟨Ao53, co53, eo53⟩ := Kd.R_slice HO_11.out; subst eo53) | ((with_reducible refine gate_callee (f := 82) rfl ?_); refine goesL_ (some 70) rfl rfl Try.func82 (by kernel_rfl) rfl #[.agg #[.slice A0_0 l0_0.length c0_0, .slice A0_1 l0_1.length c0_1], .slice Ao53 t1139.length co53, .int .i64 a2] rfl az ?_; (with_reducible refine (impl_use.calls kj22 _ _ l0_0 _ _ l0_1 _ _ t1139 a2 t1147 t1150 _ ?side1 HC0_0.out ?side3 HC0_1.out ?side5 ?side6 A31.out).mono ?_); (case side1 => exact cz HR0_0 HB); (case side3 => exact cz HR0_1 HB); (case side5 => exact cz1 (Kd.R_reads' HO_11.out).2.2); (case side6 => exact (Kd.R_reads' HO_11.out).2.1); rintro e w54 ⟨v1148, rfl, ho0, hb⟩; refine ⟨_, rfl, ?_⟩; have n0_ := Aside0.mk (Kd.R_elder' (ozR HO_9) (Kd.R_base ho0) hb); have n1_ := Aside0.mk (Kd.R_elder' (ozR HO_11) (Kd.R_base ho0) hb); have n2_ := Aside0.mk (Kd.R_elder' (ozR HO1145) (Kd.R_base ho0) hb); have n3_ := Aside0.mk (Kd.R_lower (Kd.R_new' (Kd.R_new' (Kd.R_new' ho0 (Kd.R_lt (ozR HO_9))) (Kd.R_lt (ozR HO_11))) (Kd.R_lt (ozR HO1145))) (below_size (bz1 HB GE1131))); have n4_ := Aside0.mk (blk_below (g := gb1131) (o := .cells #[.slice A0_0 l0_0.length c0_0, .slice A0_1 l0_1.length c0_1] 31 (0, 0)) (kz BK1131) hb); have n5_ := Aside0.mk (below_step (bz1 HB GE1131) hb); clear HO_9; clear HO_11; clear HO1145; clear BK1131; clear HB; have HO_9 := n0_; have HO_11 := n1_; have HO1145 := n2_; have HO1149 := n3_; have BK1131 := n4_; have HB := n5_; clear n0_ n1_ n2_ n3_ n4_ n5_; clear hb; (try clear ho0)))
      go_ret
      exact ⟨rz, bz1 HB GE1131⟩
     subst c32
     rw [if_pos rfl] at H
     by_cases c33 : t1150 = true
     case neg =>
      replace c33 := Bool.eq_false_iff.mpr c33
      subst c33
      rw [if_neg nt_] at H
      obtain rfl := Option.some.inj H
      have hcz43_0 : wc.cell? ⟨gb1131, 0, none⟩ = some (.slice A0_0 l0_0.length c0_0) := (blk_cell BK1131.out 0).trans rfl
      have hcz43_1 : wc.cell? ⟨gb1131, 1, none⟩ = some (.slice A0_1 l0_1.length c0_1) := (blk_cell BK1131.out 1).trans rfl
      have hfz43_0 := blk_frozen BK1131.out 0
      have hfz43_1 := blk_frozen BK1131.out 1
      obtain ⟨Ao44, co44, eo44⟩ := Kd.R_slice HO_9.out
      subst eo44
      go_wp2_with (first | ((with_reducible refine gate_callee (f := 82) rfl ?_); refine goesL_ (some 63) rfl rfl Try.func82 (by kernel_rfl) rfl #[.agg #[.slice A0_0 l0_0.length c0_0, .slice A0_1 l0_1.length c0_1], .slice Ao44 t1135.length co44, .int .i64 a3] rfl az ?_; (with_reducible refine (impl_use.calls kj22 _ _ l0_0 _ _ l0_1 _ _ t1135 a3 t1143 true _ ?side1 HC0_0.out ?side3 HC0_1.out ?side5 ?side6 A30.out).mono ?_); (case side1 => exact cz HR0_0 HB); (case side3 => exact cz HR0_1 HB); (case side5 => exact cz1 (Kd.R_reads' HO_9.out).2.2); (case side6 => exact (Kd.R_reads' HO_9.out).2.1); rintro e w45 ⟨v1144, rfl, ho0, hb⟩; refine ⟨_, rfl, ?_⟩; have n0_ := Aside0.mk (Kd.R_elder' (ozR HO_9) (Kd.R_base ho0) hb); have n1_ := Aside0.mk (Kd.R_elder' (ozR HO_11) (Kd.R_base ho0) hb); have n2_ := Aside0.mk (Kd.R_lower (Kd.R_new' (Kd.R_new' ho0 (Kd.R_lt (ozR HO_9))) (Kd.R_lt (ozR HO_11))) (below_size (bz1 HB GE1131))); have n3_ := Aside0.mk (blk_below (g := gb1131) (o := .cells #[.slice A0_0 l0_0.length c0_0, .slice A0_1 l0_1.length c0_1] 31 (0, 0)) (kz BK1131) hb); have n4_ := Aside0.mk (below_step (bz1 HB GE1131) hb); clear HO_9; clear HO_11; clear BK1131; clear HB; have HO_9 := n0_; have HO_11 := n1_; have HO1145 := n2_; have BK1131 := n3_; have HB := n4_; clear n0_ n1_ n2_ n3_ n4_; clear hb; (try clear ho0); have hcz46_0 : w45.cell? ⟨gb1131, 0, none⟩ = some (.slice A0_0 l0_0.length c0_0) := (blk_cell BK1131.out 0).trans rfl; have hcz46_1 : w45.cell? ⟨gb1131, 1, none⟩ = some (.slice A0_1 l0_1.length c0_1) := (blk_cell BK1131.out 1).trans rfl; have hfz46_0 := blk_frozen BK1131.out 0; have hfz46_1 := blk_frozen BK1131.out 1; obtain ⟨Ao47, co47, eo47⟩ := Kd.R_slice HO_11.out; subst eo47) | ((with_reducible refine gate_callee (f := 82) rfl ?_); refine goesL_ (some 70) rfl rfl Try.func82 (by kernel_rfl) rfl #[.agg #[.slice A0_0 l0_0.length c0_0, .slice A0_1 l0_1.length c0_1], .slice Ao47 t1139.length co47, .int .i64 a2] rfl az ?_; (with_reducible refine (impl_use.calls kj22 _ _ l0_0 _ _ l0_1 _ _ t1139 a2 t1147 false _ ?side1 HC0_0.out ?side3 HC0_1.out ?side5 ?side6 A31.out).mono ?_); (case side1 => exact cz HR0_0 HB); (case side3 => exact cz HR0_1 HB); (case side5 => exact cz1 (Kd.R_reads' HO_11.out).2.2); (case side6 => exact (Kd.R_reads' HO_11.out).2.1); rintro e w48 ⟨v1148, rfl, ho0, hb⟩; refine ⟨_, rfl, ?_⟩; have n0_ := Aside0.mk (Kd.R_elder' (ozR HO_9) (Kd.R_base ho0) hb); have n1_ := Aside0.mk (Kd.R_elder' (ozR HO_11) (Kd.R_base ho0) hb); have n2_ := Aside0.mk (Kd.R_elder' (ozR HO1145) (Kd.R_base ho0) hb); have n3_ := Aside0.mk (Kd.R_lower (Kd.R_new' (Kd.R_new' (Kd.R_new' ho0 (Kd.R_lt (ozR HO_9))) (Kd.R_lt (ozR HO_11))) (Kd.R_lt (ozR HO1145))) (below_size (bz1 HB GE1131))); have n4_ := Aside0.mk (blk_below (g := gb1131) (o := .cells #[.slice A0_0 l0_0.length c0_0, .slice A0_1 l0_1.length c0_1] 31 (0, 0)) (kz BK1131) hb); have n5_ := Aside0.mk (below_step (bz1 HB GE1131) hb); clear HO_9; clear HO_11; clear HO1145; clear BK1131; clear HB; have HO_9 := n0_; have HO_11 := n1_; have HO1145 := n2_; have HO1149 := n3_; have BK1131 := n4_; have HB := n5_; clear n0_ n1_ n2_ n3_ n4_ n5_; clear hb; (try clear ho0)))
      go_ret
      exact ⟨rz, bz1 HB GE1131⟩
     subst c33
     rw [if_pos rfl] at H
     replace H := Option.bind_eq_some_iff.mp H
     obtain ⟨t1151, A340, H⟩ := H
     have A34 := Aside0.mk A340
     clear A340
     obtain rfl := Option.some.inj H
     have hcz35_0 : wc.cell? ⟨gb1131, 0, none⟩ = some (.slice A0_0 l0_0.length c0_0) := (blk_cell BK1131.out 0).trans rfl
     have hcz35_1 : wc.cell? ⟨gb1131, 1, none⟩ = some (.slice A0_1 l0_1.length c0_1) := (blk_cell BK1131.out 1).trans rfl
     have hfz35_0 := blk_frozen BK1131.out 0
     have hfz35_1 := blk_frozen BK1131.out 1
     obtain ⟨Ao36, co36, eo36⟩ := Kd.R_slice HO_9.out
     subst eo36
     go_wp2_with (first | ((with_reducible refine gate_callee (f := 82) rfl ?_); refine goesL_ (some 63) rfl rfl Try.func82 (by kernel_rfl) rfl #[.agg #[.slice A0_0 l0_0.length c0_0, .slice A0_1 l0_1.length c0_1], .slice Ao36 t1135.length co36, .int .i64 a3] rfl az ?_; (with_reducible refine (impl_use.calls kj22 _ _ l0_0 _ _ l0_1 _ _ t1135 a3 t1143 true _ ?side1 HC0_0.out ?side3 HC0_1.out ?side5 ?side6 A30.out).mono ?_); (case side1 => exact cz HR0_0 HB); (case side3 => exact cz HR0_1 HB); (case side5 => exact cz1 (Kd.R_reads' HO_9.out).2.2); (case side6 => exact (Kd.R_reads' HO_9.out).2.1); rintro e w37 ⟨v1144, rfl, ho0, hb⟩; refine ⟨_, rfl, ?_⟩; have n0_ := Aside0.mk (Kd.R_elder' (ozR HO_9) (Kd.R_base ho0) hb); have n1_ := Aside0.mk (Kd.R_elder' (ozR HO_11) (Kd.R_base ho0) hb); have n2_ := Aside0.mk (Kd.R_lower (Kd.R_new' (Kd.R_new' ho0 (Kd.R_lt (ozR HO_9))) (Kd.R_lt (ozR HO_11))) (below_size (bz1 HB GE1131))); have n3_ := Aside0.mk (blk_below (g := gb1131) (o := .cells #[.slice A0_0 l0_0.length c0_0, .slice A0_1 l0_1.length c0_1] 31 (0, 0)) (kz BK1131) hb); have n4_ := Aside0.mk (below_step (bz1 HB GE1131) hb); clear HO_9; clear HO_11; clear BK1131; clear HB; have HO_9 := n0_; have HO_11 := n1_; have HO1145 := n2_; have BK1131 := n3_; have HB := n4_; clear n0_ n1_ n2_ n3_ n4_; clear hb; (try clear ho0); have hcz38_0 : w37.cell? ⟨gb1131, 0, none⟩ = some (.slice A0_0 l0_0.length c0_0) := (blk_cell BK1131.out 0).trans rfl; have hcz38_1 : w37.cell? ⟨gb1131, 1, none⟩ = some (.slice A0_1 l0_1.length c0_1) := (blk_cell BK1131.out 1).trans rfl; have hfz38_0 := blk_frozen BK1131.out 0; have hfz38_1 := blk_frozen BK1131.out 1; obtain ⟨Ao39, co39, eo39⟩ := Kd.R_slice HO_11.out; subst eo39) | ((with_reducible refine gate_callee (f := 82) rfl ?_); refine goesL_ (some 70) rfl rfl Try.func82 (by kernel_rfl) rfl #[.agg #[.slice A0_0 l0_0.length c0_0, .slice A0_1 l0_1.length c0_1], .slice Ao39 t1139.length co39, .int .i64 a2] rfl az ?_; (with_reducible refine (impl_use.calls kj22 _ _ l0_0 _ _ l0_1 _ _ t1139 a2 t1147 true _ ?side1 ?side2 ?side3 ?side4 ?side5 ?side6 A31.out).mono ?_); (case side1 => exact cz HR0_0 HB); (case side2 => exact HC0_0.out); (case side3 => exact cz HR0_1 HB); (case side4 => exact HC0_1.out); (case side5 => exact cz1 (Kd.R_reads' HO_11.out).2.2); (case side6 => exact (Kd.R_reads' HO_11.out).2.1); rintro e w40 ⟨v1148, rfl, ho0, hb⟩; refine ⟨_, rfl, ?_⟩; have n0_ := Aside0.mk (Kd.R_elder' (ozR HO_9) (Kd.R_base ho0) hb); have n1_ := Aside0.mk (Kd.R_elder' (ozR HO_11) (Kd.R_base ho0) hb); have n2_ := Aside0.mk (Kd.R_elder' (ozR HO1145) (Kd.R_base ho0) hb); have n3_ := Aside0.mk (Kd.R_lower (Kd.R_new' (Kd.R_new' (Kd.R_new' ho0 (Kd.R_lt (ozR HO_9))) (Kd.R_lt (ozR HO_11))) (Kd.R_lt (ozR HO1145))) (below_size (bz1 HB GE1131))); have n4_ := Aside0.mk (blk_below (g := gb1131) (o := .cells #[.slice A0_0 l0_0.length c0_0, .slice A0_1 l0_1.length c0_1] 31 (0, 0)) (kz BK1131) hb); have n5_ := Aside0.mk (below_step (bz1 HB GE1131) hb); clear HO_9; clear HO_11; clear HO1145; clear BK1131; clear HB; have HO_9 := n0_; have HO_11 := n1_; have HO1145 := n2_; have HO1149 := n3_; have BK1131 := n4_; have HB := n5_; clear n0_ n1_ n2_ n3_ n4_ n5_; clear hb; (try clear ho0); obtain ⟨Ao41, co41, eo41⟩ := Kd.R_slice HO1145.out; subst eo41; obtain ⟨Ao42, co42, eo42⟩ := Kd.R_slice HO1149.out; subst eo42) | (go_at_call 84; (with_reducible refine (slices_Equal_int_int.calls kj22 _ _ t1143 _ _ t1147 t1151 _ ?side1 ?side2 ?side3 ?side4 A34.out).mono ?_); (case side1 => exact cz1 (Kd.R_reads' HO1145.out).2.2); (case side2 => exact (Kd.R_reads' HO1145.out).2.1); (case side3 => exact cz1 (Kd.R_reads' HO1149.out).2.2); (case side4 => exact (Kd.R_reads' HO1149.out).2.1); rintro e w' ⟨rfl, ⟨nd, rfl⟩⟩))
     go_ret
     exact ⟨rz, bz1 HB GE1131⟩
end Go.Proofs.Ytoofhjflfpccdaa.PA
end
