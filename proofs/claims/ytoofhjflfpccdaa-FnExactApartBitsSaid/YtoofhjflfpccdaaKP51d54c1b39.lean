/- Walks of Go functions: each is shown to answer as the Lean function beside it tells, under the conditions that its theorem names. -/
import Derived.Test.YtoofhjflfpccdaaProg
import Derived.Below
import Derived.Deep.Draws
import Derived.Deep.AppendLies
import Derived.Maps.AppendAt
import Derived.OwnWalk
import Derived.Laws.BytesArg
import Derived.Laws.MakeOwn
import Derived.Laws.OwnMore
import Derived.Deep.OwnRows
import Derived.Tactics
import Derived.Lib.ConvBytes
import Derived.Laws.Slices
import Derived.WalkKit
import Derived.KernelRfl
import Derived.RowKit3
import Derived.Deep.LoopGhost
import Derived.Deep.QuietTactic
import Derived.BigQuiet
import Derived.WideLaws
import Derived.Deep.DeepCutAuto
import Derived.Deep.CutBlock
import Derived.Deep.RegionHeld3
import Derived.Laws.Rows
import Derived.Lib.AppendStr
import Derived.ArgAppend
import Derived.Laws.IdiomCopy
import Derived.OrdersHeld
import Derived.Laws.BitsLemmas
import Derived.RowKit
import Derived.Laws.StructEq
import Derived.Lib.SliceRun
import Derived.WalkSpells
import Derived.ChangeArms
import Derived.ChangeSlices
import Derived.Deep.Slices
import Derived.Test.YtoofhjflfpccdaaKPd42fbbd98a
import Derived.Test.YtoofhjflfpccdaaKDb220d306dd
section
namespace Go.Proofs.Ytoofhjflfpccdaa.PA
open Go.RowKit Go.Proofs.YtoofhjflfpccdaaW.PrintWords Go.Proofs.YtoofhjflfpccdaaW.PrintLast Go.Proofs.YtoofhjflfpccdaaW.PrintMore
attribute [local go_sem] max2_int min2_int max_two min_two max_three min_three max_four min_four   -- for this text's walks alone
set_option linter.unusedVariables false
set_option linter.unusedSimpArgs false
set_option maxHeartbeats 8000000 in
set_option maxRecDepth 100000 in
theorem impl_inRange.calls (k : Nat) (A0_0 : Option Addr) (c0_0 : Nat) (l0_0 : List (IVar)) (A0_1 : Option Addr) (c0_1 : Nat) (l0_1 : List (IRule)) (A1 : Option Addr) (c1 : Nat) (l1 : List Int) (r : Bool) (w : World) (hr0_0 : Kd.C k62 w A0_0 l0_0.length l0_0) (hc0_0 : l0_0.length ≤ c0_0) (hr0_1 : Kd.C k81 w A0_1 l0_1.length l0_1) (hc0_1 : l0_1.length ≤ c0_1) (hr1 : Kd.C (Kd.int .i64) w A1 l1.length l1) (hc1 : l1.length ≤ c1) (h : impl_inRange.f k l0_0 l0_1 l1 = some r) :
  Calls Try.prog 74 #[.agg #[.slice A0_0 l0_0.length c0_0, .slice A0_1 l0_1.length c0_1], .slice A1 l1.length c1] w fun e w' => e = .returned (.bool r) ∧ Below w.heap.size w w' := by
 have hu31 := Try.underlying31
 have hu62 := Try.underlying62
 have HR0_0 := Aside0.mk hr0_0
 have HC0_0 := Aside0.mk hc0_0
 clear hr0_0 hc0_0
 have HR0_1 := Aside0.mk hr0_1
 have HC0_1 := Aside0.mk hc0_1
 clear hr0_1 hc0_1
 have HR1 := Aside0.mk hr1
 have HC1 := Aside0.mk hc1
 clear hr1 hc1
 have HB := Aside0.mk (Below.refl w.heap.size w)
 have H : (if (l1.length : Int) = (l0_0.length : Int) then (impl_inRange.l0 k l1 l0_0 (l0_0.length : Int) 0) else (some false)) = some r := h
 clear h
 by_cases c3 : (l1.length : Int) = (l0_0.length : Int)
 case neg =>
  rw [if_neg c3] at H
  have c3b0 : ((l1.length : Int) == (l0_0.length : Int)) = false := beq_eq_false_iff_ne.mpr c3
  have c3b1 : ((l1.length : Int) != (l0_0.length : Int)) = true := bne_iff_ne.mpr c3
  have c3b2 : (l1.length == l0_0.length) = false := by first | simpa using c3 | (simp at c3 ⊢; omega)
  obtain rfl := Option.some.inj H
  go_enter Try.func74, Try.ntmps74
  go_wp2_with (first | ((with_reducible refine gate_dst (N := 2) rfl ?_); refine box_event ?hg (N := 2) ?hd (cs := #[.slice A0_0 l0_0.length c0_0, .slice A0_1 l0_1.length c0_1]) (t := 31) ?hr ?_; (case hd => rfl); (case hg => rfl); (case hr => first | (go_simp; done) | (go_simp; rfl)); intro gb451 hg w18 hbox hb; have n0_ := Aside0.mk (below_step (bz HB) hb); have n1_ := Aside0.mk (hbox); have n2_ := Aside0.mk ((by rw [hg]; exact (below_size (bz HB)) : w.heap.size ≤ gb451)); have n3_ := Aside0.mk ((by rw [hg]; exact (below_size (bz HB)) : w.heap.size ≤ gb451)); clear HB; have HB := n0_; have BK451 := n1_; have GW451 := n2_; have GE451 := n3_; clear n0_ n1_ n2_ n3_; clear hb hbox hg; have hcz19_0 : w18.cell? ⟨gb451, 0, none⟩ = some (.slice A0_0 l0_0.length c0_0) := (blk_cell BK451.out 0).trans rfl; have hcz19_1 : w18.cell? ⟨gb451, 1, none⟩ = some (.slice A0_1 l0_1.length c0_1) := (blk_cell BK451.out 1).trans rfl; have hfz19_0 := blk_frozen BK451.out 0; have hfz19_1 := blk_frozen BK451.out 1))
  repeat (go_quiet (first | ((with_reducible refine gate_dst (N := 2) rfl ?_); refine box_event ?hg (N := 2) ?hd (cs := #[.slice A0_0 l0_0.length c0_0, .slice A0_1 l0_1.length c0_1]) (t := 31) ?hr ?_; (case hd => rfl); (case hg => rfl); (case hr => first | (go_simp; done) | (go_simp; rfl)); intro gb451 hg w18 hbox hb; have n0_ := Aside0.mk (below_step (bz HB) hb); have n1_ := Aside0.mk (hbox); have n2_ := Aside0.mk ((by rw [hg]; exact (below_size (bz HB)) : w.heap.size ≤ gb451)); have n3_ := Aside0.mk ((by rw [hg]; exact (below_size (bz HB)) : w.heap.size ≤ gb451)); clear HB; have HB := n0_; have BK451 := n1_; have GW451 := n2_; have GE451 := n3_; clear n0_ n1_ n2_ n3_; clear hb hbox hg; have hcz19_0 : w18.cell? ⟨gb451, 0, none⟩ = some (.slice A0_0 l0_0.length c0_0) := (blk_cell BK451.out 0).trans rfl; have hcz19_1 : w18.cell? ⟨gb451, 1, none⟩ = some (.slice A0_1 l0_1.length c0_1) := (blk_cell BK451.out 1).trans rfl; have hfz19_0 := blk_frozen BK451.out 0; have hfz19_1 := blk_frozen BK451.out 1)); try go_wp2_with (first | ((with_reducible refine gate_dst (N := 2) rfl ?_); refine box_event ?hg (N := 2) ?hd (cs := #[.slice A0_0 l0_0.length c0_0, .slice A0_1 l0_1.length c0_1]) (t := 31) ?hr ?_; (case hd => rfl); (case hg => rfl); (case hr => first | (go_simp; done) | (go_simp; rfl)); intro gb451 hg w18 hbox hb; have n0_ := Aside0.mk (below_step (bz HB) hb); have n1_ := Aside0.mk (hbox); have n2_ := Aside0.mk ((by rw [hg]; exact (below_size (bz HB)) : w.heap.size ≤ gb451)); have n3_ := Aside0.mk ((by rw [hg]; exact (below_size (bz HB)) : w.heap.size ≤ gb451)); clear HB; have HB := n0_; have BK451 := n1_; have GW451 := n2_; have GE451 := n3_; clear n0_ n1_ n2_ n3_; clear hb hbox hg; have hcz19_0 : w18.cell? ⟨gb451, 0, none⟩ = some (.slice A0_0 l0_0.length c0_0) := (blk_cell BK451.out 0).trans rfl; have hcz19_1 : w18.cell? ⟨gb451, 1, none⟩ = some (.slice A0_1 l0_1.length c0_1) := (blk_cell BK451.out 1).trans rfl; have hfz19_0 := blk_frozen BK451.out 0; have hfz19_1 := blk_frozen BK451.out 1)))
  go_ret
  exact ⟨rz, bz1 HB GE451⟩
 rw [if_pos c3] at H
 have c3b0 : ((l1.length : Int) == (l0_0.length : Int)) = true := beq_iff_eq.mpr c3
 have c3b1 : ((l1.length : Int) != (l0_0.length : Int)) = false := bne_eq_false_iff_eq.mpr c3
 have c3b2 : (l1.length == l0_0.length) = true := by first | simpa using c3 | (simp at c3 ⊢; omega)
 clear c3
 have H' := Aside0.mk H
 clear H
 go_enter Try.func74, Try.ntmps74
 go_wp2_with (first | ((with_reducible refine gate_dst (N := 2) rfl ?_); refine box_event ?hg (N := 2) ?hd (cs := #[.slice A0_0 l0_0.length c0_0, .slice A0_1 l0_1.length c0_1]) (t := 31) ?hr ?_; (case hd => rfl); (case hg => rfl); (case hr => first | (go_simp; done) | (go_simp; rfl)); intro gb451 hg w4 hbox hb; have n0_ := Aside0.mk (below_step (bz HB) hb); have n1_ := Aside0.mk (hbox); have n2_ := Aside0.mk ((by rw [hg]; exact (below_size (bz HB)) : w.heap.size ≤ gb451)); have n3_ := Aside0.mk ((by rw [hg]; exact (below_size (bz HB)) : w.heap.size ≤ gb451)); clear HB; have HB := n0_; have BK451 := n1_; have GW451 := n2_; have GE451 := n3_; clear n0_ n1_ n2_ n3_; clear hb hbox hg; have hcz5_0 : w4.cell? ⟨gb451, 0, none⟩ = some (.slice A0_0 l0_0.length c0_0) := (blk_cell BK451.out 0).trans rfl; have hcz5_1 : w4.cell? ⟨gb451, 1, none⟩ = some (.slice A0_1 l0_1.length c0_1) := (blk_cell BK451.out 1).trans rfl; have hfz5_0 := blk_frozen BK451.out 0; have hfz5_1 := blk_frozen BK451.out 1))
 repeat (go_quiet (first | ((with_reducible refine gate_dst (N := 2) rfl ?_); refine box_event ?hg (N := 2) ?hd (cs := #[.slice A0_0 l0_0.length c0_0, .slice A0_1 l0_1.length c0_1]) (t := 31) ?hr ?_; (case hd => rfl); (case hg => rfl); (case hr => first | (go_simp; done) | (go_simp; rfl)); intro gb451 hg w4 hbox hb; have n0_ := Aside0.mk (below_step (bz HB) hb); have n1_ := Aside0.mk (hbox); have n2_ := Aside0.mk ((by rw [hg]; exact (below_size (bz HB)) : w.heap.size ≤ gb451)); have n3_ := Aside0.mk ((by rw [hg]; exact (below_size (bz HB)) : w.heap.size ≤ gb451)); clear HB; have HB := n0_; have BK451 := n1_; have GW451 := n2_; have GE451 := n3_; clear n0_ n1_ n2_ n3_; clear hb hbox hg; have hcz5_0 : w4.cell? ⟨gb451, 0, none⟩ = some (.slice A0_0 l0_0.length c0_0) := (blk_cell BK451.out 0).trans rfl; have hcz5_1 : w4.cell? ⟨gb451, 1, none⟩ = some (.slice A0_1 l0_1.length c0_1) := (blk_cell BK451.out 1).trans rfl; have hfz5_0 := blk_frozen BK451.out 0; have hfz5_1 := blk_frozen BK451.out 1)); try go_wp2_with (first | ((with_reducible refine gate_dst (N := 2) rfl ?_); refine box_event ?hg (N := 2) ?hd (cs := #[.slice A0_0 l0_0.length c0_0, .slice A0_1 l0_1.length c0_1]) (t := 31) ?hr ?_; (case hd => rfl); (case hg => rfl); (case hr => first | (go_simp; done) | (go_simp; rfl)); intro gb451 hg w4 hbox hb; have n0_ := Aside0.mk (below_step (bz HB) hb); have n1_ := Aside0.mk (hbox); have n2_ := Aside0.mk ((by rw [hg]; exact (below_size (bz HB)) : w.heap.size ≤ gb451)); have n3_ := Aside0.mk ((by rw [hg]; exact (below_size (bz HB)) : w.heap.size ≤ gb451)); clear HB; have HB := n0_; have BK451 := n1_; have GW451 := n2_; have GE451 := n3_; clear n0_ n1_ n2_ n3_; clear hb hbox hg; have hcz5_0 : w4.cell? ⟨gb451, 0, none⟩ = some (.slice A0_0 l0_0.length c0_0) := (blk_cell BK451.out 0).trans rfl; have hcz5_1 : w4.cell? ⟨gb451, 1, none⟩ = some (.slice A0_1 l0_1.length c0_1) := (blk_cell BK451.out 1).trans rfl; have hfz5_0 := blk_frozen BK451.out 0; have hfz5_1 := blk_frozen BK451.out 1)))
 go_loopg [16] k (fun kq v16 w' => ∃ (x16_1 : Int), v16 = .int .i64 x16_1 ∧ Aside0 (impl_inRange.l0 kq l1 l0_0 (l0_0.length : Int) x16_1 = some r) ∧ Aside0 (kq ≤ k) ∧ Aside0 (w'.heap[gb451]? = some (.cells #[(.slice A0_0 l0_0.length c0_0), (.slice A0_1 l0_1.length c0_1)] 31 (0, 0))) ∧ Aside0 (Below w.heap.size w w'))
 case atStart => exact ⟨(0), rq, H', ⟨Nat.le_refl _⟩, ⟨kz BK451⟩, ⟨bz1 HB GE451⟩⟩
 case round =>
  clear H'
  try clear c1
  try clear p2
  try clear c3
  try clear c3b0
  try clear c3b1
  try clear c3b2
  try clear hcz5_0
  try clear hcz5_1
  try clear hfz5_0
  try clear hfz5_1
  obtain ⟨x16_1, rfl, HA, HK1, BK451, HB⟩ := hrel
  cases gk with
  | zero => exact absurd HA.out (by simp [impl_inRange.l0])
  | succ k1 =>
   have H := HA.out
   clear HA
   simp only [impl_inRange.l0] at H
   by_cases c6 : x16_1 < (l0_0.length : Int)
   case neg =>
    rw [if_neg c6] at H
    have c6b0 : decide (x16_1 < (l0_0.length : Int)) = false := decide_eq_false c6
    clear c6
    obtain rfl := Option.some.inj H
    go_wp2
    repeat (go_quiet (fail); try go_wp2)
    go_ret
    exact ⟨rz, bz1 HB GE451⟩
   rw [if_pos c6] at H
   have c6b0 : decide (x16_1 < (l0_0.length : Int)) = true := decide_eq_true c6
   clear c6
   by_cases c7 : 0 ≤ x16_1
   case neg =>
    rw [if_neg c7] at H
    exact absurd H (by simp)
   rw [if_pos c7] at H
   have c7b0 : decide (0 ≤ x16_1) = true := decide_eq_true c7
   clear c7
   by_cases c8 : x16_1 < (l0_0.length : Int)
   case neg =>
    rw [if_neg c8] at H
    exact absurd H (by simp)
   rw [if_pos c8] at H
   have c8b0 : decide (x16_1 < (l0_0.length : Int)) = true := decide_eq_true c8
   clear c8
   by_cases c9 : x16_1 < (l1.length : Int)
   case neg =>
    rw [if_neg c9] at H
    exact absurd H (by simp)
   rw [if_pos c9] at H
   have c9b0 : decide (x16_1 < (l1.length : Int)) = true := decide_eq_true c9
   clear c9
   replace H := Option.bind_eq_some_iff.mp H
   obtain ⟨t455, A100, H⟩ := H
   have A10 := Aside0.mk A100
   clear A100
   by_cases c11 : t455 = true
   case neg =>
    replace c11 := Bool.eq_false_iff.mpr c11
    subst c11
    rw [if_neg nt_] at H
    obtain rfl := Option.some.inj H
    have p452 : 0 ≤ (x16_1 : Int) := dz
    have q452 : x16_1 < (l0_0.length : Int) := dz
    obtain ⟨ad452, e452, hx452_0, hx452_1, hx452_2⟩ := at_IVar HR0_0.out x16_1 p452 q452
    cases e452
    replace hx452_0 := xz HB hx452_0
    replace hx452_1 := xz HB hx452_1
    replace hx452_2 := xz HB hx452_2
    replace p452 := eq_true p452
    replace q452 := eq_true q452
    go_wp2_with (first | ((with_reducible refine gate_dst (N := 6) rfl ?_); refine box_event ?hg (N := 6) ?hd (cs := #[.int .i64 0, .int .i64 0, .int .i64 0]) (t := 62) ?hr ?_; (case hd => rfl); (case hg => rfl); (case hr => first | (go_simp; done) | (go_simp; rfl)); intro gb453 hg w15 hbox hb; have n0_ := Aside0.mk (blk_below (g := gb451) (o := .cells #[.slice (some ad452) l0_0.length c0_0, .slice A0_1 l0_1.length c0_1] 31 (0, 0)) (kz BK451) hb); have n1_ := Aside0.mk (below_step (bz1 HB GE451) hb); have n2_ := Aside0.mk (hbox); have n3_ := Aside0.mk ((by rw [hg]; exact (below_size (bz1 HB GE451)) : w.heap.size ≤ gb453)); have n4_ := Aside0.mk ((by rw [hg]; exact (below_size (bz1 HB GE451)) : w.heap.size ≤ gb453)); have n5_ := Aside0.mk ((by rw [hg]; exact Nat.ne_of_lt (blk_lt (g := gb451) (o := .cells #[.slice (some ad452) l0_0.length c0_0, .slice A0_1 l0_1.length c0_1] 31 (0, 0)) (kz BK451)) : gb451 ≠ gb453)); have n6_ := Aside0.mk ((by rw [hg]; exact Nat.ne_of_gt (blk_lt (g := gb451) (o := .cells #[.slice (some ad452) l0_0.length c0_0, .slice A0_1 l0_1.length c0_1] 31 (0, 0)) (kz BK451)) : gb453 ≠ gb451)); clear BK451; clear HB; have BK451 := n0_; have HB := n1_; have BK453 := n2_; have GW453 := n3_; have GE453 := n4_; have NB451_453 := n5_; have NB453_451 := n6_; clear n0_ n1_ n2_ n3_ n4_ n5_ n6_; clear hb hbox hg; have hnb16 := NB453_451.out; have hnc16 := NB451_453.out; have hcz17_0 : w15.cell? ⟨gb453, 0, none⟩ = some (.int .i64 0) := (blk_cell BK453.out 0).trans rfl; have hcz17_1 : w15.cell? ⟨gb453, 1, none⟩ = some (.int .i64 0) := (blk_cell BK453.out 1).trans rfl; have hcz17_2 : w15.cell? ⟨gb453, 2, none⟩ = some (.int .i64 0) := (blk_cell BK453.out 2).trans rfl; have hfz17_0 := blk_frozen BK453.out 0; have hfz17_1 := blk_frozen BK453.out 1; have hfz17_2 := blk_frozen BK453.out 2; have p454 : 0 ≤ (x16_1 : Int) := dz; have q454 : x16_1 < (l1.length : Int) := dz; obtain ⟨ad454, e454, hx454_0⟩ := Kd.at_int HR1.out x16_1 p454 q454; cases e454; have hn454_0 : ad454.block ≠ gb453 := Nat.ne_of_lt (Nat.lt_of_lt_of_le (by have := World.block_lt_of_cell? _ _ hx454_0; first | rwa [add_block] at this | exact this) GW453.out); have hn454_1 : ad454.block ≠ gb453 := Nat.ne_of_lt (Nat.lt_of_lt_of_le (by have := World.block_lt_of_cell? _ _ hx454_0; first | rwa [add_block] at this | exact this) GW453.out); have hn454_2 : ad454.block ≠ gb453 := Nat.ne_of_lt (Nat.lt_of_lt_of_le (by have := World.block_lt_of_cell? _ _ hx454_0; first | rwa [add_block] at this | exact this) GW453.out); replace hx454_0 := xz HB hx454_0; replace hx454_0 := (cell_far (p := ⟨gb453, 0, none⟩) (by first | (rw [add_block]; exact hn454_0) | (show (Addr.add _ _).block ≠ _; rw [add_block]; exact hn454_0) | exact hn454_0) (.int .i64 ((rd_IVar l0_0 x16_1).f0))).trans hx454_0; replace hx454_0 := (cell_far (p := ⟨gb453, 1, none⟩) (by first | (rw [add_block]; exact hn454_1) | (show (Addr.add _ _).block ≠ _; rw [add_block]; exact hn454_1) | exact hn454_1) (.int .i64 ((rd_IVar l0_0 x16_1).f1))).trans hx454_0; replace hx454_0 := (cell_far (p := ⟨gb453, 2, none⟩) (by first | (rw [add_block]; exact hn454_2) | (show (Addr.add _ _).block ≠ _; rw [add_block]; exact hn454_2) | exact hn454_2) (.int .i64 ((rd_IVar l0_0 x16_1).f2))).trans hx454_0; (try have hy454_0 := fun (n_ : Nat) => (show (((((w15.drewN n_).setCell ⟨gb453, 0, none⟩ (.int .i64 ((rd_IVar l0_0 x16_1).f0))).setCell ⟨gb453, 1, none⟩ (.int .i64 ((rd_IVar l0_0 x16_1).f1))).setCell ⟨gb453, 2, none⟩ (.int .i64 ((rd_IVar l0_0 x16_1).f2)))).cell? _ = some _ from hx454_0)); clear hn454_0; clear hn454_1; clear hn454_2; replace p454 := eq_true p454; replace q454 := eq_true q454) | (go_at_call 69; (with_reducible refine (impl_in.calls (rd l1 x16_1) ((rd_IVar l0_0 x16_1).f0) ((rd_IVar l0_0 x16_1).f1) false _ A10.out).mono ?_); rintro e w' ⟨rfl, ⟨nd, rfl⟩⟩; (try first | exact ⟨rfl, _, World.drewN_drewN _ _ _⟩ | exact ⟨rfl, _, Eq.trans (World.drewN_drewN _ _ _) (congrArg (World.drewN _) (Nat.add_assoc _ _ _))⟩)))
    repeat (go_quiet (first | ((with_reducible refine gate_dst (N := 6) rfl ?_); refine box_event ?hg (N := 6) ?hd (cs := #[.int .i64 0, .int .i64 0, .int .i64 0]) (t := 62) ?hr ?_; (case hd => rfl); (case hg => rfl); (case hr => first | (go_simp; done) | (go_simp; rfl)); intro gb453 hg w15 hbox hb; have n0_ := Aside0.mk (blk_below (g := gb451) (o := .cells #[.slice (some ad452) l0_0.length c0_0, .slice A0_1 l0_1.length c0_1] 31 (0, 0)) (kz BK451) hb); have n1_ := Aside0.mk (below_step (bz1 HB GE451) hb); have n2_ := Aside0.mk (hbox); have n3_ := Aside0.mk ((by rw [hg]; exact (below_size (bz1 HB GE451)) : w.heap.size ≤ gb453)); have n4_ := Aside0.mk ((by rw [hg]; exact (below_size (bz1 HB GE451)) : w.heap.size ≤ gb453)); have n5_ := Aside0.mk ((by rw [hg]; exact Nat.ne_of_lt (blk_lt (g := gb451) (o := .cells #[.slice (some ad452) l0_0.length c0_0, .slice A0_1 l0_1.length c0_1] 31 (0, 0)) (kz BK451)) : gb451 ≠ gb453)); have n6_ := Aside0.mk ((by rw [hg]; exact Nat.ne_of_gt (blk_lt (g := gb451) (o := .cells #[.slice (some ad452) l0_0.length c0_0, .slice A0_1 l0_1.length c0_1] 31 (0, 0)) (kz BK451)) : gb453 ≠ gb451)); clear BK451; clear HB; have BK451 := n0_; have HB := n1_; have BK453 := n2_; have GW453 := n3_; have GE453 := n4_; have NB451_453 := n5_; have NB453_451 := n6_; clear n0_ n1_ n2_ n3_ n4_ n5_ n6_; clear hb hbox hg; have hnb16 := NB453_451.out; have hnc16 := NB451_453.out; have hcz17_0 : w15.cell? ⟨gb453, 0, none⟩ = some (.int .i64 0) := (blk_cell BK453.out 0).trans rfl; have hcz17_1 : w15.cell? ⟨gb453, 1, none⟩ = some (.int .i64 0) := (blk_cell BK453.out 1).trans rfl; have hcz17_2 : w15.cell? ⟨gb453, 2, none⟩ = some (.int .i64 0) := (blk_cell BK453.out 2).trans rfl; have hfz17_0 := blk_frozen BK453.out 0; have hfz17_1 := blk_frozen BK453.out 1; have hfz17_2 := blk_frozen BK453.out 2; have p454 : 0 ≤ (x16_1 : Int) := dz; have q454 : x16_1 < (l1.length : Int) := dz; obtain ⟨ad454, e454, hx454_0⟩ := Kd.at_int HR1.out x16_1 p454 q454; cases e454; have hn454_0 : ad454.block ≠ gb453 := Nat.ne_of_lt (Nat.lt_of_lt_of_le (by have := World.block_lt_of_cell? _ _ hx454_0; first | rwa [add_block] at this | exact this) GW453.out); have hn454_1 : ad454.block ≠ gb453 := Nat.ne_of_lt (Nat.lt_of_lt_of_le (by have := World.block_lt_of_cell? _ _ hx454_0; first | rwa [add_block] at this | exact this) GW453.out); have hn454_2 : ad454.block ≠ gb453 := Nat.ne_of_lt (Nat.lt_of_lt_of_le (by have := World.block_lt_of_cell? _ _ hx454_0; first | rwa [add_block] at this | exact this) GW453.out); replace hx454_0 := xz HB hx454_0; replace hx454_0 := (cell_far (p := ⟨gb453, 0, none⟩) (by first | (rw [add_block]; exact hn454_0) | (show (Addr.add _ _).block ≠ _; rw [add_block]; exact hn454_0) | exact hn454_0) (.int .i64 ((rd_IVar l0_0 x16_1).f0))).trans hx454_0; replace hx454_0 := (cell_far (p := ⟨gb453, 1, none⟩) (by first | (rw [add_block]; exact hn454_1) | (show (Addr.add _ _).block ≠ _; rw [add_block]; exact hn454_1) | exact hn454_1) (.int .i64 ((rd_IVar l0_0 x16_1).f1))).trans hx454_0; replace hx454_0 := (cell_far (p := ⟨gb453, 2, none⟩) (by first | (rw [add_block]; exact hn454_2) | (show (Addr.add _ _).block ≠ _; rw [add_block]; exact hn454_2) | exact hn454_2) (.int .i64 ((rd_IVar l0_0 x16_1).f2))).trans hx454_0; (try have hy454_0 := fun (n_ : Nat) => (show (((((w15.drewN n_).setCell ⟨gb453, 0, none⟩ (.int .i64 ((rd_IVar l0_0 x16_1).f0))).setCell ⟨gb453, 1, none⟩ (.int .i64 ((rd_IVar l0_0 x16_1).f1))).setCell ⟨gb453, 2, none⟩ (.int .i64 ((rd_IVar l0_0 x16_1).f2)))).cell? _ = some _ from hx454_0)); clear hn454_0; clear hn454_1; clear hn454_2; replace p454 := eq_true p454; replace q454 := eq_true q454) | (go_at_call 69; (with_reducible refine (impl_in.calls (rd l1 x16_1) ((rd_IVar l0_0 x16_1).f0) ((rd_IVar l0_0 x16_1).f1) false _ A10.out).mono ?_); rintro e w' ⟨rfl, ⟨nd, rfl⟩⟩; (try first | exact ⟨rfl, _, World.drewN_drewN _ _ _⟩ | exact ⟨rfl, _, Eq.trans (World.drewN_drewN _ _ _) (congrArg (World.drewN _) (Nat.add_assoc _ _ _))⟩))); try go_wp2_with (first | ((with_reducible refine gate_dst (N := 6) rfl ?_); refine box_event ?hg (N := 6) ?hd (cs := #[.int .i64 0, .int .i64 0, .int .i64 0]) (t := 62) ?hr ?_; (case hd => rfl); (case hg => rfl); (case hr => first | (go_simp; done) | (go_simp; rfl)); intro gb453 hg w15 hbox hb; have n0_ := Aside0.mk (blk_below (g := gb451) (o := .cells #[.slice (some ad452) l0_0.length c0_0, .slice A0_1 l0_1.length c0_1] 31 (0, 0)) (kz BK451) hb); have n1_ := Aside0.mk (below_step (bz1 HB GE451) hb); have n2_ := Aside0.mk (hbox); have n3_ := Aside0.mk ((by rw [hg]; exact (below_size (bz1 HB GE451)) : w.heap.size ≤ gb453)); have n4_ := Aside0.mk ((by rw [hg]; exact (below_size (bz1 HB GE451)) : w.heap.size ≤ gb453)); have n5_ := Aside0.mk ((by rw [hg]; exact Nat.ne_of_lt (blk_lt (g := gb451) (o := .cells #[.slice (some ad452) l0_0.length c0_0, .slice A0_1 l0_1.length c0_1] 31 (0, 0)) (kz BK451)) : gb451 ≠ gb453)); have n6_ := Aside0.mk ((by rw [hg]; exact Nat.ne_of_gt (blk_lt (g := gb451) (o := .cells #[.slice (some ad452) l0_0.length c0_0, .slice A0_1 l0_1.length c0_1] 31 (0, 0)) (kz BK451)) : gb453 ≠ gb451)); clear BK451; clear HB; have BK451 := n0_; have HB := n1_; have BK453 := n2_; have GW453 := n3_; have GE453 := n4_; have NB451_453 := n5_; have NB453_451 := n6_; clear n0_ n1_ n2_ n3_ n4_ n5_ n6_; clear hb hbox hg; have hnb16 := NB453_451.out; have hnc16 := NB451_453.out; have hcz17_0 : w15.cell? ⟨gb453, 0, none⟩ = some (.int .i64 0) := (blk_cell BK453.out 0).trans rfl; have hcz17_1 : w15.cell? ⟨gb453, 1, none⟩ = some (.int .i64 0) := (blk_cell BK453.out 1).trans rfl; have hcz17_2 : w15.cell? ⟨gb453, 2, none⟩ = some (.int .i64 0) := (blk_cell BK453.out 2).trans rfl; have hfz17_0 := blk_frozen BK453.out 0; have hfz17_1 := blk_frozen BK453.out 1; have hfz17_2 := blk_frozen BK453.out 2; have p454 : 0 ≤ (x16_1 : Int) := dz; have q454 : x16_1 < (l1.length : Int) := dz; obtain ⟨ad454, e454, hx454_0⟩ := Kd.at_int HR1.out x16_1 p454 q454; cases e454; have hn454_0 : ad454.block ≠ gb453 := Nat.ne_of_lt (Nat.lt_of_lt_of_le (by have := World.block_lt_of_cell? _ _ hx454_0; first | rwa [add_block] at this | exact this) GW453.out); have hn454_1 : ad454.block ≠ gb453 := Nat.ne_of_lt (Nat.lt_of_lt_of_le (by have := World.block_lt_of_cell? _ _ hx454_0; first | rwa [add_block] at this | exact this) GW453.out); have hn454_2 : ad454.block ≠ gb453 := Nat.ne_of_lt (Nat.lt_of_lt_of_le (by have := World.block_lt_of_cell? _ _ hx454_0; first | rwa [add_block] at this | exact this) GW453.out); replace hx454_0 := xz HB hx454_0; replace hx454_0 := (cell_far (p := ⟨gb453, 0, none⟩) (by first | (rw [add_block]; exact hn454_0) | (show (Addr.add _ _).block ≠ _; rw [add_block]; exact hn454_0) | exact hn454_0) (.int .i64 ((rd_IVar l0_0 x16_1).f0))).trans hx454_0; replace hx454_0 := (cell_far (p := ⟨gb453, 1, none⟩) (by first | (rw [add_block]; exact hn454_1) | (show (Addr.add _ _).block ≠ _; rw [add_block]; exact hn454_1) | exact hn454_1) (.int .i64 ((rd_IVar l0_0 x16_1).f1))).trans hx454_0; replace hx454_0 := (cell_far (p := ⟨gb453, 2, none⟩) (by first | (rw [add_block]; exact hn454_2) | (show (Addr.add _ _).block ≠ _; rw [add_block]; exact hn454_2) | exact hn454_2) (.int .i64 ((rd_IVar l0_0 x16_1).f2))).trans hx454_0; (try have hy454_0 := fun (n_ : Nat) => (show (((((w15.drewN n_).setCell ⟨gb453, 0, none⟩ (.int .i64 ((rd_IVar l0_0 x16_1).f0))).setCell ⟨gb453, 1, none⟩ (.int .i64 ((rd_IVar l0_0 x16_1).f1))).setCell ⟨gb453, 2, none⟩ (.int .i64 ((rd_IVar l0_0 x16_1).f2)))).cell? _ = some _ from hx454_0)); clear hn454_0; clear hn454_1; clear hn454_2; replace p454 := eq_true p454; replace q454 := eq_true q454) | (go_at_call 69; (with_reducible refine (impl_in.calls (rd l1 x16_1) ((rd_IVar l0_0 x16_1).f0) ((rd_IVar l0_0 x16_1).f1) false _ A10.out).mono ?_); rintro e w' ⟨rfl, ⟨nd, rfl⟩⟩; (try first | exact ⟨rfl, _, World.drewN_drewN _ _ _⟩ | exact ⟨rfl, _, Eq.trans (World.drewN_drewN _ _ _) (congrArg (World.drewN _) (Nat.add_assoc _ _ _))⟩))))
    go_ret
    exact ⟨rz, bz2 HB GE451 GE453⟩
   subst c11
   rw [if_pos rfl] at H
   have H' := Aside0.mk H
   clear H
   have p452 : 0 ≤ (x16_1 : Int) := dz
   have q452 : x16_1 < (l0_0.length : Int) := dz
   obtain ⟨ad452, e452, hx452_0, hx452_1, hx452_2⟩ := at_IVar HR0_0.out x16_1 p452 q452
   cases e452
   replace hx452_0 := xz HB hx452_0
   replace hx452_1 := xz HB hx452_1
   replace hx452_2 := xz HB hx452_2
   replace p452 := eq_true p452
   replace q452 := eq_true q452
   go_wp2_with (first | ((with_reducible refine gate_dst (N := 6) rfl ?_); refine box_event ?hg (N := 6) ?hd (cs := #[.int .i64 0, .int .i64 0, .int .i64 0]) (t := 62) ?hr ?_; (case hd => rfl); (case hg => rfl); (case hr => first | (go_simp; done) | (go_simp; rfl)); intro gb453 hg w12 hbox hb; have n0_ := Aside0.mk (blk_below (g := gb451) (o := .cells #[.slice (some ad452) l0_0.length c0_0, .slice A0_1 l0_1.length c0_1] 31 (0, 0)) (kz BK451) hb); have n1_ := Aside0.mk (below_step (bz1 HB GE451) hb); have n2_ := Aside0.mk (hbox); have n3_ := Aside0.mk ((by rw [hg]; exact (below_size (bz1 HB GE451)) : w.heap.size ≤ gb453)); have n4_ := Aside0.mk ((by rw [hg]; exact (below_size (bz1 HB GE451)) : w.heap.size ≤ gb453)); have n5_ := Aside0.mk ((by rw [hg]; exact Nat.ne_of_lt (blk_lt (g := gb451) (o := .cells #[.slice (some ad452) l0_0.length c0_0, .slice A0_1 l0_1.length c0_1] 31 (0, 0)) (kz BK451)) : gb451 ≠ gb453)); have n6_ := Aside0.mk ((by rw [hg]; exact Nat.ne_of_gt (blk_lt (g := gb451) (o := .cells #[.slice (some ad452) l0_0.length c0_0, .slice A0_1 l0_1.length c0_1] 31 (0, 0)) (kz BK451)) : gb453 ≠ gb451)); clear BK451; clear HB; have BK451 := n0_; have HB := n1_; have BK453 := n2_; have GW453 := n3_; have GE453 := n4_; have NB451_453 := n5_; have NB453_451 := n6_; clear n0_ n1_ n2_ n3_ n4_ n5_ n6_; clear hb hbox hg; have hnb13 := NB453_451.out; have hnc13 := NB451_453.out; have hcz14_0 : w12.cell? ⟨gb453, 0, none⟩ = some (.int .i64 0) := (blk_cell BK453.out 0).trans rfl; have hcz14_1 : w12.cell? ⟨gb453, 1, none⟩ = some (.int .i64 0) := (blk_cell BK453.out 1).trans rfl; have hcz14_2 : w12.cell? ⟨gb453, 2, none⟩ = some (.int .i64 0) := (blk_cell BK453.out 2).trans rfl; have hfz14_0 := blk_frozen BK453.out 0; have hfz14_1 := blk_frozen BK453.out 1; have hfz14_2 := blk_frozen BK453.out 2; have p454 : 0 ≤ (x16_1 : Int) := dz; have q454 : x16_1 < (l1.length : Int) := dz; obtain ⟨ad454, e454, hx454_0⟩ := Kd.at_int HR1.out x16_1 p454 q454; cases e454; have hn454_0 : ad454.block ≠ gb453 := Nat.ne_of_lt (Nat.lt_of_lt_of_le (by have := World.block_lt_of_cell? _ _ hx454_0; first | rwa [add_block] at this | exact this) GW453.out); have hn454_1 : ad454.block ≠ gb453 := Nat.ne_of_lt (Nat.lt_of_lt_of_le (by have := World.block_lt_of_cell? _ _ hx454_0; first | rwa [add_block] at this | exact this) GW453.out); have hn454_2 : ad454.block ≠ gb453 := Nat.ne_of_lt (Nat.lt_of_lt_of_le (by have := World.block_lt_of_cell? _ _ hx454_0; first | rwa [add_block] at this | exact this) GW453.out); replace hx454_0 := xz HB hx454_0; replace hx454_0 := (cell_far (p := ⟨gb453, 0, none⟩) (by first | (rw [add_block]; exact hn454_0) | (show (Addr.add _ _).block ≠ _; rw [add_block]; exact hn454_0) | exact hn454_0) (.int .i64 ((rd_IVar l0_0 x16_1).f0))).trans hx454_0; replace hx454_0 := (cell_far (p := ⟨gb453, 1, none⟩) (by first | (rw [add_block]; exact hn454_1) | (show (Addr.add _ _).block ≠ _; rw [add_block]; exact hn454_1) | exact hn454_1) (.int .i64 ((rd_IVar l0_0 x16_1).f1))).trans hx454_0; replace hx454_0 := (cell_far (p := ⟨gb453, 2, none⟩) (by first | (rw [add_block]; exact hn454_2) | (show (Addr.add _ _).block ≠ _; rw [add_block]; exact hn454_2) | exact hn454_2) (.int .i64 ((rd_IVar l0_0 x16_1).f2))).trans hx454_0; (try have hy454_0 := fun (n_ : Nat) => (show (((((w12.drewN n_).setCell ⟨gb453, 0, none⟩ (.int .i64 ((rd_IVar l0_0 x16_1).f0))).setCell ⟨gb453, 1, none⟩ (.int .i64 ((rd_IVar l0_0 x16_1).f1))).setCell ⟨gb453, 2, none⟩ (.int .i64 ((rd_IVar l0_0 x16_1).f2)))).cell? _ = some _ from hx454_0)); clear hn454_0; clear hn454_1; clear hn454_2; replace p454 := eq_true p454; replace q454 := eq_true q454) | (go_at_call 69; (with_reducible refine (impl_in.calls (rd l1 x16_1) ((rd_IVar l0_0 x16_1).f0) ((rd_IVar l0_0 x16_1).f1) true _ A10.out).mono ?_); rintro e w' ⟨rfl, ⟨nd, rfl⟩⟩; (try first | exact ⟨rfl, _, World.drewN_drewN _ _ _⟩ | exact ⟨rfl, _, Eq.trans (World.drewN_drewN _ _ _) (congrArg (World.drewN _) (Nat.add_assoc _ _ _))⟩)))
   repeat (go_quiet (first | ((with_reducible refine gate_dst (N := 6) rfl ?_); refine box_event ?hg (N := 6) ?hd (cs := #[.int .i64 0, .int .i64 0, .int .i64 0]) (t := 62) ?hr ?_; (case hd => rfl); (case hg => rfl); (case hr => first | (go_simp; done) | (go_simp; rfl)); intro gb453 hg w12 hbox hb; have n0_ := Aside0.mk (blk_below (g := gb451) (o := .cells #[.slice (some ad452) l0_0.length c0_0, .slice A0_1 l0_1.length c0_1] 31 (0, 0)) (kz BK451) hb); have n1_ := Aside0.mk (below_step (bz1 HB GE451) hb); have n2_ := Aside0.mk (hbox); have n3_ := Aside0.mk ((by rw [hg]; exact (below_size (bz1 HB GE451)) : w.heap.size ≤ gb453)); have n4_ := Aside0.mk ((by rw [hg]; exact (below_size (bz1 HB GE451)) : w.heap.size ≤ gb453)); have n5_ := Aside0.mk ((by rw [hg]; exact Nat.ne_of_lt (blk_lt (g := gb451) (o := .cells #[.slice (some ad452) l0_0.length c0_0, .slice A0_1 l0_1.length c0_1] 31 (0, 0)) (kz BK451)) : gb451 ≠ gb453)); have n6_ := Aside0.mk ((by rw [hg]; exact Nat.ne_of_gt (blk_lt (g := gb451) (o := .cells #[.slice (some ad452) l0_0.length c0_0, .slice A0_1 l0_1.length c0_1] 31 (0, 0)) (kz BK451)) : gb453 ≠ gb451)); clear BK451; clear HB; have BK451 := n0_; have HB := n1_; have BK453 := n2_; have GW453 := n3_; have GE453 := n4_; have NB451_453 := n5_; have NB453_451 := n6_; clear n0_ n1_ n2_ n3_ n4_ n5_ n6_; clear hb hbox hg; have hnb13 := NB453_451.out; have hnc13 := NB451_453.out; have hcz14_0 : w12.cell? ⟨gb453, 0, none⟩ = some (.int .i64 0) := (blk_cell BK453.out 0).trans rfl; have hcz14_1 : w12.cell? ⟨gb453, 1, none⟩ = some (.int .i64 0) := (blk_cell BK453.out 1).trans rfl; have hcz14_2 : w12.cell? ⟨gb453, 2, none⟩ = some (.int .i64 0) := (blk_cell BK453.out 2).trans rfl; have hfz14_0 := blk_frozen BK453.out 0; have hfz14_1 := blk_frozen BK453.out 1; have hfz14_2 := blk_frozen BK453.out 2; have p454 : 0 ≤ (x16_1 : Int) := dz; have q454 : x16_1 < (l1.length : Int) := dz; obtain ⟨ad454, e454, hx454_0⟩ := Kd.at_int HR1.out x16_1 p454 q454; cases e454; have hn454_0 : ad454.block ≠ gb453 := Nat.ne_of_lt (Nat.lt_of_lt_of_le (by have := World.block_lt_of_cell? _ _ hx454_0; first | rwa [add_block] at this | exact this) GW453.out); have hn454_1 : ad454.block ≠ gb453 := Nat.ne_of_lt (Nat.lt_of_lt_of_le (by have := World.block_lt_of_cell? _ _ hx454_0; first | rwa [add_block] at this | exact this) GW453.out); have hn454_2 : ad454.block ≠ gb453 := Nat.ne_of_lt (Nat.lt_of_lt_of_le (by have := World.block_lt_of_cell? _ _ hx454_0; first | rwa [add_block] at this | exact this) GW453.out); replace hx454_0 := xz HB hx454_0; replace hx454_0 := (cell_far (p := ⟨gb453, 0, none⟩) (by first | (rw [add_block]; exact hn454_0) | (show (Addr.add _ _).block ≠ _; rw [add_block]; exact hn454_0) | exact hn454_0) (.int .i64 ((rd_IVar l0_0 x16_1).f0))).trans hx454_0; replace hx454_0 := (cell_far (p := ⟨gb453, 1, none⟩) (by first | (rw [add_block]; exact hn454_1) | (show (Addr.add _ _).block ≠ _; rw [add_block]; exact hn454_1) | exact hn454_1) (.int .i64 ((rd_IVar l0_0 x16_1).f1))).trans hx454_0; replace hx454_0 := (cell_far (p := ⟨gb453, 2, none⟩) (by first | (rw [add_block]; exact hn454_2) | (show (Addr.add _ _).block ≠ _; rw [add_block]; exact hn454_2) | exact hn454_2) (.int .i64 ((rd_IVar l0_0 x16_1).f2))).trans hx454_0; (try have hy454_0 := fun (n_ : Nat) => (show (((((w12.drewN n_).setCell ⟨gb453, 0, none⟩ (.int .i64 ((rd_IVar l0_0 x16_1).f0))).setCell ⟨gb453, 1, none⟩ (.int .i64 ((rd_IVar l0_0 x16_1).f1))).setCell ⟨gb453, 2, none⟩ (.int .i64 ((rd_IVar l0_0 x16_1).f2)))).cell? _ = some _ from hx454_0)); clear hn454_0; clear hn454_1; clear hn454_2; replace p454 := eq_true p454; replace q454 := eq_true q454) | (go_at_call 69; (with_reducible refine (impl_in.calls (rd l1 x16_1) ((rd_IVar l0_0 x16_1).f0) ((rd_IVar l0_0 x16_1).f1) true _ A10.out).mono ?_); rintro e w' ⟨rfl, ⟨nd, rfl⟩⟩; (try first | exact ⟨rfl, _, World.drewN_drewN _ _ _⟩ | exact ⟨rfl, _, Eq.trans (World.drewN_drewN _ _ _) (congrArg (World.drewN _) (Nat.add_assoc _ _ _))⟩))); try go_wp2_with (first | ((with_reducible refine gate_dst (N := 6) rfl ?_); refine box_event ?hg (N := 6) ?hd (cs := #[.int .i64 0, .int .i64 0, .int .i64 0]) (t := 62) ?hr ?_; (case hd => rfl); (case hg => rfl); (case hr => first | (go_simp; done) | (go_simp; rfl)); intro gb453 hg w12 hbox hb; have n0_ := Aside0.mk (blk_below (g := gb451) (o := .cells #[.slice (some ad452) l0_0.length c0_0, .slice A0_1 l0_1.length c0_1] 31 (0, 0)) (kz BK451) hb); have n1_ := Aside0.mk (below_step (bz1 HB GE451) hb); have n2_ := Aside0.mk (hbox); have n3_ := Aside0.mk ((by rw [hg]; exact (below_size (bz1 HB GE451)) : w.heap.size ≤ gb453)); have n4_ := Aside0.mk ((by rw [hg]; exact (below_size (bz1 HB GE451)) : w.heap.size ≤ gb453)); have n5_ := Aside0.mk ((by rw [hg]; exact Nat.ne_of_lt (blk_lt (g := gb451) (o := .cells #[.slice (some ad452) l0_0.length c0_0, .slice A0_1 l0_1.length c0_1] 31 (0, 0)) (kz BK451)) : gb451 ≠ gb453)); have n6_ := Aside0.mk ((by rw [hg]; exact Nat.ne_of_gt (blk_lt (g := gb451) (o := .cells #[.slice (some ad452) l0_0.length c0_0, .slice A0_1 l0_1.length c0_1] 31 (0, 0)) (kz BK451)) : gb453 ≠ gb451)); clear BK451; clear HB; have BK451 := n0_; have HB := n1_; have BK453 := n2_; have GW453 := n3_; have GE453 := n4_; have NB451_453 := n5_; have NB453_451 := n6_; clear n0_ n1_ n2_ n3_ n4_ n5_ n6_; clear hb hbox hg; have hnb13 := NB453_451.out; have hnc13 := NB451_453.out; have hcz14_0 : w12.cell? ⟨gb453, 0, none⟩ = some (.int .i64 0) := (blk_cell BK453.out 0).trans rfl; have hcz14_1 : w12.cell? ⟨gb453, 1, none⟩ = some (.int .i64 0) := (blk_cell BK453.out 1).trans rfl; have hcz14_2 : w12.cell? ⟨gb453, 2, none⟩ = some (.int .i64 0) := (blk_cell BK453.out 2).trans rfl; have hfz14_0 := blk_frozen BK453.out 0; have hfz14_1 := blk_frozen BK453.out 1; have hfz14_2 := blk_frozen BK453.out 2; have p454 : 0 ≤ (x16_1 : Int) := dz; have q454 : x16_1 < (l1.length : Int) := dz; obtain ⟨ad454, e454, hx454_0⟩ := Kd.at_int HR1.out x16_1 p454 q454; cases e454; have hn454_0 : ad454.block ≠ gb453 := Nat.ne_of_lt (Nat.lt_of_lt_of_le (by have := World.block_lt_of_cell? _ _ hx454_0; first | rwa [add_block] at this | exact this) GW453.out); have hn454_1 : ad454.block ≠ gb453 := Nat.ne_of_lt (Nat.lt_of_lt_of_le (by have := World.block_lt_of_cell? _ _ hx454_0; first | rwa [add_block] at this | exact this) GW453.out); have hn454_2 : ad454.block ≠ gb453 := Nat.ne_of_lt (Nat.lt_of_lt_of_le (by have := World.block_lt_of_cell? _ _ hx454_0; first | rwa [add_block] at this | exact this) GW453.out); replace hx454_0 := xz HB hx454_0; replace hx454_0 := (cell_far (p := ⟨gb453, 0, none⟩) (by first | (rw [add_block]; exact hn454_0) | (show (Addr.add _ _).block ≠ _; rw [add_block]; exact hn454_0) | exact hn454_0) (.int .i64 ((rd_IVar l0_0 x16_1).f0))).trans hx454_0; replace hx454_0 := (cell_far (p := ⟨gb453, 1, none⟩) (by first | (rw [add_block]; exact hn454_1) | (show (Addr.add _ _).block ≠ _; rw [add_block]; exact hn454_1) | exact hn454_1) (.int .i64 ((rd_IVar l0_0 x16_1).f1))).trans hx454_0; replace hx454_0 := (cell_far (p := ⟨gb453, 2, none⟩) (by first | (rw [add_block]; exact hn454_2) | (show (Addr.add _ _).block ≠ _; rw [add_block]; exact hn454_2) | exact hn454_2) (.int .i64 ((rd_IVar l0_0 x16_1).f2))).trans hx454_0; (try have hy454_0 := fun (n_ : Nat) => (show (((((w12.drewN n_).setCell ⟨gb453, 0, none⟩ (.int .i64 ((rd_IVar l0_0 x16_1).f0))).setCell ⟨gb453, 1, none⟩ (.int .i64 ((rd_IVar l0_0 x16_1).f1))).setCell ⟨gb453, 2, none⟩ (.int .i64 ((rd_IVar l0_0 x16_1).f2)))).cell? _ = some _ from hx454_0)); clear hn454_0; clear hn454_1; clear hn454_2; replace p454 := eq_true p454; replace q454 := eq_true q454) | (go_at_call 69; (with_reducible refine (impl_in.calls (rd l1 x16_1) ((rd_IVar l0_0 x16_1).f0) ((rd_IVar l0_0 x16_1).f1) true _ A10.out).mono ?_); rintro e w' ⟨rfl, ⟨nd, rfl⟩⟩; (try first | exact ⟨rfl, _, World.drewN_drewN _ _ _⟩ | exact ⟨rfl, _, Eq.trans (World.drewN_drewN _ _ _) (congrArg (World.drewN _) (Nat.add_assoc _ _ _))⟩))))
   go_roundg k1
   case measure => have := HK1.out; omega
   case rel => exact ⟨(wrap64 (x16_1 + 1)), rq, H', ⟨by have := HK1.out; omega⟩, ⟨by (with_reducible repeat (first | refine blk_drewN ?_ _ | refine blk_drew ?_ | refine blk_alloc ?_ _)); refine blk_far ?_ NB451_453.out _; (with_reducible repeat (first | refine blk_drewN ?_ _ | refine blk_drew ?_ | refine blk_alloc ?_ _)); refine blk_far ?_ NB451_453.out _; (with_reducible repeat (first | refine blk_drewN ?_ _ | refine blk_drew ?_ | refine blk_alloc ?_ _)); refine blk_far ?_ NB451_453.out _; exact kz BK451⟩, ⟨bz2 HB GE451 GE453⟩⟩
end Go.Proofs.Ytoofhjflfpccdaa.PA
end
section
namespace Go.Proofs.Ytoofhjflfpccdaa.PA
open Go.RowKit Go.Proofs.YtoofhjflfpccdaaW.PrintWords Go.Proofs.YtoofhjflfpccdaaW.PrintLast Go.Proofs.YtoofhjflfpccdaaW.PrintMore
attribute [local go_sem] max2_int min2_int max_two min_two max_three min_three max_four min_four   -- for this text's walks alone
set_option linter.unusedVariables false
set_option linter.unusedSimpArgs false
set_option maxHeartbeats 8000000 in
set_option maxRecDepth 100000 in
theorem impl_InRange.calls (k : Nat) (A0_0 : Option Addr) (c0_0 : Nat) (l0_0 : List (IVar)) (A0_1 : Option Addr) (c0_1 : Nat) (l0_1 : List (IRule)) (A1 : Option Addr) (c1 : Nat) (l1 : List Int) (r : Bool) (w : World) (hr0_0 : Kd.C k62 w A0_0 l0_0.length l0_0) (hc0_0 : l0_0.length ≤ c0_0) (hr0_1 : Kd.C k81 w A0_1 l0_1.length l0_1) (hc0_1 : l0_1.length ≤ c0_1) (hr1 : Kd.C (Kd.int .i64) w A1 l1.length l1) (hc1 : l1.length ≤ c1) (h : impl_InRange.f k l0_0 l0_1 l1 = some r) :
  Calls Try.prog 63 #[.agg #[.slice A0_0 l0_0.length c0_0, .slice A0_1 l0_1.length c0_1], .slice A1 l1.length c1] w fun e w' => e = .returned (.bool r) ∧ Below w.heap.size w w' := by
 have hu31 := Try.underlying31
 have HR0_0 := Aside0.mk hr0_0
 have HC0_0 := Aside0.mk hc0_0
 clear hr0_0 hc0_0
 have HR0_1 := Aside0.mk hr0_1
 have HC0_1 := Aside0.mk hc0_1
 clear hr0_1 hc0_1
 have HR1 := Aside0.mk hr1
 have HC1 := Aside0.mk hc1
 clear hr1 hc1
 have HB := Aside0.mk (Below.refl w.heap.size w)
 have H : ((impl_SystemValid.f k l0_0 l0_1).bind fun t457 => (if t457 = true then ((impl_inRange.f k l0_0 l0_1 l1).bind fun t458 => (some t458)) else (some false))) = some r := h
 clear h
 replace H := Option.bind_eq_some_iff.mp H
 obtain ⟨t457, A30, H⟩ := H
 have A3 := Aside0.mk A30
 clear A30
 by_cases c4 : t457 = true
 case neg =>
  replace c4 := Bool.eq_false_iff.mpr c4
  subst c4
  rw [if_neg nt_] at H
  obtain rfl := Option.some.inj H
  go_enter Try.func63, Try.ntmps63
  go_wp2_with (first | ((with_reducible refine gate_dst (N := 2) rfl ?_); refine box_event ?hg (N := 2) ?hd (cs := #[.slice A0_0 l0_0.length c0_0, .slice A0_1 l0_1.length c0_1]) (t := 31) ?hr ?_; (case hd => rfl); (case hg => rfl); (case hr => first | (go_simp; done) | (go_simp; rfl)); intro gb456 hg w11 hbox hb; have n0_ := Aside0.mk (below_step (bz HB) hb); have n1_ := Aside0.mk (hbox); have n2_ := Aside0.mk ((by rw [hg]; exact (below_size (bz HB)) : w.heap.size ≤ gb456)); have n3_ := Aside0.mk ((by rw [hg]; exact (below_size (bz HB)) : w.heap.size ≤ gb456)); clear HB; have HB := n0_; have BK456 := n1_; have GW456 := n2_; have GE456 := n3_; clear n0_ n1_ n2_ n3_; clear hb hbox hg; have hcz12_0 : w11.cell? ⟨gb456, 0, none⟩ = some (.slice A0_0 l0_0.length c0_0) := (blk_cell BK456.out 0).trans rfl; have hcz12_1 : w11.cell? ⟨gb456, 1, none⟩ = some (.slice A0_1 l0_1.length c0_1) := (blk_cell BK456.out 1).trans rfl; have hfz12_0 := blk_frozen BK456.out 0; have hfz12_1 := blk_frozen BK456.out 1) | ((with_reducible refine gate_callee (f := 57) rfl ?_); refine goesL_ (some 6) rfl rfl Try.func57 (by kernel_rfl) rfl #[.agg #[.slice A0_0 l0_0.length c0_0, .slice A0_1 l0_1.length c0_1]] rfl az ?_; (with_reducible refine (impl_SystemValid.calls k _ _ l0_0 _ _ l0_1 false _ ?side1 HC0_0.out ?side3 HC0_1.out A3.out).mono ?_); (case side1 => exact cz HR0_0 HB); (case side3 => exact cz HR0_1 HB); rintro e w13 ⟨rfl, hb⟩; refine ⟨_, rfl, ?_⟩; replace BK456 := Aside0.mk (blk_below (g := gb456) (o := .cells #[.slice A0_0 l0_0.length c0_0, .slice A0_1 l0_1.length c0_1] 31 (0, 0)) (kz BK456) hb); replace HB := Aside0.mk (below_step (bz1 HB GE456) hb); clear hb))
  go_ret
  exact ⟨rz, bz1 HB GE456⟩
 subst c4
 rw [if_pos rfl] at H
 replace H := Option.bind_eq_some_iff.mp H
 obtain ⟨t458, A50, H⟩ := H
 have A5 := Aside0.mk A50
 clear A50
 obtain rfl := Option.some.inj H
 go_enter Try.func63, Try.ntmps63
 go_wp2_with (first | ((with_reducible refine gate_dst (N := 2) rfl ?_); refine box_event ?hg (N := 2) ?hd (cs := #[.slice A0_0 l0_0.length c0_0, .slice A0_1 l0_1.length c0_1]) (t := 31) ?hr ?_; (case hd => rfl); (case hg => rfl); (case hr => first | (go_simp; done) | (go_simp; rfl)); intro gb456 hg w6 hbox hb; have n0_ := Aside0.mk (below_step (bz HB) hb); have n1_ := Aside0.mk (hbox); have n2_ := Aside0.mk ((by rw [hg]; exact (below_size (bz HB)) : w.heap.size ≤ gb456)); have n3_ := Aside0.mk ((by rw [hg]; exact (below_size (bz HB)) : w.heap.size ≤ gb456)); clear HB; have HB := n0_; have BK456 := n1_; have GW456 := n2_; have GE456 := n3_; clear n0_ n1_ n2_ n3_; clear hb hbox hg; have hcz7_0 : w6.cell? ⟨gb456, 0, none⟩ = some (.slice A0_0 l0_0.length c0_0) := (blk_cell BK456.out 0).trans rfl; have hcz7_1 : w6.cell? ⟨gb456, 1, none⟩ = some (.slice A0_1 l0_1.length c0_1) := (blk_cell BK456.out 1).trans rfl; have hfz7_0 := blk_frozen BK456.out 0; have hfz7_1 := blk_frozen BK456.out 1) | ((with_reducible refine gate_callee (f := 57) rfl ?_); refine goesL_ (some 6) rfl rfl Try.func57 (by kernel_rfl) rfl #[.agg #[.slice A0_0 l0_0.length c0_0, .slice A0_1 l0_1.length c0_1]] rfl az ?_; (with_reducible refine (impl_SystemValid.calls k _ _ l0_0 _ _ l0_1 true _ ?side1 ?side2 ?side3 ?side4 A3.out).mono ?_); (case side1 => exact cz HR0_0 HB); (case side2 => exact HC0_0.out); (case side3 => exact cz HR0_1 HB); (case side4 => exact HC0_1.out); rintro e w8 ⟨rfl, hb⟩; refine ⟨_, rfl, ?_⟩; replace BK456 := Aside0.mk (blk_below (g := gb456) (o := .cells #[.slice A0_0 l0_0.length c0_0, .slice A0_1 l0_1.length c0_1] 31 (0, 0)) (kz BK456) hb); replace HB := Aside0.mk (below_step (bz1 HB GE456) hb); clear hb; have hcz9_0 : w8.cell? ⟨gb456, 0, none⟩ = some (.slice A0_0 l0_0.length c0_0) := (blk_cell BK456.out 0).trans rfl; have hcz9_1 : w8.cell? ⟨gb456, 1, none⟩ = some (.slice A0_1 l0_1.length c0_1) := (blk_cell BK456.out 1).trans rfl; have hfz9_0 := blk_frozen BK456.out 0; have hfz9_1 := blk_frozen BK456.out 1) | (go_at_call 74; (with_reducible refine (impl_inRange.calls k _ _ l0_0 _ _ l0_1 _ _ l1 t458 _ ?side1 ?side2 ?side3 ?side4 ?side5 HC1.out A5.out).mono ?_); (case side1 => exact cz HR0_0 HB); (case side2 => exact HC0_0.out); (case side3 => exact cz HR0_1 HB); (case side4 => exact HC0_1.out); (case side5 => exact cz HR1 HB); rintro e w10 ⟨rfl, hb⟩; replace BK456 := Aside0.mk (blk_below (g := gb456) (o := .cells #[.slice A0_0 l0_0.length c0_0, .slice A0_1 l0_1.length c0_1] 31 (0, 0)) (kz BK456) hb); replace HB := Aside0.mk (below_step (bz1 HB GE456) hb); clear hb))
 go_ret
 exact ⟨rz, bz1 HB GE456⟩
end Go.Proofs.Ytoofhjflfpccdaa.PA
end
section
namespace Go.Proofs.Ytoofhjflfpccdaa.PA
open Go.RowKit Go.Proofs.YtoofhjflfpccdaaW.PrintWords Go.Proofs.YtoofhjflfpccdaaW.PrintLast Go.Proofs.YtoofhjflfpccdaaW.PrintMore
attribute [local go_sem] max2_int min2_int max_two min_two max_three min_three max_four min_four   -- for this text's walks alone
set_option linter.unusedVariables false
set_option linter.unusedSimpArgs false
set_option maxHeartbeats 8000000 in
set_option maxRecDepth 100000 in
theorem impl_clone_int.calls (A0 : Option Addr) (c0 : Nat) (l0 : List Int) (r : List Int) (w : World) (hr0 : Kd.C (Kd.int .i64) w A0 l0.length l0) (hc0 : l0.length ≤ c0) (h : impl_clone_int.f l0 = some r) :
  Calls Try.prog 101 #[.slice A0 l0.length c0] w fun e w' => ∃ v0_ : Value, e = .returned (v0_) ∧ Kd.R (Kd.int .i64) 3 w' w.heap.size (fun _ => True) v0_ r ∧ Below w.heap.size w w' := by
 have HR0 := Aside0.mk hr0
 have HC0 := Aside0.mk hc0
 clear hr0 hc0
 have hlen : l0.length ≤ 35184372088832 := by
  unfold impl_clone_int.f at h
  by_cases hh : l0.length ≤ 35184372088832
  case pos => exact hh
  rw [if_neg hh] at h; exact absurd h (by simp)
 obtain rfl : l0 = r := by
  unfold impl_clone_int.f at h
  rw [if_pos hlen] at h
  exact Option.some.inj h
 clear h
 have HB := Aside0.mk (Below.refl w.heap.size w)
 by_cases c1 : (l0.length : Int) = 0
 case pos =>
  have e0 : l0 = [] := List.length_eq_zero_iff.1 (by omega)
  subst e0
  clear c1 hlen
  go_enter Try.func101, Try.ntmps101
  go_wp2
  go_ret
  exact ⟨_, rz, nz, bz HB⟩
 have c1b0 := eq_false c1
 have c1b1 : decide ((l0.length : Int) = 0) = false := decide_eq_false c1
 have c1b2 : ((l0.length : Int) == 0) = false := beq_eq_false_iff_ne.2 c1
 have hmin : min l0.length (List.replicate (l0.length : Int).toNat (0 : Int)).length = l0.length := by simp
 have hres : l0.take (min l0.length (List.replicate (l0.length : Int).toNat (0 : Int)).length) ++ (List.replicate (l0.length : Int).toNat (0 : Int)).drop (min l0.length (List.replicate (l0.length : Int).toNat (0 : Int)).length) = l0 := by rw [hmin]; simp
 have hsz : (Try.prog.info? 3).map (·.size) = some 1 := by
  have h_ := info3
  rcases hq : Try.prog.info? 3 with _ | i_ <;> simp_all
 clear c1 hmin
 go_enter Try.func101, Try.ntmps101
 go_wp2_with (first | ((with_reducible refine gate_dst (N := 9) rfl ?_); refine Kd.R_make (Kd.int .i64) _ 3 rfl (N := 9) rfl 35 _ _ rfl (l0.length : Int) rfl rfl Try.underlying35 (.int .i64 0) 8 info3 rfl (by decide) (by omega) 0 (ok := fun _ => True) (okp := fun _ => True) rfl (fun _ hk => hk) trivial (by omega) (Nat.le_trans (Nat.mul_le_mul_right _ (by omega : (l0.length : Int).toNat ≤ 35184372088832)) (by omega)) (Below.refl _ _) (Nat.le_refl _) ?_; intro v4 w4 ho5 hb hg_ hnew_; clear hg_ hnew_; have HO4 := Aside0.mk (Kd.R_lower ho5 (below_size (bz HB))); replace HB := Aside0.mk (below_step (bz HB) hb); clear hb ho5) | ((with_reducible refine gate_builtin (b := .copy) rfl ?_); refine Kd.R_copy 0 w.heap.size rfl _ _ 35 35 3 rfl Try.underlying35 hsz v4 (List.replicate (l0.length : Int).toNat 0) l0 A0 l0.length c0 (fun _ => True) rfl rfl (ozR HO4) (cz HR0 HB) (bz HB) (below_size (bz HB)) ?_; intro w5 ho5 hb hg_; rw [hres] at ho5; have HO5 := Aside0.mk ho5; replace HB := Aside0.mk hb; clear hb hg_ ho5))
 go_ret
 exact ⟨_, rz, ozR HO5, bz HB⟩
end Go.Proofs.Ytoofhjflfpccdaa.PA
end
section
namespace Go.Proofs.Ytoofhjflfpccdaa.PA
open Go.RowKit Go.Proofs.YtoofhjflfpccdaaW.PrintWords Go.Proofs.YtoofhjflfpccdaaW.PrintLast Go.Proofs.YtoofhjflfpccdaaW.PrintMore
attribute [local go_sem] max2_int min2_int max_two min_two max_three min_three max_four min_four   -- for this text's walks alone
set_option linter.unusedVariables false
set_option linter.unusedSimpArgs false
set_option maxHeartbeats 8000000 in
set_option maxRecDepth 100000 in
theorem impl_bitsFor.calls (k : Nat) (a0 : Int) (r : Int) (w : World) (h : impl_bitsFor.f k a0 = some r) :
  Calls Try.prog 104 #[.int .i64 a0] w fun e w' => e = .returned (.int .i64 r) ∧ Drawn0 w w' := by
 have H : (impl_bitsFor.l0 k a0 0) = some r := h
 clear h
 have H' := Aside0.mk H
 clear H
 go_enter Try.func104, Try.ntmps104
 go_wp2
 go_loopg [3] k (fun kq v3 w' => ∃ (x3_1 : Int), v3 = .int .i64 x3_1 ∧ Aside0 (impl_bitsFor.l0 kq a0 x3_1 = some r) ∧ Aside0 (kq ≤ k) ∧ Drawn0 w w')
 case atStart => exact ⟨(0), rq, H', ⟨Nat.le_refl _⟩, by repeat (first | exact Drawn0.refl _ | apply Drawn0.step)⟩
 case round =>
  clear H'
  try clear c1
  obtain ⟨x3_1, rfl, HA, HK1, ⟨m1, rfl⟩⟩ := hrel
  cases gk with
  | zero => exact absurd HA.out (by simp [impl_bitsFor.l0])
  | succ k1 =>
   have H := HA.out
   clear HA
   simp only [impl_bitsFor.l0] at H
   by_cases c2 : 0 ≤ x3_1
   case neg =>
    rw [if_neg c2] at H
    exact absurd H (by simp)
   rw [if_pos c2] at H
   have c2b0 := eq_true c2
   have c2b1 : decide (0 ≤ x3_1) = true := decide_eq_true c2
   clear c2
   obtain ⟨ji3, hji3⟩ : ∃ j_ : Int, (shl .i64 1 x3_1) = j_ := ⟨_, rfl⟩
   replace H : (if (ji3) < a0 then (impl_bitsFor.l0 k1 a0 (wrap64 (x3_1 + 1))) else (some x3_1)) = some r := by first | (rw [hji3] at H; exact H) | (simp only [hji3] at H ⊢; exact H)
   have hji3_ : (IntKind.i64.wrap (1 * 2 ^ min x3_1.toNat 64)) = ji3 := hji3
   have hji3z : x3_1 ≤ 64 → (IntKind.i64.wrap (1 * 2 ^ x3_1.toNat)) = ji3 := shl_small hji3
   have hji3u : (IntKind.i64.wrap (2 ^ min x3_1.toNat 64)) = ji3 := by have h_ := hji3_; rw [Int.one_mul] at h_; exact h_
   have hji3v : x3_1 ≤ 64 → (IntKind.i64.wrap (2 ^ x3_1.toNat)) = ji3 := fun hle_ => by have h_ := hji3z hle_; rw [Int.one_mul] at h_; exact h_
   have hji3y : (wrap64 (1 * 2 ^ min x3_1.toNat 64)) = ji3 := (i64_w _).symm.trans hji3_
   have hji3x : x3_1 ≤ 64 → (wrap64 (1 * 2 ^ x3_1.toNat)) = ji3 := fun h_ => (i64_w _).symm.trans (hji3z h_)
   by_cases c4 : (ji3) < a0
   case neg =>
    rw [if_neg c4] at H
    have c4b0 : decide ((ji3) < a0) = false := decide_eq_false c4
    clear c4
    obtain rfl := Option.some.inj H
    go_wp2
    go_ret
    exact ⟨by first | rfl | (simp; done) | (simp only [← hji3] <;> (first | rfl | simp)) | (simp [*]; done), by repeat (first | exact Drawn0.refl _ | apply Drawn0.step)⟩
   rw [if_pos c4] at H
   have c4b0 : decide ((ji3) < a0) = true := decide_eq_true c4
   clear c4
   have H' := Aside0.mk H
   clear H
   go_wp2
   go_roundg k1
   case measure => have := HK1.out; omega
   case rel => exact ⟨(wrap64 (x3_1 + 1)), rq, H', ⟨by have := HK1.out; omega⟩, by repeat (first | exact Drawn0.refl _ | apply Drawn0.step)⟩
end Go.Proofs.Ytoofhjflfpccdaa.PA
end
section
namespace Go.Proofs.Ytoofhjflfpccdaa.PA
open Go.RowKit Go.Proofs.YtoofhjflfpccdaaW.PrintWords Go.Proofs.YtoofhjflfpccdaaW.PrintLast Go.Proofs.YtoofhjflfpccdaaW.PrintMore
attribute [local go_sem] max2_int min2_int max_two min_two max_three min_three max_four min_four   -- for this text's walks alone
set_option linter.unusedVariables false
set_option linter.unusedSimpArgs false
set_option maxHeartbeats 8000000 in
set_option maxRecDepth 100000 in
theorem impl_bitsOf.calls (k : Nat) (A0_0 : Option Addr) (c0_0 : Nat) (l0_0 : List (IVar)) (A0_1 : Option Addr) (c0_1 : Nat) (l0_1 : List (IRule)) (r : List Int) (w : World) (hr0_0 : Kd.C k62 w A0_0 l0_0.length l0_0) (hc0_0 : l0_0.length ≤ c0_0) (hr0_1 : Kd.C k81 w A0_1 l0_1.length l0_1) (hc0_1 : l0_1.length ≤ c0_1) (h : impl_bitsOf.f k l0_0 l0_1 = some r) :
  Calls Try.prog 65 #[.agg #[.slice A0_0 l0_0.length c0_0, .slice A0_1 l0_1.length c0_1]] w fun e w' => ∃ v0_ : Value, e = .returned (v0_) ∧ Kd.R (Kd.int .i64) 3 w' w.heap.size (fun _ => True) v0_ r ∧ Below w.heap.size w w' := by
 have hu31 := Try.underlying31
 have hu62 := Try.underlying62
 have HR0_0 := Aside0.mk hr0_0
 have HC0_0 := Aside0.mk hc0_0
 clear hr0_0 hc0_0
 have HR0_1 := Aside0.mk hr0_1
 have HC0_1 := Aside0.mk hc0_1
 clear hr0_1 hc0_1
 have HB := Aside0.mk (Below.refl w.heap.size w)
 have H : (impl_bitsOf.l0 k ([] : List Int) l0_0 (l0_0.length : Int) 0) = some r := h
 clear h
 have H' := Aside0.mk H
 clear H
 go_enter Try.func65, Try.ntmps65
 go_wp2_with (first | ((with_reducible refine gate_dst (N := 1) rfl ?_); refine box_event ?hg (N := 1) ?hd (cs := #[.slice A0_0 l0_0.length c0_0, .slice A0_1 l0_1.length c0_1]) (t := 31) ?hr ?_; (case hd => rfl); (case hg => rfl); (case hr => first | (go_simp; done) | (go_simp; rfl)); intro gb298 hg w2 hbox hb; have n0_ := Aside0.mk (below_step (bz HB) hb); have n1_ := Aside0.mk (hbox); have n2_ := Aside0.mk ((by rw [hg]; exact (below_size (bz HB)) : w.heap.size ≤ gb298)); have n3_ := Aside0.mk ((by rw [hg]; exact (below_size (bz HB)) : w.heap.size ≤ gb298)); clear HB; have HB := n0_; have BK298 := n1_; have GW298 := n2_; have GE298 := n3_; clear n0_ n1_ n2_ n3_; clear hb hbox hg; have hcz3_0 : w2.cell? ⟨gb298, 0, none⟩ = some (.slice A0_0 l0_0.length c0_0) := (blk_cell BK298.out 0).trans rfl; have hcz3_1 : w2.cell? ⟨gb298, 1, none⟩ = some (.slice A0_1 l0_1.length c0_1) := (blk_cell BK298.out 1).trans rfl; have hfz3_0 := blk_frozen BK298.out 0; have hfz3_1 := blk_frozen BK298.out 1))
 go_loopg [3, 9] k (fun kq v3 v9 w' => ∃ (x3_1 : List Int) (x9_1 : Int), v9 = .int .i64 x9_1 ∧ Aside0 (impl_bitsOf.l0 kq x3_1 l0_0 (l0_0.length : Int) x9_1 = some r) ∧ Aside0 (kq ≤ k) ∧ Aside0 (Kd.R (Kd.int .i64) 3 w' w.heap.size (fun _ => True) v3 x3_1) ∧ Aside0 (w'.heap[gb298]? = some (.cells #[(.slice A0_0 l0_0.length c0_0), (.slice A0_1 l0_1.length c0_1)] 31 (0, 0))) ∧ Aside0 (Below w.heap.size w w'))
 case atStart => exact ⟨(([] : List Int)), (0), rq, H', ⟨Nat.le_refl _⟩, ⟨nz⟩, ⟨kz BK298⟩, ⟨bz1 HB GE298⟩⟩
 case round =>
  clear H'
  try clear p2
  try clear hcz3_0
  try clear hcz3_1
  try clear hfz3_0
  try clear hfz3_1
  obtain ⟨x3_1, x9_1, rfl, HA, HK1, HO_3, BK298, HB⟩ := hrel
  cases gk with
  | zero => exact absurd HA.out (by simp [impl_bitsOf.l0])
  | succ k1 =>
   have H := HA.out
   clear HA
   simp only [impl_bitsOf.l0] at H
   by_cases c4 : x9_1 < (l0_0.length : Int)
   case neg =>
    rw [if_neg c4] at H
    have c4b0 : decide (x9_1 < (l0_0.length : Int)) = false := decide_eq_false c4
    clear c4
    replace H := Option.bind_eq_some_iff.mp H
    obtain ⟨t305, A130, H⟩ := H
    have A13 := Aside0.mk A130
    clear A130
    obtain rfl := Option.some.inj H
    obtain ⟨Ao14, co14, eo14⟩ := Kd.R_slice HO_3.out
    subst eo14
    go_wp2_with (first | ((with_reducible refine gate_callee (f := 101) rfl ?_); refine goesL_ (some 25) rfl rfl Try.func101 (by kernel_rfl) rfl #[.slice Ao14 x3_1.length co14] rfl az ?_; (with_reducible refine (impl_clone_int.calls _ _ x3_1 t305 _ ?side1 ?side2 A13.out).mono ?_); (case side1 => exact cz1 (Kd.R_reads' HO_3.out).2.2); (case side2 => exact (Kd.R_reads' HO_3.out).2.1); rintro e w15 ⟨v306, rfl, ho0, hb⟩; refine ⟨_, rfl, ?_⟩; have n0_ := Aside0.mk (Kd.R_elder' (ozR HO_3) (Kd.R_base ho0) hb); have n1_ := Aside0.mk (Kd.R_lower (Kd.R_new' ho0 (Kd.R_lt (ozR HO_3))) (below_size (bz1 HB GE298))); have n2_ := Aside0.mk (blk_below (g := gb298) (o := .cells #[.slice A0_0 l0_0.length c0_0, .slice A0_1 l0_1.length c0_1] 31 (0, 0)) (kz BK298) hb); have n3_ := Aside0.mk (below_step (bz1 HB GE298) hb); clear HO_3; clear BK298; clear HB; have HO_3 := n0_; have HO307 := n1_; have BK298 := n2_; have HB := n3_; clear n0_ n1_ n2_ n3_; clear hb; (try clear ho0)))
    go_ret
    exact ⟨_, rz, by (with_reducible repeat (first | apply Kd.R_alloc | apply Kd.R_drewN | apply Kd.R_drew)); exact Kd.R_mono HO307.out (fun _ hk => trivial), bz1 HB GE298⟩
   rw [if_pos c4] at H
   have c4b0 : decide (x9_1 < (l0_0.length : Int)) = true := decide_eq_true c4
   clear c4
   by_cases c5 : 0 ≤ x9_1
   case neg =>
    rw [if_neg c5] at H
    exact absurd H (by simp)
   rw [if_pos c5] at H
   have c5b0 : decide (0 ≤ x9_1) = true := decide_eq_true c5
   clear c5
   by_cases c6 : x9_1 < (l0_0.length : Int)
   case neg =>
    rw [if_neg c6] at H
    exact absurd H (by simp)
   rw [if_pos c6] at H
   have c6b0 : decide (x9_1 < (l0_0.length : Int)) = true := decide_eq_true c6
   clear c6
   replace H := Option.bind_eq_some_iff.mp H
   obtain ⟨t301, A70, H⟩ := H
   have A7 := Aside0.mk A70
   clear A70
   by_cases c8 : x3_1.length < 17592186044416
   case neg =>
    rw [if_neg c8] at H
    exact absurd H (by simp)
   rw [if_pos c8] at H
   have LMc8 := Aside0.mk c8
   clear c8
   obtain ⟨y302, hy302⟩ : ∃ y_ : List Int, y_ = (x3_1 ++ [t301]) := ⟨_, rfl⟩
   replace H : (impl_bitsOf.l0 k1 y302 l0_0 (l0_0.length : Int) (wrap64 (x9_1 + 1))) = some r := by first | (rw [hy302]; with_reducible exact H) | (have H2_ := (Option.bind_some _ _).symm.trans H; rw [hy302]; with_reducible exact H2_) | (have H2_ := (Option.bind_some _ _).symm.trans H; with_reducible exact H2_) | with_reducible exact H | (rw [hy302]; exact H) | exact H
   have Ny302 := Aside0.mk hy302
   clear hy302
   have H' := Aside0.mk H
   clear H
   have p299 : 0 ≤ (x9_1 : Int) := dz
   have q299 : x9_1 < (l0_0.length : Int) := dz
   obtain ⟨ad299, e299, hx299_0, hx299_1, hx299_2⟩ := at_IVar HR0_0.out x9_1 p299 q299
   cases e299
   replace hx299_0 := xz HB hx299_0
   replace hx299_1 := xz HB hx299_1
   replace hx299_2 := xz HB hx299_2
   replace p299 := eq_true p299
   replace q299 := eq_true q299
   go_wp2_with (first | ((with_reducible refine gate_dst (N := 5) rfl ?_); refine box_event ?hg (N := 5) ?hd (cs := #[.int .i64 0, .int .i64 0, .int .i64 0]) (t := 62) ?hr ?_; (case hd => rfl); (case hg => rfl); (case hr => first | (go_simp; done) | (go_simp; rfl)); intro gb300 hg w9 hbox hb; have n0_ := Aside0.mk (Kd.R_below (ozR HO_3) hb); have n1_ := Aside0.mk (blk_below (g := gb298) (o := .cells #[.slice (some ad299) l0_0.length c0_0, .slice A0_1 l0_1.length c0_1] 31 (0, 0)) (kz BK298) hb); have n2_ := Aside0.mk (below_step (bz1 HB GE298) hb); have n3_ := Aside0.mk (hbox); have n4_ := Aside0.mk ((by rw [hg]; exact (below_size (bz1 HB GE298)) : w.heap.size ≤ gb300)); have n5_ := Aside0.mk ((by rw [hg]; exact (below_size (bz1 HB GE298)) : w.heap.size ≤ gb300)); have n6_ := Aside0.mk ((by rw [hg]; exact Nat.ne_of_lt (blk_lt (g := gb298) (o := .cells #[.slice (some ad299) l0_0.length c0_0, .slice A0_1 l0_1.length c0_1] 31 (0, 0)) (kz BK298)) : gb298 ≠ gb300)); have n7_ := Aside0.mk ((by rw [hg]; exact Nat.ne_of_gt (blk_lt (g := gb298) (o := .cells #[.slice (some ad299) l0_0.length c0_0, .slice A0_1 l0_1.length c0_1] 31 (0, 0)) (kz BK298)) : gb300 ≠ gb298)); clear HO_3; clear BK298; clear HB; have HO_3 := n0_; have BK298 := n1_; have HB := n2_; have BK300 := n3_; have GW300 := n4_; have GE300 := n5_; have NB298_300 := n6_; have NB300_298 := n7_; clear n0_ n1_ n2_ n3_ n4_ n5_ n6_ n7_; clear hb hbox hg; have hnb10 := NB300_298.out; have hnc10 := NB298_300.out; have hcz11_0 : w9.cell? ⟨gb300, 0, none⟩ = some (.int .i64 0) := (blk_cell BK300.out 0).trans rfl; have hcz11_1 : w9.cell? ⟨gb300, 1, none⟩ = some (.int .i64 0) := (blk_cell BK300.out 1).trans rfl; have hcz11_2 : w9.cell? ⟨gb300, 2, none⟩ = some (.int .i64 0) := (blk_cell BK300.out 2).trans rfl; have hfz11_0 := blk_frozen BK300.out 0; have hfz11_1 := blk_frozen BK300.out 1; have hfz11_2 := blk_frozen BK300.out 2) | ((with_reducible refine gate_callee (f := 104) rfl ?_); refine goesL_ (some 20) rfl rfl Try.func104 (by kernel_rfl) rfl #[.int .i64 (wrap64 ((wrap64 (((rd_IVar l0_0 x9_1).f1) - ((rd_IVar l0_0 x9_1).f0))) + 1))] rfl az ?_; (with_reducible refine (impl_bitsFor.calls k1 (wrap64 ((wrap64 (((rd_IVar l0_0 x9_1).f1) - ((rd_IVar l0_0 x9_1).f0))) + 1)) t301 _ A7.out).mono ?_); rintro e w' ⟨rfl, ⟨nd, rfl⟩⟩; refine ⟨_, rfl, ?_⟩) | ((with_reducible refine gate_builtin (b := .append) (xs := #[.tmp 13, .tmp 21]) rfl ?_); at_builtin; refine Kd.R_append (Kd.int .i64) (w0 := w) w.heap.size rfl (.tmp 13) (.tmp 21) 35 3 (.int .i64 0) 8 rfl Try.underlying35 info3 rfl (by decide) (by omega) u3 x3_1 t301 [.int .i64 t301] (fun _ => True) (fun _ => False) rfl (by first | (go_simp; done) | (go_simp; rfl)) ?aP (fun _ hk => hk.elim) ?aF ?aO ?aB ?aS ?aL ?_; (case aP => exact rfl); (case aB => exact (bz2 HB GE298 GE300)); (case aF => exact (fun _ _ => trivial)); (case aO => exact (by (with_reducible repeat (first | apply Kd.R_alloc | apply Kd.R_drewN | apply Kd.R_drew)); exact Kd.R_mono (Kd.R_far (p := ⟨gb300, 2, none⟩) (Kd.R_far (p := ⟨gb300, 1, none⟩) (Kd.R_far (p := ⟨gb300, 0, none⟩) (Kd.R_types HO_3.out BK300.out (by decide)) (fun _ hk => hk.2) (.int .i64 ((rd_IVar l0_0 x9_1).f0))) (fun _ hk => hk.2) (.int .i64 ((rd_IVar l0_0 x9_1).f1))) (fun _ hk => hk.2) (.int .i64 ((rd_IVar l0_0 x9_1).f2))) (fun _ hk => trivial))); (case aS => exact (below_size (bz2 HB GE298 GE300))); (case aL => have := LMc8.out; omega); intro v303 w12 ho hb hg hat; rw [← Ny302.out] at ho; replace BK298 := Aside0.mk (blk_grown (g := gb298) (o := .cells #[.slice (some ad299) l0_0.length c0_0, .slice A0_1 l0_1.length c0_1] 31 (0, 0)) (by (with_reducible repeat (first | refine blk_drewN ?_ _ | refine blk_drew ?_ | refine blk_alloc ?_ _)); refine blk_far ?_ NB298_300.out _; (with_reducible repeat (first | refine blk_drewN ?_ _ | refine blk_drew ?_ | refine blk_alloc ?_ _)); refine blk_far ?_ NB298_300.out _; (with_reducible repeat (first | refine blk_drewN ?_ _ | refine blk_drew ?_ | refine blk_alloc ?_ _)); refine blk_far ?_ NB298_300.out _; exact kz BK298) hg (Kd.R_ne HO_3.out BK298.out (by decide))); replace BK300 := Aside0.mk (blk_grown (g := gb300) (o := .cells #[.int .i64 ((rd_IVar l0_0 x9_1).f0), .int .i64 ((rd_IVar l0_0 x9_1).f1), .int .i64 ((rd_IVar l0_0 x9_1).f2)] 62 (0, 0)) (by (with_reducible repeat (first | refine blk_drewN ?_ _ | refine blk_drew ?_ | refine blk_alloc ?_ _)); refine blk_put (cs := #[.int .i64 ((rd_IVar l0_0 x9_1).f0), .int .i64 ((rd_IVar l0_0 x9_1).f1), .int .i64 0]) ?_ 2 _ rfl; (with_reducible repeat (first | refine blk_drewN ?_ _ | refine blk_drew ?_ | refine blk_alloc ?_ _)); refine blk_put (cs := #[.int .i64 ((rd_IVar l0_0 x9_1).f0), .int .i64 0, .int .i64 0]) ?_ 1 _ rfl; (with_reducible repeat (first | refine blk_drewN ?_ _ | refine blk_drew ?_ | refine blk_alloc ?_ _)); refine blk_put (cs := #[.int .i64 0, .int .i64 0, .int .i64 0]) ?_ 0 _ rfl; exact kz BK300) hg (Kd.R_ne HO_3.out BK300.out (by decide))); replace HB := Aside0.mk (hb); have HO304 := Aside0.mk (ho); clear HO_3; clear ho hb hg hat))
   go_roundg k1
   case measure => have := HK1.out; omega
   case rel => exact ⟨(y302), (wrap64 (x9_1 + 1)), rq, H', ⟨by have := HK1.out; omega⟩, ⟨ozR HO304⟩, ⟨kz BK298⟩, ⟨bz2 HB GE298 GE300⟩⟩
end Go.Proofs.Ytoofhjflfpccdaa.PA
end
section
namespace Go.Proofs.Ytoofhjflfpccdaa.PA
open Go.RowKit Go.Proofs.YtoofhjflfpccdaaW.PrintWords Go.Proofs.YtoofhjflfpccdaaW.PrintLast Go.Proofs.YtoofhjflfpccdaaW.PrintMore
attribute [local go_sem] max2_int min2_int max_two min_two max_three min_three max_four min_four   -- for this text's walks alone
set_option linter.unusedVariables false
set_option linter.unusedSimpArgs false
set_option maxHeartbeats 8000000 in
set_option maxRecDepth 100000 in
theorem impl_valueBits.calls (k : Nat) (a0 : Int) (a1 : Int) (r : List Int) (w : World) (h : impl_valueBits.f k a0 a1 = some r) :
  Calls Try.prog 107 #[.int .i64 a0, .int .i64 a1] w fun e w' => ∃ v0_ : Value, e = .returned (v0_) ∧ Kd.R (Kd.int .i64) 3 w' w.heap.size (fun _ => True) v0_ r ∧ Below w.heap.size w w' := by
 have HB := Aside0.mk (Below.refl w.heap.size w)
 have H : (if 0 ≤ a1 then (if (a1 : Int).toNat ≤ 35184372088832 then ((some (List.replicate (a1 : Int).toNat 0 : List Int)).bind fun y646 => (impl_valueBits.l0 k a0 a1 y646 (y646.length : Int) 0)) else (none)) else (none)) = some r := h
 clear h
 by_cases c3 : 0 ≤ a1
 case neg =>
  rw [if_neg c3] at H
  exact absurd H (by simp)
 rw [if_pos c3] at H
 have c3b0 := eq_true c3
 have c3b1 : decide (0 ≤ a1) = true := decide_eq_true c3
 clear c3
 by_cases c4 : (a1 : Int).toNat ≤ 35184372088832
 case neg =>
  rw [if_neg c4] at H
  exact absurd H (by simp)
 rw [if_pos c4] at H
 have c4b0 := eq_true c4
 have c4b1 : decide ((a1 : Int).toNat ≤ 35184372088832) = true := decide_eq_true c4
 clear c4
 obtain ⟨y646, hy646⟩ : ∃ y_ : List Int, y_ = (List.replicate (a1 : Int).toNat 0) := ⟨_, rfl⟩
 replace H : (impl_valueBits.l0 k a0 a1 y646 (y646.length : Int) 0) = some r := by first | (rw [hy646]; with_reducible exact H) | (have H2_ := (Option.bind_some _ _).symm.trans H; rw [hy646]; with_reducible exact H2_) | (have H2_ := (Option.bind_some _ _).symm.trans H; with_reducible exact H2_) | with_reducible exact H | (rw [hy646]; exact H) | exact H
 have Ny646 := Aside0.mk hy646
 clear hy646
 have H' := Aside0.mk H
 clear H
 go_enter Try.func107, Try.ntmps107
 go_wp2_with (first | ((with_reducible refine gate_dst (N := 8) rfl ?_); refine Kd.R_make (Kd.int .i64) _ 3 rfl (N := 8) rfl 35 _ _ rfl a1 rfl rfl Try.underlying35 (.int .i64 0) 8 info3 rfl (by decide) (by omega) 0 (ok := fun _ => True) (okp := fun _ => True) rfl (fun _ hk => hk) trivial (dz) (Nat.le_trans (Nat.mul_le_mul_right _ (dz : a1.toNat ≤ 35184372088832)) (by omega)) (Below.refl _ _) (Nat.le_refl _) ?_; intro v647 w5 ho6 hb hg_ hnew_; clear hg_ hnew_; (first | rw [← Ny646.out] at ho6 | (simp only [Int.reduceToNat] at ho6; rw [← Ny646.out] at ho6)); have HO648 := Aside0.mk (Kd.R_lower ho6 (below_size (bz HB))); replace HB := Aside0.mk (below_step (bz HB) hb); clear hb ho6; obtain ⟨Ao7, co7, eo7⟩ := Kd.R_slice HO648.out; subst eo7))
 go_loopg [11] k (fun kq v11 w' => ∃ (x5_1 : List Int) (x11_1 : Int), v11 = .int .i64 x11_1 ∧ Aside0 (impl_valueBits.l0 kq a0 a1 x5_1 (y646.length : Int) x11_1 = some r) ∧ Aside0 (kq ≤ k) ∧ Aside0 (Kd.R (Kd.int .i64) 3 w' w.heap.size (fun _ => True) (.slice Ao7 y646.length co7) x5_1) ∧ Aside0 (Below w.heap.size w w'))
 case atStart => exact ⟨(y646), (0), rq, H', ⟨Nat.le_refl _⟩, ⟨ozR HO648⟩, ⟨bz HB⟩⟩
 case round =>
  clear H'
  try clear c1
  try clear p2
  try clear c3
  try clear c3b0
  try clear c3b1
  try clear c4
  try clear c4b0
  try clear c4b1
  obtain ⟨x5_1, x11_1, rfl, HA, HK1, HO_5, HB⟩ := hrel
  have hl5_1 := (Kd.R_reads' HO_5.out).1
  rw [hl5_1] at HO_5
  (try simp only [hl5_1])
  cases gk with
  | zero => exact absurd HA.out (by simp [impl_valueBits.l0])
  | succ k1 =>
   have H := HA.out
   clear HA
   simp only [impl_valueBits.l0] at H
   by_cases c8 : x11_1 < (y646.length : Int)
   case neg =>
    rw [if_neg c8] at H
    have c8b0 : decide (x11_1 < (y646.length : Int)) = false := decide_eq_false c8
    (try rw [hl5_1] at c8b0)
    clear c8
    obtain rfl := Option.some.inj H
    go_wp2
    go_ret
    exact ⟨_, rz, ozR HO_5, bz HB⟩
   rw [if_pos c8] at H
   have c8b0 : decide (x11_1 < (y646.length : Int)) = true := decide_eq_true c8
   clear c8
   obtain ⟨ji9, hji9⟩ : ∃ j_ : Int, (wrap64 ((wrap64 (a1 - 1)) - x11_1)) = j_ := ⟨_, rfl⟩
   replace H : (if 0 ≤ (ji9) then (if 0 ≤ x11_1 then (if x11_1 < (x5_1.length : Int) then (impl_valueBits.l0 k1 a0 a1 (x5_1.set (x11_1 : Int).toNat (Go.bits .and .i64 (shr .i64 a0 (ji9)) 1)) (y646.length : Int) (wrap64 (x11_1 + 1))) else (none)) else (none)) else (none)) = some r := by first | (rw [hji9] at H; exact H) | (simp only [hji9] at H ⊢; exact H)
   have hji9w : (IntKind.i64.wrap ((wrap64 (a1 - 1)) - x11_1)) = ji9 := (i64_w _).trans hji9
   by_cases c10 : 0 ≤ (ji9)
   case neg =>
    rw [if_neg c10] at H
    exact absurd H (by simp)
   rw [if_pos c10] at H
   have c10b0 := eq_true c10
   have c10b1 : decide (0 ≤ (ji9)) = true := decide_eq_true c10
   clear c10
   obtain ⟨ji11, hji11⟩ : ∃ j_ : Int, (shr .i64 a0 (ji9)) = j_ := ⟨_, rfl⟩
   replace H : (if 0 ≤ x11_1 then (if x11_1 < (x5_1.length : Int) then (impl_valueBits.l0 k1 a0 a1 (x5_1.set (x11_1 : Int).toNat (Go.bits .and .i64 (ji11) 1)) (y646.length : Int) (wrap64 (x11_1 + 1))) else (none)) else (none)) = some r := by first | (rw [hji11] at H; exact H) | (simp only [hji11] at H ⊢; exact H)
   have hji11_ : (a0 / 2 ^ min (ji9).toNat 64) = ji11 := hji11
   have hji11z : (ji9) ≤ 64 → (a0 / 2 ^ (ji9).toNat) = ji11 := shr_small hji11
   by_cases c12 : 0 ≤ x11_1
   case neg =>
    rw [if_neg c12] at H
    exact absurd H (by simp)
   rw [if_pos c12] at H
   have c12b0 : decide (0 ≤ x11_1) = true := decide_eq_true c12
   clear c12
   by_cases c13 : x11_1 < (x5_1.length : Int)
   case neg =>
    rw [if_neg c13] at H
    exact absurd H (by simp)
   rw [if_pos c13] at H
   have c13b0 : decide (x11_1 < (x5_1.length : Int)) = true := decide_eq_true c13
   clear c13
   obtain ⟨y649, hy649⟩ : ∃ y_ : List Int, y_ = (x5_1.set (x11_1 : Int).toNat (Go.bits .and .i64 (ji11) 1)) := ⟨_, rfl⟩
   replace H : (impl_valueBits.l0 k1 a0 a1 y649 (y646.length : Int) (wrap64 (x11_1 + 1))) = some r := by first | (rw [hy649]; with_reducible exact H) | (have H2_ := (Option.bind_some _ _).symm.trans H; rw [hy649]; with_reducible exact H2_) | (have H2_ := (Option.bind_some _ _).symm.trans H; with_reducible exact H2_) | with_reducible exact H | (rw [hy649]; exact H) | exact H
   have Ny649 := Aside0.mk hy649
   clear hy649
   have H' := Aside0.mk H
   clear H
   have p14 : 0 ≤ (x11_1 : Int) := dz
   have q14 : (x11_1 : Int) < ((x5_1.length : Int) : Int) := dz
   obtain ⟨go14, co14, eo14, gb14, gl14, cl14, HG14⟩ := Kd.R_form HO_5.out (by omega)
   (first | cases eo14 | (injection eo14 with ea_ en_ ec_; (first | subst ea_ | (injection ea_ with ea_; subst ea_)); subst ec_; clear en_))
   have GB14 := Aside0.mk gb14
   have GG14 := Aside0.mk HG14
   clear gb14 gl14 HG14
   obtain ⟨hx14_0, hf14_0⟩ := Kd.R_celln 0 HO_5.out (x11_1 : Int) p14 q14
   replace p14 := eq_true p14
   replace q14 := eq_true q14
   have HP15 := Kd.R_putg HO_5.out (x11_1 : Int) (Go.bits .and .i64 (ji11) 1)
   go_wp2_with (first | ((with_reducible refine gate_store (t := 3) (p := 23) rfl ?_); refine store_event (t := 3) (p := 23) (v := ?vo_w16) (w1 := (wr.setCell ⟨go14, (x11_1 : Int).toNat, none⟩ (.int .i64 (Go.bits .and .i64 (ji11) 1)))) ?hg ?ho ?hn ?hr ?_; (case ho => rfl); (case hg => rfl); (case hn => rfl); (case hr => first | (go_simp; done) | (go_simp; rfl)); intro w16 hw; have hg : wr.grownBy w16 (some go14) := (by rw [hw]; exact HP15.2); have hp_ : Kd.R (Kd.int .i64) 3 w16 w.heap.size (fun _ => True) (.slice (some ⟨go14, 0, none⟩) x5_1.length co7) y649 := (by rw [hw, Ny649.out]; exact HP15.1); clear HP15; replace HO_5 := Aside0.mk (hp_); replace HB := Aside0.mk ((by rw [hw]; exact below_set (HB.out) GB14.out : Below w.heap.size w w16)); clear hg hw hp_))
   (try simp only [← hl5_1])
   go_roundg k1
   case measure => have := HK1.out; omega
   case rel => exact ⟨(y649), (wrap64 (x11_1 + 1)), rq, H', ⟨by have := HK1.out; omega⟩, ⟨by (try simp only [hl5_1]); (with_reducible repeat (first | apply Kd.R_alloc | apply Kd.R_drewN | apply Kd.R_drew)); exact HO_5.out⟩, ⟨bz HB⟩⟩
end Go.Proofs.Ytoofhjflfpccdaa.PA
end
section
namespace Go.Proofs.Ytoofhjflfpccdaa.PA
open Go.RowKit Go.Proofs.YtoofhjflfpccdaaW.PrintWords Go.Proofs.YtoofhjflfpccdaaW.PrintLast Go.Proofs.YtoofhjflfpccdaaW.PrintMore
attribute [local go_sem] max2_int min2_int max_two min_two max_three min_three max_four min_four   -- for this text's walks alone
set_option linter.unusedVariables false
set_option linter.unusedSimpArgs false
def impl_stateBits.T5 : Bool × List (List Nat × List Nat) := (true, [([], []), ([], []), ([], []), ([1, 2], [1, 2]), ([3], [3]), ([], []), ([5], [5]), ([], []), ([6, 7], [6, 7]), ([8], [8]), ([9], [9]), ([4, 10], [4, 10]), ([], []), ([11, 12], [11, 12]), ([0, 13, 13], [0, 13]), ([14, 14, 0, 1, 2, 3, 4, 5, 6, 7, 8, 9, 10, 11, 12, 13, 14], [0, 14])])
def impl_stateBits.B5 : List Nat := [0, 0, 0, 6, 14, 0, 32, 0, 224, 480, 992, 2046, 0, 8190, 16383, 32767]
theorem impl_stateBits.tab5 : rtab .any (opsOf Try.f75 5) = impl_stateBits.T5 := by kernel_rfl
theorem impl_stateBits.bits5 : waitsOk impl_stateBits.T5.2 impl_stateBits.B5 = true := by kernel_rfl
set_option maxHeartbeats 8000000 in
set_option maxRecDepth 100000 in
theorem impl_stateBits.calls (k : Nat) (A0_0 : Option Addr) (c0_0 : Nat) (l0_0 : List (IVar)) (A0_1 : Option Addr) (c0_1 : Nat) (l0_1 : List (IRule)) (A1 : Option Addr) (c1 : Nat) (l1 : List Int) (r : List Int) (w : World) (hr0_0 : Kd.C k62 w A0_0 l0_0.length l0_0) (hc0_0 : l0_0.length ≤ c0_0) (hr0_1 : Kd.C k81 w A0_1 l0_1.length l0_1) (hc0_1 : l0_1.length ≤ c0_1) (hr1 : Kd.C (Kd.int .i64) w A1 l1.length l1) (hc1 : l1.length ≤ c1) (h : impl_stateBits.f k l0_0 l0_1 l1 = some r) :
  Calls Try.prog 75 #[.agg #[.slice A0_0 l0_0.length c0_0, .slice A0_1 l0_1.length c0_1], .slice A1 l1.length c1] w fun e w' => ∃ v0_ : Value, e = .returned (v0_) ∧ Kd.R (Kd.int .i64) 3 w' w.heap.size (fun _ => True) v0_ r ∧ Below w.heap.size w w' := by
 have hu31 := Try.underlying31
 have HR0_0 := Aside0.mk hr0_0
 have HC0_0 := Aside0.mk hc0_0
 clear hr0_0 hc0_0
 have HR0_1 := Aside0.mk hr0_1
 have HC0_1 := Aside0.mk hc0_1
 clear hr0_1 hc0_1
 have HR1 := Aside0.mk hr1
 have HC1 := Aside0.mk hc1
 clear hr1 hc1
 have HB := Aside0.mk (Below.refl w.heap.size w)
 have H : ((impl_bitsOf.f k l0_0 l0_1).bind fun t651 => (impl_stateBits.l0 k l1 ([] : List Int) t651 (t651.length : Int) 0 l0_0 l0_1)) = some r := h
 clear h
 replace H := Option.bind_eq_some_iff.mp H
 obtain ⟨t651, A30, H⟩ := H
 have A3 := Aside0.mk A30
 clear A30
 have H' := Aside0.mk H
 clear H
 go_enter Try.func75, Try.ntmps75
 go_wp2_with (first | ((with_reducible refine gate_dst (N := 2) rfl ?_); refine box_event ?hg (N := 2) ?hd (cs := #[.slice A0_0 l0_0.length c0_0, .slice A0_1 l0_1.length c0_1]) (t := 31) ?hr ?_; (case hd => rfl); (case hg => rfl); (case hr => first | (go_simp; done) | (go_simp; rfl)); intro gb650 hg w4 hbox hb; have n0_ := Aside0.mk (below_step (bz HB) hb); have n1_ := Aside0.mk (hbox); have n2_ := Aside0.mk ((by rw [hg]; exact (below_size (bz HB)) : w.heap.size ≤ gb650)); have n3_ := Aside0.mk ((by rw [hg]; exact (below_size (bz HB)) : w.heap.size ≤ gb650)); clear HB; have HB := n0_; have BK650 := n1_; have GW650 := n2_; have GE650 := n3_; clear n0_ n1_ n2_ n3_; clear hb hbox hg; have hcz5_0 : w4.cell? ⟨gb650, 0, none⟩ = some (.slice A0_0 l0_0.length c0_0) := (blk_cell BK650.out 0).trans rfl; have hcz5_1 : w4.cell? ⟨gb650, 1, none⟩ = some (.slice A0_1 l0_1.length c0_1) := (blk_cell BK650.out 1).trans rfl; have hfz5_0 := blk_frozen BK650.out 0; have hfz5_1 := blk_frozen BK650.out 1) | ((with_reducible refine gate_callee (f := 65) rfl ?_); refine goesL_ (some 9) rfl rfl Try.func65 (by kernel_rfl) rfl #[.agg #[.slice A0_0 l0_0.length c0_0, .slice A0_1 l0_1.length c0_1]] rfl az ?_; (with_reducible refine (impl_bitsOf.calls k _ _ l0_0 _ _ l0_1 t651 _ ?side1 HC0_0.out ?side3 HC0_1.out A3.out).mono ?_); (case side1 => exact cz HR0_0 HB); (case side3 => exact cz HR0_1 HB); rintro e w6 ⟨v652, rfl, ho0, hb⟩; refine ⟨_, rfl, ?_⟩; have HO653 := Aside0.mk (Kd.R_lower ho0 (below_size (bz1 HB GE650))); replace BK650 := Aside0.mk (blk_below (g := gb650) (o := .cells #[.slice A0_0 l0_0.length c0_0, .slice A0_1 l0_1.length c0_1] 31 (0, 0)) (kz BK650) hb); replace HB := Aside0.mk (below_step (bz1 HB GE650) hb); clear hb; (try clear ho0); obtain ⟨Ao7, co7, eo7⟩ := Kd.R_slice HO653.out; subst eo7))
 go_loopg [5, 11] k (fun kq v5 v11 w' => ∃ (x5_1 : List Int) (x11_1 : Int), v11 = .int .i64 x11_1 ∧ Aside0 (impl_stateBits.l0 kq l1 x5_1 t651 (t651.length : Int) x11_1 l0_0 l0_1 = some r) ∧ Aside0 (kq ≤ k) ∧ Aside0 (Kd.R (Kd.int .i64) 3 w' w.heap.size (fun k_ => some k_ ≠ ((.slice Ao7 t651.length co7) : Value).ownBlock) v5 x5_1) ∧ Aside0 (Kd.R (Kd.int .i64) 3 w' w.heap.size (fun k_ => some k_ ≠ (v5 : Value).ownBlock) (.slice Ao7 t651.length co7) t651) ∧ Aside0 (w'.heap[gb650]? = some (.cells #[(.slice A0_0 l0_0.length c0_0), (.slice A0_1 l0_1.length c0_1)] 31 (0, 0))) ∧ Aside0 (Below w.heap.size w w'))
 case atStart => exact ⟨(([] : List Int)), (0), rq, H', ⟨Nat.le_refl _⟩, ⟨nz⟩, ⟨by (with_reducible repeat (first | apply Kd.R_alloc | apply Kd.R_drewN | apply Kd.R_drew)); exact Kd.R_mono HO653.out (fun _ hk => (by simp [Value.ownBlock]))⟩, ⟨kz BK650⟩, ⟨bz1 HB GE650⟩⟩
 case round =>
  clear H'
  try clear c1
  try clear p2
  try clear c6
  try clear c7
  try clear hcz5_0
  try clear hcz5_1
  try clear hfz5_0
  try clear hfz5_1
  obtain ⟨x5_1, x11_1, rfl, HA, HK1, HO_5, HO_9, BK650, HB⟩ := hrel
  cases gk with
  | zero => exact absurd HA.out (by simp [impl_stateBits.l0])
  | succ k1 =>
   have H := HA.out
   clear HA
   simp only [impl_stateBits.l0] at H
   by_cases c8 : x11_1 < (t651.length : Int)
   case neg =>
    rw [if_neg c8] at H
    have c8b0 : decide (x11_1 < (t651.length : Int)) = false := decide_eq_false c8
    clear c8
    replace H := Option.bind_eq_some_iff.mp H
    obtain ⟨t663, A190, H⟩ := H
    have A19 := Aside0.mk A190
    clear A190
    obtain rfl := Option.some.inj H
    obtain ⟨Ao20, co20, eo20⟩ := Kd.R_slice HO_5.out
    subst eo20
    go_wp2_with (first | ((with_reducible refine gate_callee (f := 101) rfl ?_); refine goesL_ (some 33) rfl rfl Try.func101 (by kernel_rfl) rfl #[.slice Ao20 x5_1.length co20] rfl az ?_; (with_reducible refine (impl_clone_int.calls _ _ x5_1 t663 _ ?side1 ?side2 A19.out).mono ?_); (case side1 => exact cz1 (Kd.R_reads' HO_5.out).2.2); (case side2 => exact (Kd.R_reads' HO_5.out).2.1); rintro e w21 ⟨v664, rfl, ho0, hb⟩; refine ⟨_, rfl, ?_⟩; have n0_ := Aside0.mk (Kd.R_elder' (ozR HO_5) (Kd.R_base ho0) hb); have n1_ := Aside0.mk (Kd.R_elder' (ozR HO_9) (Kd.R_base ho0) hb); have n2_ := Aside0.mk (Kd.R_lower (Kd.R_new' (Kd.R_new' ho0 (Kd.R_lt (ozR HO_5))) (Kd.R_lt (ozR HO_9))) (below_size (bz1 HB GE650))); have n3_ := Aside0.mk (blk_below (g := gb650) (o := .cells #[.slice A0_0 l0_0.length c0_0, .slice A0_1 l0_1.length c0_1] 31 (0, 0)) (kz BK650) hb); have n4_ := Aside0.mk (below_step (bz1 HB GE650) hb); clear HO_5; clear HO_9; clear BK650; clear HB; have HO_5 := n0_; have HO_9 := n1_; have HO665 := n2_; have BK650 := n3_; have HB := n4_; clear n0_ n1_ n2_ n3_ n4_; clear hb; (try clear ho0)))
    go_ret
    exact ⟨_, rz, by (with_reducible repeat (first | apply Kd.R_alloc | apply Kd.R_drewN | apply Kd.R_drew)); exact Kd.R_mono HO665.out (fun _ hk => trivial), bz1 HB GE650⟩
   rw [if_pos c8] at H
   have c8b0 : decide (x11_1 < (t651.length : Int)) = true := decide_eq_true c8
   clear c8
   by_cases c9 : 0 ≤ x11_1
   case neg =>
    rw [if_neg c9] at H
    exact absurd H (by simp)
   rw [if_pos c9] at H
   have c9b0 : decide (0 ≤ x11_1) = true := decide_eq_true c9
   clear c9
   by_cases c10 : x11_1 < (t651.length : Int)
   case neg =>
    rw [if_neg c10] at H
    exact absurd H (by simp)
   rw [if_pos c10] at H
   have c10b0 : decide (x11_1 < (t651.length : Int)) = true := decide_eq_true c10
   clear c10
   by_cases c11 : x11_1 < (l1.length : Int)
   case neg =>
    rw [if_neg c11] at H
    exact absurd H (by simp)
   rw [if_pos c11] at H
   have c11b0 : decide (x11_1 < (l1.length : Int)) = true := decide_eq_true c11
   clear c11
   by_cases c12 : x11_1 < (l0_0.length : Int)
   case neg =>
    rw [if_neg c12] at H
    exact absurd H (by simp)
   rw [if_pos c12] at H
   have c12b0 : decide (x11_1 < (l0_0.length : Int)) = true := decide_eq_true c12
   clear c12
   replace H := Option.bind_eq_some_iff.mp H
   obtain ⟨t657, A130, H⟩ := H
   have A13 := Aside0.mk A130
   clear A130
   by_cases c14 : x5_1.length + t657.length < 17592186044416
   case neg =>
    rw [if_neg c14] at H
    exact absurd H (by simp)
   rw [if_pos c14] at H
   have LMc14 := Aside0.mk c14
   clear c14
   obtain ⟨y660, hy660⟩ : ∃ y_ : List Int, y_ = (x5_1 ++ t657) := ⟨_, rfl⟩
   replace H : (impl_stateBits.l0 k1 l1 y660 t651 (t651.length : Int) (wrap64 (x11_1 + 1)) l0_0 l0_1) = some r := by first | (rw [hy660]; with_reducible exact H) | (have H2_ := (Option.bind_some _ _).symm.trans H; rw [hy660]; with_reducible exact H2_) | (have H2_ := (Option.bind_some _ _).symm.trans H; with_reducible exact H2_) | with_reducible exact H | (rw [hy660]; exact H) | exact H
   have Ny660 := Aside0.mk hy660
   clear hy660
   have H' := Aside0.mk H
   clear H
   have p654 : 0 ≤ (x11_1 : Int) := dz
   have q654 : x11_1 < (t651.length : Int) := dz
   obtain ⟨ad654, e654, hx654_0⟩ := Kd.at_int (Kd.R_reads' HO_9.out).2.2 x11_1 p654 q654
   cases e654
   replace p654 := eq_true p654
   replace q654 := eq_true q654
   try go_wp2
   have n0_ := Aside0.mk (Kd.R_drew HO_5.out)
   have n1_ := Aside0.mk (Kd.R_drew HO_9.out)
   have n2_ := Aside0.mk (blk_drew BK650.out)
   have n3_ := Aside0.mk (below_drew1 HB.out)
   clear HO_5
   clear HO_9
   clear BK650
   clear HB
   have HO_5 := n0_
   have HO_9 := n1_
   have BK650 := n2_
   have HB := n3_
   clear n0_ n1_ n2_ n3_
   have p655 : 0 ≤ (x11_1 : Int) := dz
   have q655 : x11_1 < (l1.length : Int) := dz
   obtain ⟨ad655, e655, hx655_0⟩ := Kd.at_int HR1.out x11_1 p655 q655
   have hw655_0 := hx655_0
   cases e655
   replace hx655_0 := xz HB hx655_0
   replace p655 := eq_true p655
   replace q655 := eq_true q655
   have p656 : 0 ≤ (x11_1 : Int) := dz
   have q656 : x11_1 < (l0_0.length : Int) := dz
   obtain ⟨ad656, e656, hx656_0, hx656_1, hx656_2⟩ := at_IVar HR0_0.out x11_1 p656 q656
   have hw656_2 := hx656_2
   have hw656_1 := hx656_1
   have hw656_0 := hx656_0
   cases e656
   replace hx656_0 := xz HB hx656_0
   replace hx656_1 := xz HB hx656_1
   replace hx656_2 := xz HB hx656_2
   replace p656 := eq_true p656
   replace q656 := eq_true q656
   refine start_ (n := 16) (S := fun w' => w'.cell? ⟨gb650, 0, none⟩ = some (.slice (some ad656) l0_0.length c0_0) ∧ w'.cell? ⟨gb650, 1, none⟩ = some (.slice A0_1 l0_1.length c0_1) ∧ w'.cell? (ad655.add (x11_1).toNat) = some (.int .i64 (rd l1 x11_1)) ∧ w'.cell? (ad656.add ((x11_1).toNat * 3)) = some (.int .i64 ((rd_IVar l0_0 x11_1).f0)) ∧ w'.cell? ⟨(ad656.add ((x11_1).toNat * 3)).block, (ad656.add ((x11_1).toNat * 3)).off + 1, none⟩ = some (.int .i64 ((rd_IVar l0_0 x11_1).f1)) ∧ w'.cell? ⟨(ad656.add ((x11_1).toNat * 3)).block, (ad656.add ((x11_1).toNat * 3)).off + 2, none⟩ = some (.int .i64 ((rd_IVar l0_0 x11_1).f2))) (ds := []) #[false, false, false, false, false, false, false, false, false, false, false, false, false, false, false, false] (by kernel_rfl) rfl rfl ⟨(blk_cell BK650.out 0).trans rfl, (blk_cell BK650.out 1).trans rfl, ((HB.out.cell (World.block_lt_of_cell? w _ hw655_0)).trans hw655_0), ((HB.out.cell (World.block_lt_of_cell? w _ hw656_0)).trans hw656_0), ((HB.out.cell (World.block_lt_of_cell? w _ hw656_1)).trans hw656_1), ((HB.out.cell (World.block_lt_of_cell? w _ hw656_2)).trans hw656_2)⟩ (fun hHeld => ?_); refine with_tabW impl_stateBits.tab5 impl_stateBits.bits5 (fun HT_ HW_ => ?_)
   generalize wr.drew = w15 at HO_5 HO_9 BK650 HB hx655_0 hx656_0 hx656_1 hx656_2 hHeld ⊢
   refine pure_ (i := 0) (N := some 16) (v := ?_) (a' := ?_) #[true, false, false, false, false, false, false, false, false, false, false, false, false, false, false, false] rfl rfl (any_of HT_.out (by kernel_rfl)) (fun _ _ _ h => h) (Or.inl ⟨by rfl, ?_⟩) ?_ ?_
   rotate_left
   ·
    intro w'
    go_simp
    with_reducible rfl
   rotate_left
   ·
    simp only [Act.put, sb_, sc0_, sc1_, i64_w, i32_w]
    rfl
   refine pure_ (i := 1) (N := some 17) (v := ?_) (a' := ?_) #[true, true, false, false, false, false, false, false, false, false, false, false, false, false, false, false] rfl rfl (any_of HT_.out (by kernel_rfl)) (fun _ _ _ h => h) (Or.inl ⟨by rfl, ?_⟩) ?_ ?_
   rotate_left
   ·
    intro w'
    go_simp
    with_reducible rfl
   rotate_left
   ·
    simp only [Act.put, sb_, sc0_, sc1_, i64_w, i32_w]
    rfl
   refine pure_ (i := 2) (N := some 18) (v := ?_) (a' := ?_) #[true, true, true, false, false, false, false, false, false, false, false, false, false, false, false, false] rfl rfl (any_of HT_.out (by kernel_rfl)) (fun _ _ _ h => h) (Or.inl ⟨by rfl, ?_⟩) ?_ ?_
   rotate_left
   ·
    intro w'
    go_simp
    with_reducible rfl
   rotate_left
   ·
    simp only [Act.put, sb_, sc0_, sc1_, i64_w, i32_w]
    rfl
   refine pure_ (i := 3) (N := some 19) (v := ?_) (a' := ?_) #[true, true, true, true, false, false, false, false, false, false, false, false, false, false, false, false] rfl rfl (any_of HT_.out (by kernel_rfl)) (fun _ _ _ h => h) (Or.inl ⟨by rfl, ?_⟩) ?_ ?_
   rotate_left
   ·
    intro w'
    go_simp
    with_reducible rfl
   rotate_left
   ·
    simp only [Act.put, sb_, sc0_, sc1_, i64_w, i32_w]
    rfl
   refine pure_ (i := 5) (N := some 21) (v := ?_) (a' := ?_) #[true, true, true, true, false, true, false, false, false, false, false, false, false, false, false, false] rfl rfl (any_of HT_.out (by kernel_rfl)) (fun _ _ _ h => h) (Or.inl ⟨by rfl, ?_⟩) ?_ ?_
   rotate_left
   ·
    intro w'
    go_simp
    with_reducible rfl
   rotate_left
   ·
    simp only [Act.put, sb_, sc0_, sc1_, i64_w, i32_w]
    rfl
   refine pure_ (i := 7) (N := some 23) (v := ?_) (a' := ?_) #[true, true, true, true, false, true, false, true, false, false, false, false, false, false, false, false] rfl rfl (any_of HT_.out (by kernel_rfl)) (fun _ _ _ h => h) (Or.inl ⟨by rfl, ?_⟩) ?_ ?_
   rotate_left
   ·
    intro w'
    go_simp
    with_reducible rfl
   rotate_left
   ·
    simp only [Act.put, sb_, sc0_, sc1_, i64_w, i32_w]
    rfl
   refine pure_ (i := 12) (N := some 28) (v := ?_) (a' := ?_) #[true, true, true, true, false, true, false, true, false, false, false, false, true, false, false, false] rfl rfl (any_of HT_.out (by kernel_rfl)) (fun _ _ _ h => h) (Or.inl ⟨by rfl, ?_⟩) ?_ ?_
   rotate_left
   ·
    intro w'
    go_simp
    with_reducible rfl
   rotate_left
   ·
    simp only [Act.put, sb_, sc0_, sc1_, i64_w, i32_w]
    rfl
   refine take_ (i := 4) (N := some 20) (v := ?_) (a' := ?_) #[true, true, true, true, true, true, false, true, false, false, false, false, true, false, false, false] rfl rfl (take_ofW HT_.out HW_.out (by kernel_rfl)) (fun _ _ _ h => h) (Or.inl ⟨by rfl, ?_⟩) hHeld ?_ ?_
   rotate_left
   ·
    rintro w' ⟨s0, s1, s2, s3, s4, s5⟩
    go_simp
    with_reducible rfl
   rotate_left
   ·
    simp only [Act.put, sb_, sc0_, sc1_, i64_w, i32_w]
    rfl
   refine take_ (i := 6) (N := some 22) (v := ?_) (a' := ?_) #[true, true, true, true, true, true, true, true, false, false, false, false, true, false, false, false] rfl rfl (take_ofW HT_.out HW_.out (by kernel_rfl)) (fun _ _ _ h => h) (Or.inl ⟨by rfl, ?_⟩) hHeld ?_ ?_
   rotate_left
   ·
    rintro w' ⟨s0, s1, s2, s3, s4, s5⟩
    go_simp
    with_reducible rfl
   rotate_left
   ·
    simp only [Act.put, sb_, sc0_, sc1_, i64_w, i32_w]
    rfl
   refine pure_ (i := 8) (N := some 24) (v := ?_) (a' := ?_) #[true, true, true, true, true, true, true, true, true, false, false, false, true, false, false, false] rfl rfl (any_of HT_.out (by kernel_rfl)) (fun _ _ _ h => h) (Or.inl ⟨by rfl, ?_⟩) ?_ ?_
   rotate_left
   ·
    intro w'
    go_simp
    with_reducible rfl
   rotate_left
   ·
    simp only [Act.put, sb_, sc0_, sc1_, i64_w, i32_w]
    rfl
   refine pure_ (i := 9) (N := some 25) (v := ?_) (a' := ?_) #[true, true, true, true, true, true, true, true, true, true, false, false, true, false, false, false] rfl rfl (any_of HT_.out (by kernel_rfl)) (fun _ _ _ h => h) (Or.inl ⟨by rfl, ?_⟩) ?_ ?_
   rotate_left
   ·
    intro w'
    go_simp
    with_reducible rfl
   rotate_left
   ·
    simp only [Act.put, sb_, sc0_, sc1_, i64_w, i32_w]
    rfl
   refine take_ (i := 10) (N := some 26) (v := ?_) (a' := ?_) #[true, true, true, true, true, true, true, true, true, true, true, false, true, false, false, false] rfl rfl (take_ofW HT_.out HW_.out (by kernel_rfl)) (fun _ _ _ h => h) (Or.inl ⟨by rfl, ?_⟩) hHeld ?_ ?_
   rotate_left
   ·
    rintro w' ⟨s0, s1, s2, s3, s4, s5⟩
    go_simp
    with_reducible rfl
   rotate_left
   ·
    simp only [Act.put, sb_, sc0_, sc1_, i64_w, i32_w]
    rfl
   refine pure_ (i := 11) (N := some 27) (v := ?_) (a' := ?_) #[true, true, true, true, true, true, true, true, true, true, true, true, true, false, false, false] rfl rfl (any_of HT_.out (by kernel_rfl)) (fun _ _ _ h => h) (Or.inl ⟨by rfl, ?_⟩) ?_ ?_
   rotate_left
   ·
    intro w'
    go_simp
    with_reducible rfl
   rotate_left
   ·
    simp only [Act.put, sb_, sc0_, sc1_, i64_w, i32_w]
    rfl
   refine one_ (i := 13) (N := some 29) #[true, true, true, true, true, true, true, true, true, true, true, true, true, true, false, false] rfl rfl (one_of HT_.out (by kernel_rfl)) (by decide) (fun K hK => ?_)
   refine goes_ Try.func107 (by kernel_rfl) rfl #[.int .i64 (wrap64 ((rd l1 x11_1) - ((rd_IVar l0_0 x11_1).f0))), .int .i64 (rd t651 x11_1)] (by rfl) rfl rfl az ?_
   with_reducible refine (impl_valueBits.calls k1 (wrap64 ((rd l1 x11_1) - ((rd_IVar l0_0 x11_1).f0))) (rd t651 x11_1) t657 _ A13.out).mono ?_
   rintro e w16 ⟨v658, rfl, ho0, hb⟩
   refine ⟨_, rfl, ?_⟩
   have n0_ := Aside0.mk (Kd.R_elder' (ozR HO_5) (Kd.R_base ho0) hb)
   have n1_ := Aside0.mk (Kd.R_elder' (ozR HO_9) (Kd.R_base ho0) hb)
   have n2_ := Aside0.mk (Kd.R_lower (Kd.R_new' (Kd.R_new' ho0 (Kd.R_lt (ozR HO_5))) (Kd.R_lt (ozR HO_9))) (below_size (bz1 HB GE650)))
   have n3_ := Aside0.mk (blk_below (g := gb650) (o := .cells #[.slice (some ad656) l0_0.length c0_0, .slice A0_1 l0_1.length c0_1] 31 (0, 0)) (kz BK650) hb)
   have n4_ := Aside0.mk (below_step (bz1 HB GE650) hb)
   clear HO_5
   clear HO_9
   clear BK650
   clear HB
   have HO_5 := n0_
   have HO_9 := n1_
   have HO659 := n2_
   have BK650 := n3_
   have HB := n4_
   clear n0_ n1_ n2_ n3_ n4_
   (try clear hb)
   (try clear hb2)
   (try clear hk)
   (try clear hi)
   (try clear ho0)
   obtain ⟨Ao18, co18, eo18⟩ := Kd.R_slice HO659.out
   (first | subst eo18 | (injection eo18 with f1_ f2_ f3_; have f4_ := f1_.symm; have f5_ := f3_.symm; clear f1_ f2_ f3_; subst f4_; subst f5_))
   refine hK.out _ _ ⟨(blk_cell BK650.out 0).trans rfl, (blk_cell BK650.out 1).trans rfl, ((HB.out.cell (World.block_lt_of_cell? w _ hw655_0)).trans hw655_0), ((HB.out.cell (World.block_lt_of_cell? w _ hw656_0)).trans hw656_0), ((HB.out.cell (World.block_lt_of_cell? w _ hw656_1)).trans hw656_1), ((HB.out.cell (World.block_lt_of_cell? w _ hw656_2)).trans hw656_2)⟩ (fun hHeld => ?_)
   clear hK K
   refine norm_ (a' := ?_) ?_ ?_
   rotate_left
   ·
    show Act.put _ (some 29) _ = _
    simp only [Act.put, sb_, sc0_, sc1_, i64_w, i32_w]
    rfl
   refine one_ (i := 14) (N := some 30) #[true, true, true, true, true, true, true, true, true, true, true, true, true, true, true, false] rfl rfl (one_of HT_.out (by kernel_rfl)) (by decide) (fun K hK => ?_)
   refine Kd.R_append_rows_step (Kd.int .i64) (w0 := w) w.heap.size (by rfl) (.tmp 16) (.tmp 29) 35 3 (.int .i64 0) 8 rfl Try.underlying35 info3 rfl (by decide) (by omega) u5 x5_1 t657 _ _ _ (fun k_ => some k_ ≠ (.slice (some ad654) t651.length co7 : Value).ownBlock ∧ some k_ ≠ (.slice Ao18 t657.length co18 : Value).ownBlock) (fun _ => False) rfl rfl ?aO ?aR (fun _ _ h => h) (fun _ h => h.elim) ?aF ?aB ?aS ?aL ?_
   (case aR => exact cz1 (Kd.R_reads' HO659.out).2.2)
   (case aB => exact (bz1 HB GE650))
   (case aF => exact (fun k_ hk => ⟨Kd.fresh' (Kd.R_lt (ozR HO_9)) k_ hk, Kd.fresh' (Kd.R_lt (ozR HO659)) k_ hk⟩))
   (case aO => exact (ozR HO_5))
   (case aS => exact (below_size (bz1 HB GE650)))
   (case aL => have := LMc14.out; omega)
   intro v661 w17 ho hb hg hat
   rw [← Ny660.out] at ho
   have n0_ := Aside0.mk (Kd.R_after (ok := (fun k_ => some k_ ≠ (.slice Ao18 t657.length co18 : Value).ownBlock)) (by (with_reducible repeat (first | apply Kd.R_alloc | apply Kd.R_drewN | apply Kd.R_drew)); exact Kd.R_mono HO_9.out (fun _ hk => ⟨hk.2, hk.1⟩)) hg hat)
   have n1_ := Aside0.mk (blk_grown (g := gb650) (o := .cells #[.slice (some ad656) l0_0.length c0_0, .slice A0_1 l0_1.length c0_1] 31 (0, 0)) (kz BK650) hg (Kd.R_ne HO_5.out BK650.out (by decide)))
   have n2_ := Aside0.mk (Kd.R_after (ok := (fun k_ => some k_ ≠ (.slice (some ad654) t651.length co7 : Value).ownBlock)) (by (with_reducible repeat (first | apply Kd.R_alloc | apply Kd.R_drewN | apply Kd.R_drew)); exact Kd.R_mono HO659.out (fun _ hk => ⟨hk.2, hk.1.2⟩)) hg hat)
   have n3_ := Aside0.mk (hb)
   have n4_ := Aside0.mk (ho)
   clear HO_9
   clear BK650
   clear HO659
   clear HB
   clear HO_5
   have HO_9 := n0_
   have BK650 := n1_
   have HO659 := n2_
   have HB := n3_
   have HO662 := n4_
   clear n0_ n1_ n2_ n3_ n4_
   clear ho hb hg hat
   refine hK.out _ _ ⟨(blk_cell BK650.out 0).trans rfl, (blk_cell BK650.out 1).trans rfl, ((HB.out.cell (World.block_lt_of_cell? w _ hw655_0)).trans hw655_0), ((HB.out.cell (World.block_lt_of_cell? w _ hw656_0)).trans hw656_0), ((HB.out.cell (World.block_lt_of_cell? w _ hw656_1)).trans hw656_1), ((HB.out.cell (World.block_lt_of_cell? w _ hw656_2)).trans hw656_2)⟩ (fun hHeld => ?_)
   clear hK K
   refine norm_ (a' := ?_) ?_ ?_
   rotate_left
   ·
    show Act.put _ (some 30) _ = _
    simp only [Act.put, sb_, sc0_, sc1_, i64_w, i32_w]
    rfl
   refine pure_ (i := 15) (N := some 5) (v := ?_) (a' := ?_) #[true, true, true, true, true, true, true, true, true, true, true, true, true, true, true, true] rfl rfl (any_of HT_.out (by kernel_rfl)) (fun _ _ _ h => h) (Or.inl ⟨by rfl, ?_⟩) ?_ ?_
   rotate_left
   ·
    intro w'
    go_simp
    with_reducible rfl
   rotate_left
   ·
    simp only [Act.put, sb_, sc0_, sc1_, i64_w, i32_w]
    rfl
   refine done_ (done_of HT_.out (by kernel_rfl)) ?_
   try go_wp2
   go_roundg k1
   case measure => have := HK1.out; omega
   case rel => exact ⟨(y660), (wrap64 (x11_1 + 1)), rq, H', ⟨by have := HK1.out; omega⟩, ⟨by (with_reducible repeat (first | apply Kd.R_alloc | apply Kd.R_drewN | apply Kd.R_drew)); exact Kd.R_mono HO662.out (fun _ hk => hk.1)⟩, ⟨by (with_reducible repeat (first | apply Kd.R_alloc | apply Kd.R_drewN | apply Kd.R_drew)); exact Kd.R_mono HO_9.out (fun _ hk => hk.2)⟩, ⟨kz BK650⟩, ⟨bz1 HB GE650⟩⟩
end Go.Proofs.Ytoofhjflfpccdaa.PA
end
section
namespace Go.Proofs.Ytoofhjflfpccdaa.PA
open Go.RowKit Go.Proofs.YtoofhjflfpccdaaW.PrintWords Go.Proofs.YtoofhjflfpccdaaW.PrintLast Go.Proofs.YtoofhjflfpccdaaW.PrintMore
attribute [local go_sem] max2_int min2_int max_two min_two max_three min_three max_four min_four   -- for this text's walks alone
set_option linter.unusedVariables false
set_option linter.unusedSimpArgs false
set_option maxHeartbeats 8000000 in
set_option maxRecDepth 100000 in
theorem impl_bit.calls (a0 : Bool) (r : Int) (w : World) (h : impl_bit.f a0 = some r) :
  Calls Try.prog 76 #[.bool a0] w fun e w' => e = .returned (.int .i64 r) ∧ Drawn0 w w' := by
 have H : (if a0 = true then (some 1) else (some 0)) = some r := h
 clear h
 by_cases c2 : a0 = true
 case pos =>
  subst c2
  rw [if_pos rfl] at H
  obtain rfl := Option.some.inj H
  go_enter Try.func76, Try.ntmps76
  go_wp2
  go_ret
  exact ⟨by first | rfl | (simp; done) | (simp [*]; done), by repeat (first | exact Drawn0.refl _ | apply Drawn0.step)⟩
 replace c2 := Bool.eq_false_iff.mpr c2
 subst c2
 rw [if_neg nt_] at H
 obtain rfl := Option.some.inj H
 go_enter Try.func76, Try.ntmps76
 go_wp2
 go_ret
 exact ⟨by first | rfl | (simp; done) | (simp [*]; done), by repeat (first | exact Drawn0.refl _ | apply Drawn0.step)⟩
end Go.Proofs.Ytoofhjflfpccdaa.PA
end
section
namespace Go.Proofs.Ytoofhjflfpccdaa.PA
open Go.RowKit Go.Proofs.YtoofhjflfpccdaaW.PrintWords Go.Proofs.YtoofhjflfpccdaaW.PrintLast Go.Proofs.YtoofhjflfpccdaaW.PrintMore
attribute [local go_sem] max2_int min2_int max_two min_two max_three min_three max_four min_four   -- for this text's walks alone
set_option linter.unusedVariables false
set_option linter.unusedSimpArgs false
set_option maxHeartbeats 8000000 in
set_option maxRecDepth 100000 in
theorem impl_ApartBits.calls (k : Nat) (A0_0 : Option Addr) (c0_0 : Nat) (l0_0 : List (IVar)) (A0_1 : Option Addr) (c0_1 : Nat) (l0_1 : List (IRule)) (A1 : Option Addr) (c1 : Nat) (l1 : List Int) (A2 : Option Addr) (c2 : Nat) (l2 : List Int) (r : Int) (w : World) (hr0_0 : Kd.C k62 w A0_0 l0_0.length l0_0) (hc0_0 : l0_0.length ≤ c0_0) (hr0_1 : Kd.C k81 w A0_1 l0_1.length l0_1) (hc0_1 : l0_1.length ≤ c0_1) (hr1 : Kd.C (Kd.int .i64) w A1 l1.length l1) (hc1 : l1.length ≤ c1) (hr2 : Kd.C (Kd.int .i64) w A2 l2.length l2) (hc2 : l2.length ≤ c2) (h : impl_ApartBits.f k l0_0 l0_1 l1 l2 = some r) :
  Calls Try.prog 34 #[.agg #[.slice A0_0 l0_0.length c0_0, .slice A0_1 l0_1.length c0_1], .slice A1 l1.length c1, .slice A2 l2.length c2] w fun e w' => e = .returned (.int .i64 r) ∧ Below w.heap.size w w' := by
 have hu31 := Try.underlying31
 have HR0_0 := Aside0.mk hr0_0
 have HC0_0 := Aside0.mk hc0_0
 clear hr0_0 hc0_0
 have HR0_1 := Aside0.mk hr0_1
 have HC0_1 := Aside0.mk hc0_1
 clear hr0_1 hc0_1
 have HR1 := Aside0.mk hr1
 have HC1 := Aside0.mk hc1
 clear hr1 hc1
 have HR2 := Aside0.mk hr2
 have HC2 := Aside0.mk hc2
 clear hr2 hc2
 have HB := Aside0.mk (Below.refl w.heap.size w)
 have H : ((impl_InRange.f k l0_0 l0_1 l1).bind fun t667 => (if t667 = true then ((impl_inRange.f k l0_0 l0_1 l2).bind fun t668 => (impl_ApartBits.j0 k l1 l2 (!t668) l0_0 l0_1)) else (impl_ApartBits.j0 k l1 l2 true l0_0 l0_1))) = some r := h
 clear h
 have HC4 := Aside0.mk H
 clear H
 go_enter Try.func34, Try.ntmps34
 go_upto_region 1 with (first | ((with_reducible refine gate_dst (N := 3) rfl ?_); refine box_event ?hg (N := 3) ?hd (cs := #[.slice A0_0 l0_0.length c0_0, .slice A0_1 l0_1.length c0_1]) (t := 31) ?hr ?_; (case hd => rfl); (case hg => rfl); (case hr => first | (go_simp; done) | (go_simp; rfl)); intro gb666 hg w5 hbox hb; have n0_ := Aside0.mk (below_step (bz HB) hb); have n1_ := Aside0.mk (hbox); have n2_ := Aside0.mk ((by rw [hg]; exact (below_size (bz HB)) : w.heap.size ≤ gb666)); have n3_ := Aside0.mk ((by rw [hg]; exact (below_size (bz HB)) : w.heap.size ≤ gb666)); clear HB; have HB := n0_; have BK666 := n1_; have GW666 := n2_; have GE666 := n3_; clear n0_ n1_ n2_ n3_; clear hb hbox hg))
 (try simp only [Act.put, sb_, sc0_, sc1_])
 go_cut [20] (fun v20 wc => ∃ (kq : Nat) (x20_3 : Bool), v20 = .bool x20_3 ∧ Aside0 (impl_ApartBits.j0 kq l1 l2 x20_3 l0_0 l0_1 = some r) ∧ Aside0 (kq ≤ k) ∧ Aside0 (wc.heap[gb666]? = some (.cells #[(.slice A0_0 l0_0.length c0_0), (.slice A0_1 l0_1.length c0_1)] 31 (0, 0))) ∧ Aside0 (Below w.heap.size w wc))
 case first =>
  have H := HC4.out
  clear HC4
  replace H := Option.bind_eq_some_iff.mp H
  obtain ⟨t667, A60, H⟩ := H
  have A6 := Aside0.mk A60
  clear A60
  by_cases c7 : t667 = true
  case neg =>
   replace c7 := Bool.eq_false_iff.mpr c7
   subst c7
   rw [if_neg nt_] at H
   have H' := Aside0.mk H
   clear H
   have hcz13_0 : w5.cell? ⟨gb666, 0, none⟩ = some (.slice A0_0 l0_0.length c0_0) := (blk_cell BK666.out 0).trans rfl
   have hcz13_1 : w5.cell? ⟨gb666, 1, none⟩ = some (.slice A0_1 l0_1.length c0_1) := (blk_cell BK666.out 1).trans rfl
   have hfz13_0 := blk_frozen BK666.out 0
   have hfz13_1 := blk_frozen BK666.out 1
   go_wp2_with (first | ((with_reducible refine gate_callee (f := 63) rfl ?_); refine goesL_ (some 13) rfl rfl Try.func63 (by kernel_rfl) rfl #[.agg #[.slice A0_0 l0_0.length c0_0, .slice A0_1 l0_1.length c0_1], .slice A1 l1.length c1] rfl az ?_; (with_reducible refine (impl_InRange.calls k _ _ l0_0 _ _ l0_1 _ _ l1 false _ ?side1 HC0_0.out ?side3 HC0_1.out ?side5 HC1.out A6.out).mono ?_); (case side1 => exact cz HR0_0 HB); (case side3 => exact cz HR0_1 HB); (case side5 => exact cz HR1 HB); rintro e w14 ⟨rfl, hb⟩; refine ⟨_, rfl, ?_⟩; replace BK666 := Aside0.mk (blk_below (g := gb666) (o := .cells #[.slice A0_0 l0_0.length c0_0, .slice A0_1 l0_1.length c0_1] 31 (0, 0)) (kz BK666) hb); replace HB := Aside0.mk (below_step (bz1 HB GE666) hb); clear hb))
   go_meet
   case rel => exact ⟨_, (true), rq, H', ⟨by first | omega | exact Nat.le_refl _⟩, ⟨kz BK666⟩, ⟨bz1 HB GE666⟩⟩
  subst c7
  rw [if_pos rfl] at H
  replace H := Option.bind_eq_some_iff.mp H
  obtain ⟨t668, A80, H⟩ := H
  have A8 := Aside0.mk A80
  clear A80
  have H' := Aside0.mk H
  clear H
  have hcz9_0 : w5.cell? ⟨gb666, 0, none⟩ = some (.slice A0_0 l0_0.length c0_0) := (blk_cell BK666.out 0).trans rfl
  have hcz9_1 : w5.cell? ⟨gb666, 1, none⟩ = some (.slice A0_1 l0_1.length c0_1) := (blk_cell BK666.out 1).trans rfl
  have hfz9_0 := blk_frozen BK666.out 0
  have hfz9_1 := blk_frozen BK666.out 1
  go_wp2_with (first | ((with_reducible refine gate_callee (f := 63) rfl ?_); refine goesL_ (some 13) rfl rfl Try.func63 (by kernel_rfl) rfl #[.agg #[.slice A0_0 l0_0.length c0_0, .slice A0_1 l0_1.length c0_1], .slice A1 l1.length c1] rfl az ?_; (with_reducible refine (impl_InRange.calls k _ _ l0_0 _ _ l0_1 _ _ l1 true _ ?side1 ?side2 ?side3 ?side4 ?side5 ?side6 A6.out).mono ?_); (case side1 => exact cz HR0_0 HB); (case side2 => exact HC0_0.out); (case side3 => exact cz HR0_1 HB); (case side4 => exact HC0_1.out); (case side5 => exact cz HR1 HB); (case side6 => exact HC1.out); rintro e w10 ⟨rfl, hb⟩; refine ⟨_, rfl, ?_⟩; replace BK666 := Aside0.mk (blk_below (g := gb666) (o := .cells #[.slice A0_0 l0_0.length c0_0, .slice A0_1 l0_1.length c0_1] 31 (0, 0)) (kz BK666) hb); replace HB := Aside0.mk (below_step (bz1 HB GE666) hb); clear hb; have hcz11_0 : w10.cell? ⟨gb666, 0, none⟩ = some (.slice A0_0 l0_0.length c0_0) := (blk_cell BK666.out 0).trans rfl; have hcz11_1 : w10.cell? ⟨gb666, 1, none⟩ = some (.slice A0_1 l0_1.length c0_1) := (blk_cell BK666.out 1).trans rfl; have hfz11_0 := blk_frozen BK666.out 0; have hfz11_1 := blk_frozen BK666.out 1) | (go_at_call 74; (with_reducible refine (impl_inRange.calls k _ _ l0_0 _ _ l0_1 _ _ l2 t668 _ ?side1 ?side2 ?side3 ?side4 ?side5 ?side6 A8.out).mono ?_); (case side1 => exact cz HR0_0 HB); (case side2 => exact HC0_0.out); (case side3 => exact cz HR0_1 HB); (case side4 => exact HC0_1.out); (case side5 => exact cz HR2 HB); (case side6 => exact HC2.out); rintro e w12 ⟨rfl, hb⟩; replace BK666 := Aside0.mk (blk_below (g := gb666) (o := .cells #[.slice A0_0 l0_0.length c0_0, .slice A0_1 l0_1.length c0_1] 31 (0, 0)) (kz BK666) hb); replace HB := Aside0.mk (below_step (bz1 HB GE666) hb); clear hb))
  go_meet
  case rel => exact ⟨_, (!t668), rq, H', ⟨by first | omega | exact Nat.le_refl _⟩, ⟨kz BK666⟩, ⟨bz1 HB GE666⟩⟩
 case rest =>
  clear HC4
  try clear c1
  try clear c2
  try clear p2
  try clear c3
  try clear c6
  try clear c7
  try clear hcz11_0
  try clear hcz11_1
  try clear hcz13_0
  try clear hcz13_1
  try clear hcz9_0
  try clear hcz9_1
  try clear hfz11_0
  try clear hfz11_1
  try clear hfz13_0
  try clear hfz13_1
  try clear hfz9_0
  try clear hfz9_1
  obtain ⟨kq, x20_3, rfl, HA, HJ3, BK666, HB⟩ := hcut
  cases kq with
  | zero => exact absurd HA.out (by simp [impl_ApartBits.j0])
  | succ kj3 =>
   have H := HA.out
   clear HA
   simp only [impl_ApartBits.j0] at H
   by_cases c15 : x20_3 = true
   case pos =>
    subst c15
    rw [if_pos rfl] at H
    obtain rfl := Option.some.inj H
    go_wp2
    go_ret
    exact ⟨rz, bz1 HB GE666⟩
   replace c15 := Bool.eq_false_iff.mpr c15
   subst c15
   rw [if_neg nt_] at H
   replace H := Option.bind_eq_some_iff.mp H
   obtain ⟨t669, A160, H⟩ := H
   have A16 := Aside0.mk A160
   clear A160
   replace H := Option.bind_eq_some_iff.mp H
   obtain ⟨t672, A170, H⟩ := H
   have A17 := Aside0.mk A170
   clear A170
   have H' := Aside0.mk H
   clear H
   have hcz18_0 : wc.cell? ⟨gb666, 0, none⟩ = some (.slice A0_0 l0_0.length c0_0) := (blk_cell BK666.out 0).trans rfl
   have hcz18_1 : wc.cell? ⟨gb666, 1, none⟩ = some (.slice A0_1 l0_1.length c0_1) := (blk_cell BK666.out 1).trans rfl
   have hfz18_0 := blk_frozen BK666.out 0
   have hfz18_1 := blk_frozen BK666.out 1
   go_wp2_with (first | ((with_reducible refine gate_callee (f := 75) rfl ?_); refine goesL_ (some 23) rfl rfl Try.func75 (by kernel_rfl) rfl #[.agg #[.slice A0_0 l0_0.length c0_0, .slice A0_1 l0_1.length c0_1], .slice A2 l2.length c2] rfl az ?_; (with_reducible refine (impl_stateBits.calls kj3 _ _ l0_0 _ _ l0_1 _ _ l2 t669 _ ?side1 HC0_0.out ?side3 HC0_1.out ?side5 HC2.out A16.out).mono ?_); (case side1 => exact cz HR0_0 HB); (case side3 => exact cz HR0_1 HB); (case side5 => exact cz HR2 HB); rintro e w19 ⟨v670, rfl, ho0, hb⟩; refine ⟨_, rfl, ?_⟩; have HO671 := Aside0.mk (Kd.R_lower ho0 (below_size (bz1 HB GE666))); replace BK666 := Aside0.mk (blk_below (g := gb666) (o := .cells #[.slice A0_0 l0_0.length c0_0, .slice A0_1 l0_1.length c0_1] 31 (0, 0)) (kz BK666) hb); replace HB := Aside0.mk (below_step (bz1 HB GE666) hb); clear hb; (try clear ho0); have hcz20_0 : w19.cell? ⟨gb666, 0, none⟩ = some (.slice A0_0 l0_0.length c0_0) := (blk_cell BK666.out 0).trans rfl; have hcz20_1 : w19.cell? ⟨gb666, 1, none⟩ = some (.slice A0_1 l0_1.length c0_1) := (blk_cell BK666.out 1).trans rfl; have hfz20_0 := blk_frozen BK666.out 0; have hfz20_1 := blk_frozen BK666.out 1) | ((with_reducible refine gate_callee (f := 75) rfl ?_); refine goesL_ (some 26) rfl rfl Try.func75 (by kernel_rfl) rfl #[.agg #[.slice A0_0 l0_0.length c0_0, .slice A0_1 l0_1.length c0_1], .slice A1 l1.length c1] rfl az ?_; (with_reducible refine (impl_stateBits.calls kj3 _ _ l0_0 _ _ l0_1 _ _ l1 t672 _ ?side1 HC0_0.out ?side3 HC0_1.out ?side5 HC1.out A17.out).mono ?_); (case side1 => exact cz HR0_0 HB); (case side3 => exact cz HR0_1 HB); (case side5 => exact cz HR1 HB); rintro e w21 ⟨v673, rfl, ho0, hb⟩; refine ⟨_, rfl, ?_⟩; have n0_ := Aside0.mk (Kd.R_elder' (ozR HO671) (Kd.R_base ho0) hb); have n1_ := Aside0.mk (Kd.R_lower (Kd.R_new' ho0 (Kd.R_lt (ozR HO671))) (below_size (bz1 HB GE666))); have n2_ := Aside0.mk (blk_below (g := gb666) (o := .cells #[.slice A0_0 l0_0.length c0_0, .slice A0_1 l0_1.length c0_1] 31 (0, 0)) (kz BK666) hb); have n3_ := Aside0.mk (below_step (bz1 HB GE666) hb); clear HO671; clear BK666; clear HB; have HO671 := n0_; have HO674 := n1_; have BK666 := n2_; have HB := n3_; clear n0_ n1_ n2_ n3_; clear hb; (try clear ho0); obtain ⟨Ao22, co22, eo22⟩ := Kd.R_slice HO674.out; subst eo22))
   go_loopg [7, 28] kj3 (fun kq v7 v28 w' => ∃ (x7_2 : Int) (x28_2 : Int), v7 = .int .i64 x7_2 ∧ v28 = .int .i64 x28_2 ∧ Aside0 (impl_ApartBits.l0 kq x7_2 t669 t672 (t672.length : Int) x28_2 = some r) ∧ Aside0 (kq ≤ kj3) ∧ Aside0 (Kd.R (Kd.int .i64) 3 w' w.heap.size (fun k_ => some k_ ≠ ((.slice Ao22 t672.length co22) : Value).ownBlock) v670 t669) ∧ Aside0 (Kd.R (Kd.int .i64) 3 w' w.heap.size (fun k_ => some k_ ≠ (v670 : Value).ownBlock) (.slice Ao22 t672.length co22) t672) ∧ Aside0 (w'.heap[gb666]? = some (.cells #[(.slice A0_0 l0_0.length c0_0), (.slice A0_1 l0_1.length c0_1)] 31 (0, 0))) ∧ Aside0 (Below w.heap.size w w'))
   case atStart => exact ⟨(0), (0), rq, rq, H', ⟨Nat.le_refl _⟩, ⟨by (with_reducible repeat (first | apply Kd.R_alloc | apply Kd.R_drewN | apply Kd.R_drew)); exact Kd.R_mono HO671.out (fun _ hk => hk.2)⟩, ⟨by (with_reducible repeat (first | apply Kd.R_alloc | apply Kd.R_drewN | apply Kd.R_drew)); exact Kd.R_mono HO674.out (fun _ hk => hk.2)⟩, ⟨kz BK666⟩, ⟨bz1 HB GE666⟩⟩
   case round =>
    clear H'
    try clear c1
    try clear c2
    try clear p2
    try clear c3
    try clear c6
    try clear c7
    try clear c15
    try clear hcz11_0
    try clear hcz11_1
    try clear hcz13_0
    try clear hcz13_1
    try clear hcz18_0
    try clear hcz18_1
    try clear hcz20_0
    try clear hcz20_1
    try clear hcz9_0
    try clear hcz9_1
    try clear hfz11_0
    try clear hfz11_1
    try clear hfz13_0
    try clear hfz13_1
    try clear hfz18_0
    try clear hfz18_1
    try clear hfz20_0
    try clear hfz20_1
    try clear hfz9_0
    try clear hfz9_1
    try clear p2
    obtain ⟨x7_2, x28_2, rfl, rfl, HA, HK2, HO_8, HO_26, BK666, HB⟩ := hrel
    cases gk with
    | zero => exact absurd HA.out (by simp [impl_ApartBits.l0])
    | succ k2 =>
     have H := HA.out
     clear HA
     simp only [impl_ApartBits.l0] at H
     by_cases c23 : x28_2 < (t672.length : Int)
     case neg =>
      rw [if_neg c23] at H
      have c23b0 : decide (x28_2 < (t672.length : Int)) = false := decide_eq_false c23
      clear c23
      obtain rfl := Option.some.inj H
      go_wp2
      go_ret
      exact ⟨rz, bz1 HB GE666⟩
     rw [if_pos c23] at H
     have c23b0 : decide (x28_2 < (t672.length : Int)) = true := decide_eq_true c23
     clear c23
     by_cases c24 : 0 ≤ x28_2
     case neg =>
      rw [if_neg c24] at H
      exact absurd H (by simp)
     rw [if_pos c24] at H
     have c24b0 : decide (0 ≤ x28_2) = true := decide_eq_true c24
     clear c24
     by_cases c25 : x28_2 < (t672.length : Int)
     case neg =>
      rw [if_neg c25] at H
      exact absurd H (by simp)
     rw [if_pos c25] at H
     have c25b0 : decide (x28_2 < (t672.length : Int)) = true := decide_eq_true c25
     clear c25
     by_cases c26 : x28_2 < (t669.length : Int)
     case neg =>
      rw [if_neg c26] at H
      exact absurd H (by simp)
     rw [if_pos c26] at H
     have c26b0 : decide (x28_2 < (t669.length : Int)) = true := decide_eq_true c26
     clear c26
     replace H := Option.bind_eq_some_iff.mp H
     obtain ⟨t677, A270, H⟩ := H
     have A27 := Aside0.mk A270
     clear A270
     have H' := Aside0.mk H
     clear H
     have p675 : 0 ≤ (x28_2 : Int) := dz
     have q675 : x28_2 < (t672.length : Int) := dz
     obtain ⟨ad675, e675, hx675_0⟩ := Kd.at_int (Kd.R_reads' HO_26.out).2.2 x28_2 p675 q675
     cases e675
     replace p675 := eq_true p675
     replace q675 := eq_true q675
     obtain ⟨Ao28, co28, eo28⟩ := Kd.R_slice HO_8.out
     subst eo28
     have p676 : 0 ≤ (x28_2 : Int) := dz
     have q676 : x28_2 < (t669.length : Int) := dz
     obtain ⟨ad676, e676, hx676_0⟩ := Kd.at_int (Kd.R_reads' HO_8.out).2.2 x28_2 p676 q676
     cases e676
     replace p676 := eq_true p676
     replace q676 := eq_true q676
     go_wp2_with (first | ((with_reducible refine gate_callee (f := 76) rfl ?_); refine goesL_ (some 40) rfl rfl Try.func76 (by kernel_rfl) rfl #[.bool ((rd t672 x28_2) != (rd t669 x28_2))] rfl az ?_; (with_reducible refine (impl_bit.calls ((rd t672 x28_2) != (rd t669 x28_2)) t677 _ A27.out).mono ?_); rintro e w' ⟨rfl, ⟨nd, rfl⟩⟩; refine ⟨_, rfl, ?_⟩))
     go_roundg k2
     case measure => have := HJ3.out; have := HK2.out; omega
     case rel => exact ⟨(wrap64 (x7_2 + t677)), (wrap64 (x28_2 + 1)), rq, rq, H', ⟨by have := HJ3.out; have := HK2.out; omega⟩, ⟨ozR HO_8⟩, ⟨ozR HO_26⟩, ⟨kz BK666⟩, ⟨bz1 HB GE666⟩⟩
end Go.Proofs.Ytoofhjflfpccdaa.PA
end
