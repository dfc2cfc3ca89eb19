/- Walks of Go functions: each is shown to answer as the Lean function beside it tells, under the conditions that its theorem names. -/
import Derived.Test.YtoofhjflfpccdaaProg
import Derived.Below
import Derived.Deep.Draws
import Derived.Deep.AppendLies
import Derived.Maps.AppendAt
import Derived.OwnWalk
import Derived.Laws.BytesArg
import Derived.Laws.MakeOwn
import Derived.Laws.OwnMore
import Derived.Deep.OwnRows
import Derived.Tactics
import Derived.Lib.ConvBytes
import Derived.Laws.Slices
import Derived.WalkKit
import Derived.KernelRfl
import Derived.RowKit3
import Derived.Deep.LoopGhost
import Derived.Deep.QuietTactic
import Derived.BigQuiet
import Derived.WideLaws
import Derived.Deep.DeepCutAuto
import Derived.Deep.CutBlock
import Derived.Deep.RegionHeld3
import Derived.Laws.Rows
import Derived.Lib.AppendStr
import Derived.ArgAppend
import Derived.Laws.IdiomCopy
import Derived.OrdersHeld
import Derived.Laws.BitsLemmas
import Derived.RowKit
import Derived.Laws.StructEq
import Derived.Lib.SliceRun
import Derived.WalkSpells
import Derived.ChangeArms
import Derived.ChangeSlices
import Derived.Deep.Slices
import Derived.Test.YtoofhjflfpccdaaKP838831e28b
import Derived.Test.YtoofhjflfpccdaaKD05f09729e7
section
namespace Go.Proofs.Ytoofhjflfpccdaa.PA
open Go.RowKit Go.Proofs.YtoofhjflfpccdaaW.PrintWords Go.Proofs.YtoofhjflfpccdaaW.PrintLast Go.Proofs.YtoofhjflfpccdaaW.PrintMore
attribute [local go_sem] max2_int min2_int max_two min_two max_three min_three max_four min_four   -- for this text's walks alone
set_option linter.unusedVariables false
set_option linter.unusedSimpArgs false
set_option maxHeartbeats 8000000 in
set_option maxRecDepth 100000 in
theorem spec_l2In.calls (k : Nat) (A0_0 : Option Addr) (c0_0 : Nat) (l0_0 : List (IVar)) (A0_1 : Option Addr) (c0_1 : Nat) (l0_1 : List (IRule)) (A1 : Option Addr) (c1 : Nat) (l1 : List Int) (r : Bool) (w : World) (hr0_0 : Kd.C k62 w A0_0 l0_0.length l0_0) (hc0_0 : l0_0.length ≤ c0_0) (hr0_1 : Kd.C k81 w A0_1 l0_1.length l0_1) (hc0_1 : l0_1.length ≤ c0_1) (hr1 : Kd.C (Kd.int .i64) w A1 l1.length l1) (hc1 : l1.length ≤ c1) (h : spec_l2In.f k l0_0 l0_1 l1 = some r) :
  Calls Try.prog 72 #[.agg #[.slice A0_0 l0_0.length c0_0, .slice A0_1 l0_1.length c0_1], .slice A1 l1.length c1] w fun e w' => e = .returned (.bool r) ∧ Below w.heap.size w w' := by
 have hu31 := Try.underlying31
 have HR0_0 := Aside0.mk hr0_0
 have HC0_0 := Aside0.mk hc0_0
 clear hr0_0 hc0_0
 have HR0_1 := Aside0.mk hr0_1
 have HC0_1 := Aside0.mk hc0_1
 clear hr0_1 hc0_1
 have HR1 := Aside0.mk hr1
 have HC1 := Aside0.mk hc1
 clear hr1 hc1
 have HB := Aside0.mk (Below.refl w.heap.size w)
 have H : (if (l1.length : Int) = (l0_0.length : Int) then (spec_l2In.l0 k l1 0 l0_0 l0_1) else (some false)) = some r := h
 clear h
 by_cases c3 : (l1.length : Int) = (l0_0.length : Int)
 case neg =>
  rw [if_neg c3] at H
  have c3b0 : ((l1.length : Int) == (l0_0.length : Int)) = false := beq_eq_false_iff_ne.mpr c3
  have c3b1 : ((l1.length : Int) != (l0_0.length : Int)) = true := bne_iff_ne.mpr c3
  have c3b2 : (l1.length == l0_0.length) = false := by first | simpa using c3 | (simp at c3 ⊢; omega)
  obtain rfl := Option.some.inj H
  go_enter Try.func72, Try.ntmps72
  go_wp2_with (first | ((with_reducible refine gate_dst (N := 2) rfl ?_); refine box_event ?hg (N := 2) ?hd (cs := #[.slice A0_0 l0_0.length c0_0, .slice A0_1 l0_1.length c0_1]) (t := 31) ?hr ?_; (case hd => rfl); (case hg => rfl); (case hr => first | (go_simp; done) | (go_simp; rfl)); intro gb435 hg w13 hbox hb; have n0_ := Aside0.mk (below_step (bz HB) hb); have n1_ := Aside0.mk (hbox); have n2_ := Aside0.mk ((by rw [hg]; exact (below_size (bz HB)) : w.heap.size ≤ gb435)); have n3_ := Aside0.mk ((by rw [hg]; exact (below_size (bz HB)) : w.heap.size ≤ gb435)); clear HB; have HB := n0_; have BK435 := n1_; have GW435 := n2_; have GE435 := n3_; clear n0_ n1_ n2_ n3_; clear hb hbox hg; have hcz14_0 : w13.cell? ⟨gb435, 0, none⟩ = some (.slice A0_0 l0_0.length c0_0) := (blk_cell BK435.out 0).trans rfl; have hcz14_1 : w13.cell? ⟨gb435, 1, none⟩ = some (.slice A0_1 l0_1.length c0_1) := (blk_cell BK435.out 1).trans rfl; have hfz14_0 := blk_frozen BK435.out 0; have hfz14_1 := blk_frozen BK435.out 1))
  repeat (go_quiet (first | ((with_reducible refine gate_dst (N := 2) rfl ?_); refine box_event ?hg (N := 2) ?hd (cs := #[.slice A0_0 l0_0.length c0_0, .slice A0_1 l0_1.length c0_1]) (t := 31) ?hr ?_; (case hd => rfl); (case hg => rfl); (case hr => first | (go_simp; done) | (go_simp; rfl)); intro gb435 hg w13 hbox hb; have n0_ := Aside0.mk (below_step (bz HB) hb); have n1_ := Aside0.mk (hbox); have n2_ := Aside0.mk ((by rw [hg]; exact (below_size (bz HB)) : w.heap.size ≤ gb435)); have n3_ := Aside0.mk ((by rw [hg]; exact (below_size (bz HB)) : w.heap.size ≤ gb435)); clear HB; have HB := n0_; have BK435 := n1_; have GW435 := n2_; have GE435 := n3_; clear n0_ n1_ n2_ n3_; clear hb hbox hg; have hcz14_0 : w13.cell? ⟨gb435, 0, none⟩ = some (.slice A0_0 l0_0.length c0_0) := (blk_cell BK435.out 0).trans rfl; have hcz14_1 : w13.cell? ⟨gb435, 1, none⟩ = some (.slice A0_1 l0_1.length c0_1) := (blk_cell BK435.out 1).trans rfl; have hfz14_0 := blk_frozen BK435.out 0; have hfz14_1 := blk_frozen BK435.out 1)); try go_wp2_with (first | ((with_reducible refine gate_dst (N := 2) rfl ?_); refine box_event ?hg (N := 2) ?hd (cs := #[.slice A0_0 l0_0.length c0_0, .slice A0_1 l0_1.length c0_1]) (t := 31) ?hr ?_; (case hd => rfl); (case hg => rfl); (case hr => first | (go_simp; done) | (go_simp; rfl)); intro gb435 hg w13 hbox hb; have n0_ := Aside0.mk (below_step (bz HB) hb); have n1_ := Aside0.mk (hbox); have n2_ := Aside0.mk ((by rw [hg]; exact (below_size (bz HB)) : w.heap.size ≤ gb435)); have n3_ := Aside0.mk ((by rw [hg]; exact (below_size (bz HB)) : w.heap.size ≤ gb435)); clear HB; have HB := n0_; have BK435 := n1_; have GW435 := n2_; have GE435 := n3_; clear n0_ n1_ n2_ n3_; clear hb hbox hg; have hcz14_0 : w13.cell? ⟨gb435, 0, none⟩ = some (.slice A0_0 l0_0.length c0_0) := (blk_cell BK435.out 0).trans rfl; have hcz14_1 : w13.cell? ⟨gb435, 1, none⟩ = some (.slice A0_1 l0_1.length c0_1) := (blk_cell BK435.out 1).trans rfl; have hfz14_0 := blk_frozen BK435.out 0; have hfz14_1 := blk_frozen BK435.out 1)))
  go_ret
  exact ⟨rz, bz1 HB GE435⟩
 rw [if_pos c3] at H
 have c3b0 : ((l1.length : Int) == (l0_0.length : Int)) = true := beq_iff_eq.mpr c3
 have c3b1 : ((l1.length : Int) != (l0_0.length : Int)) = false := bne_eq_false_iff_eq.mpr c3
 have c3b2 : (l1.length == l0_0.length) = true := by first | simpa using c3 | (simp at c3 ⊢; omega)
 clear c3
 have H' := Aside0.mk H
 clear H
 go_enter Try.func72, Try.ntmps72
 go_wp2_with (first | ((with_reducible refine gate_dst (N := 2) rfl ?_); refine box_event ?hg (N := 2) ?hd (cs := #[.slice A0_0 l0_0.length c0_0, .slice A0_1 l0_1.length c0_1]) (t := 31) ?hr ?_; (case hd => rfl); (case hg => rfl); (case hr => first | (go_simp; done) | (go_simp; rfl)); intro gb435 hg w4 hbox hb; have n0_ := Aside0.mk (below_step (bz HB) hb); have n1_ := Aside0.mk (hbox); have n2_ := Aside0.mk ((by rw [hg]; exact (below_size (bz HB)) : w.heap.size ≤ gb435)); have n3_ := Aside0.mk ((by rw [hg]; exact (below_size (bz HB)) : w.heap.size ≤ gb435)); clear HB; have HB := n0_; have BK435 := n1_; have GW435 := n2_; have GE435 := n3_; clear n0_ n1_ n2_ n3_; clear hb hbox hg; have hcz5_0 : w4.cell? ⟨gb435, 0, none⟩ = some (.slice A0_0 l0_0.length c0_0) := (blk_cell BK435.out 0).trans rfl; have hcz5_1 : w4.cell? ⟨gb435, 1, none⟩ = some (.slice A0_1 l0_1.length c0_1) := (blk_cell BK435.out 1).trans rfl; have hfz5_0 := blk_frozen BK435.out 0; have hfz5_1 := blk_frozen BK435.out 1))
 repeat (go_quiet (first | ((with_reducible refine gate_dst (N := 2) rfl ?_); refine box_event ?hg (N := 2) ?hd (cs := #[.slice A0_0 l0_0.length c0_0, .slice A0_1 l0_1.length c0_1]) (t := 31) ?hr ?_; (case hd => rfl); (case hg => rfl); (case hr => first | (go_simp; done) | (go_simp; rfl)); intro gb435 hg w4 hbox hb; have n0_ := Aside0.mk (below_step (bz HB) hb); have n1_ := Aside0.mk (hbox); have n2_ := Aside0.mk ((by rw [hg]; exact (below_size (bz HB)) : w.heap.size ≤ gb435)); have n3_ := Aside0.mk ((by rw [hg]; exact (below_size (bz HB)) : w.heap.size ≤ gb435)); clear HB; have HB := n0_; have BK435 := n1_; have GW435 := n2_; have GE435 := n3_; clear n0_ n1_ n2_ n3_; clear hb hbox hg; have hcz5_0 : w4.cell? ⟨gb435, 0, none⟩ = some (.slice A0_0 l0_0.length c0_0) := (blk_cell BK435.out 0).trans rfl; have hcz5_1 : w4.cell? ⟨gb435, 1, none⟩ = some (.slice A0_1 l0_1.length c0_1) := (blk_cell BK435.out 1).trans rfl; have hfz5_0 := blk_frozen BK435.out 0; have hfz5_1 := blk_frozen BK435.out 1)); try go_wp2_with (first | ((with_reducible refine gate_dst (N := 2) rfl ?_); refine box_event ?hg (N := 2) ?hd (cs := #[.slice A0_0 l0_0.length c0_0, .slice A0_1 l0_1.length c0_1]) (t := 31) ?hr ?_; (case hd => rfl); (case hg => rfl); (case hr => first | (go_simp; done) | (go_simp; rfl)); intro gb435 hg w4 hbox hb; have n0_ := Aside0.mk (below_step (bz HB) hb); have n1_ := Aside0.mk (hbox); have n2_ := Aside0.mk ((by rw [hg]; exact (below_size (bz HB)) : w.heap.size ≤ gb435)); have n3_ := Aside0.mk ((by rw [hg]; exact (below_size (bz HB)) : w.heap.size ≤ gb435)); clear HB; have HB := n0_; have BK435 := n1_; have GW435 := n2_; have GE435 := n3_; clear n0_ n1_ n2_ n3_; clear hb hbox hg; have hcz5_0 : w4.cell? ⟨gb435, 0, none⟩ = some (.slice A0_0 l0_0.length c0_0) := (blk_cell BK435.out 0).trans rfl; have hcz5_1 : w4.cell? ⟨gb435, 1, none⟩ = some (.slice A0_1 l0_1.length c0_1) := (blk_cell BK435.out 1).trans rfl; have hfz5_0 := blk_frozen BK435.out 0; have hfz5_1 := blk_frozen BK435.out 1)))
 go_loopg [5] k (fun kq v5 w' => ∃ (x5_1 : Int), v5 = .int .i64 x5_1 ∧ Aside0 (spec_l2In.l0 kq l1 x5_1 l0_0 l0_1 = some r) ∧ Aside0 (kq ≤ k) ∧ Aside0 (w'.heap[gb435]? = some (.cells #[(.slice A0_0 l0_0.length c0_0), (.slice A0_1 l0_1.length c0_1)] 31 (0, 0))) ∧ Aside0 (Below w.heap.size w w'))
 case atStart => exact ⟨(0), rq, H', ⟨Nat.le_refl _⟩, ⟨kz BK435⟩, ⟨bz1 HB GE435⟩⟩
 case round =>
  clear H'
  try clear c1
  try clear p2
  try clear c3
  try clear c3b0
  try clear c3b1
  try clear c3b2
  try clear hcz5_0
  try clear hcz5_1
  try clear hfz5_0
  try clear hfz5_1
  obtain ⟨x5_1, rfl, HA, HK1, BK435, HB⟩ := hrel
  cases gk with
  | zero => exact absurd HA.out (by simp [spec_l2In.l0])
  | succ k1 =>
   have H := HA.out
   clear HA
   simp only [spec_l2In.l0] at H
   by_cases c6 : x5_1 < (l1.length : Int)
   case neg =>
    rw [if_neg c6] at H
    have c6b0 : decide (x5_1 < (l1.length : Int)) = false := decide_eq_false c6
    clear c6
    obtain rfl := Option.some.inj H
    go_wp2
    repeat (go_quiet (fail); try go_wp2)
    go_ret
    exact ⟨rz, bz1 HB GE435⟩
   rw [if_pos c6] at H
   have c6b0 : decide (x5_1 < (l1.length : Int)) = true := decide_eq_true c6
   clear c6
   by_cases c7 : 0 ≤ x5_1
   case neg =>
    rw [if_neg c7] at H
    exact absurd H (by simp)
   rw [if_pos c7] at H
   have c7b0 : decide (0 ≤ x5_1) = true := decide_eq_true c7
   clear c7
   by_cases c8 : x5_1 < (l0_0.length : Int)
   case neg =>
    rw [if_neg c8] at H
    exact absurd H (by simp)
   rw [if_pos c8] at H
   have c8b0 : decide (x5_1 < (l0_0.length : Int)) = true := decide_eq_true c8
   clear c8
   replace H := Option.bind_eq_some_iff.mp H
   obtain ⟨t439, A90, H⟩ := H
   have A9 := Aside0.mk A90
   clear A90
   by_cases c10 : t439 = true
   case neg =>
    replace c10 := Bool.eq_false_iff.mpr c10
    subst c10
    rw [if_neg nt_] at H
    obtain rfl := Option.some.inj H
    have p436 : 0 ≤ (x5_1 : Int) := dz
    have q436 : x5_1 < (l1.length : Int) := dz
    obtain ⟨ad436, e436, hx436_0⟩ := Kd.at_int HR1.out x5_1 p436 q436
    cases e436
    replace hx436_0 := xz HB hx436_0
    replace p436 := eq_true p436
    replace q436 := eq_true q436
    have hcz12_0 : wr.cell? ⟨gb435, 0, none⟩ = some (.slice A0_0 l0_0.length c0_0) := (blk_cell BK435.out 0).trans rfl
    have hcz12_1 : wr.cell? ⟨gb435, 1, none⟩ = some (.slice A0_1 l0_1.length c0_1) := (blk_cell BK435.out 1).trans rfl
    have hfz12_0 := blk_frozen BK435.out 0
    have hfz12_1 := blk_frozen BK435.out 1
    have p437 : 0 ≤ (x5_1 : Int) := dz
    have q437 : x5_1 < (l0_0.length : Int) := dz
    obtain ⟨ad437, e437, hx437_0, hx437_1, hx437_2⟩ := at_IVar HR0_0.out x5_1 p437 q437
    cases e437
    replace hx437_0 := xz HB hx437_0
    replace hx437_1 := xz HB hx437_1
    replace hx437_2 := xz HB hx437_2
    replace p437 := eq_true p437
    replace q437 := eq_true q437
    have p438 : 0 ≤ (x5_1 : Int) := dz
    have q438 : x5_1 < (l0_0.length : Int) := dz
    obtain ⟨ad438, e438, hx438_0, hx438_1, hx438_2⟩ := at_IVar HR0_0.out x5_1 p438 q438
    obtain rfl : ad437 = ad438 := (by injection e438)
    replace hx438_0 := xz HB hx438_0
    replace hx438_1 := xz HB hx438_1
    replace hx438_2 := xz HB hx438_2
    replace p438 := eq_true p438
    replace q438 := eq_true q438
    go_wp2_with (first | (go_at_call 66; (with_reducible refine (spec_l1In.calls (rd l1 x5_1) ((rd_IVar l0_0 x5_1).f0) ((rd_IVar l0_0 x5_1).f1) false _ A9.out).mono ?_); rintro e w' ⟨rfl, ⟨nd, rfl⟩⟩; (try first | exact ⟨rfl, _, World.drewN_drewN _ _ _⟩ | exact ⟨rfl, _, Eq.trans (World.drewN_drewN _ _ _) (congrArg (World.drewN _) (Nat.add_assoc _ _ _))⟩)))
    repeat (go_quiet (first | (go_at_call 66; (with_reducible refine (spec_l1In.calls (rd l1 x5_1) ((rd_IVar l0_0 x5_1).f0) ((rd_IVar l0_0 x5_1).f1) false _ A9.out).mono ?_); rintro e w' ⟨rfl, ⟨nd, rfl⟩⟩; (try first | exact ⟨rfl, _, World.drewN_drewN _ _ _⟩ | exact ⟨rfl, _, Eq.trans (World.drewN_drewN _ _ _) (congrArg (World.drewN _) (Nat.add_assoc _ _ _))⟩))); try go_wp2_with (first | (go_at_call 66; (with_reducible refine (spec_l1In.calls (rd l1 x5_1) ((rd_IVar l0_0 x5_1).f0) ((rd_IVar l0_0 x5_1).f1) false _ A9.out).mono ?_); rintro e w' ⟨rfl, ⟨nd, rfl⟩⟩; (try first | exact ⟨rfl, _, World.drewN_drewN _ _ _⟩ | exact ⟨rfl, _, Eq.trans (World.drewN_drewN _ _ _) (congrArg (World.drewN _) (Nat.add_assoc _ _ _))⟩))))
    go_ret
    exact ⟨rz, bz1 HB GE435⟩
   subst c10
   rw [if_pos rfl] at H
   have H' := Aside0.mk H
   clear H
   have p436 : 0 ≤ (x5_1 : Int) := dz
   have q436 : x5_1 < (l1.length : Int) := dz
   obtain ⟨ad436, e436, hx436_0⟩ := Kd.at_int HR1.out x5_1 p436 q436
   cases e436
   replace hx436_0 := xz HB hx436_0
   replace p436 := eq_true p436
   replace q436 := eq_true q436
   have hcz11_0 : wr.cell? ⟨gb435, 0, none⟩ = some (.slice A0_0 l0_0.length c0_0) := (blk_cell BK435.out 0).trans rfl
   have hcz11_1 : wr.cell? ⟨gb435, 1, none⟩ = some (.slice A0_1 l0_1.length c0_1) := (blk_cell BK435.out 1).trans rfl
   have hfz11_0 := blk_frozen BK435.out 0
   have hfz11_1 := blk_frozen BK435.out 1
   have p437 : 0 ≤ (x5_1 : Int) := dz
   have q437 : x5_1 < (l0_0.length : Int) := dz
   obtain ⟨ad437, e437, hx437_0, hx437_1, hx437_2⟩ := at_IVar HR0_0.out x5_1 p437 q437
   cases e437
   replace hx437_0 := xz HB hx437_0
   replace hx437_1 := xz HB hx437_1
   replace hx437_2 := xz HB hx437_2
   replace p437 := eq_true p437
   replace q437 := eq_true q437
   have p438 : 0 ≤ (x5_1 : Int) := dz
   have q438 : x5_1 < (l0_0.length : Int) := dz
   obtain ⟨ad438, e438, hx438_0, hx438_1, hx438_2⟩ := at_IVar HR0_0.out x5_1 p438 q438
   obtain rfl : ad437 = ad438 := (by injection e438)
   replace hx438_0 := xz HB hx438_0
   replace hx438_1 := xz HB hx438_1
   replace hx438_2 := xz HB hx438_2
   replace p438 := eq_true p438
   replace q438 := eq_true q438
   go_wp2_with (first | (go_at_call 66; (with_reducible refine (spec_l1In.calls (rd l1 x5_1) ((rd_IVar l0_0 x5_1).f0) ((rd_IVar l0_0 x5_1).f1) true _ A9.out).mono ?_); rintro e w' ⟨rfl, ⟨nd, rfl⟩⟩; (try first | exact ⟨rfl, _, World.drewN_drewN _ _ _⟩ | exact ⟨rfl, _, Eq.trans (World.drewN_drewN _ _ _) (congrArg (World.drewN _) (Nat.add_assoc _ _ _))⟩)))
   repeat (go_quiet (first | (go_at_call 66; (with_reducible refine (spec_l1In.calls (rd l1 x5_1) ((rd_IVar l0_0 x5_1).f0) ((rd_IVar l0_0 x5_1).f1) true _ A9.out).mono ?_); rintro e w' ⟨rfl, ⟨nd, rfl⟩⟩; (try first | exact ⟨rfl, _, World.drewN_drewN _ _ _⟩ | exact ⟨rfl, _, Eq.trans (World.drewN_drewN _ _ _) (congrArg (World.drewN _) (Nat.add_assoc _ _ _))⟩))); try go_wp2_with (first | (go_at_call 66; (with_reducible refine (spec_l1In.calls (rd l1 x5_1) ((rd_IVar l0_0 x5_1).f0) ((rd_IVar l0_0 x5_1).f1) true _ A9.out).mono ?_); rintro e w' ⟨rfl, ⟨nd, rfl⟩⟩; (try first | exact ⟨rfl, _, World.drewN_drewN _ _ _⟩ | exact ⟨rfl, _, Eq.trans (World.drewN_drewN _ _ _) (congrArg (World.drewN _) (Nat.add_assoc _ _ _))⟩))))
   go_roundg k1
   case measure => have := HK1.out; omega
   case rel => exact ⟨(wrap64 (x5_1 + 1)), rq, H', ⟨by have := HK1.out; omega⟩, ⟨kz BK435⟩, ⟨bz1 HB GE435⟩⟩
end Go.Proofs.Ytoofhjflfpccdaa.PA
end
section
namespace Go.Proofs.Ytoofhjflfpccdaa.PA
open Go.RowKit Go.Proofs.YtoofhjflfpccdaaW.PrintWords Go.Proofs.YtoofhjflfpccdaaW.PrintLast Go.Proofs.YtoofhjflfpccdaaW.PrintMore
attribute [local go_sem] max2_int min2_int max_two min_two max_three min_three max_four min_four   -- for this text's walks alone
set_option linter.unusedVariables false
set_option linter.unusedSimpArgs false
set_option maxHeartbeats 8000000 in
set_option maxRecDepth 100000 in
theorem spec_l1Held.calls (a0 : Int) (r : Int) (w : World) (h : spec_l1Held.f a0 = some r) :
  Calls Try.prog 133 #[.int .i64 a0] w fun e w' => e = .returned (.int .i64 r) ∧ Drawn0 w w' := by
 have H : (if a0 > 9999 then (some 9999) else (if a0 < (-9999) then (some (-9999)) else (some a0))) = some r := h
 clear h
 by_cases c2 : a0 > 9999
 case pos =>
  rw [if_pos c2] at H
  have c2b0 : decide (9999 < a0) = true := decide_eq_true c2
  clear c2
  obtain rfl := Option.some.inj H
  go_enter Try.func133, Try.ntmps133
  go_wp2
  go_ret
  exact ⟨by first | rfl | (simp; done) | (simp [*]; done), by repeat (first | exact Drawn0.refl _ | apply Drawn0.step)⟩
 rw [if_neg c2] at H
 have c2b0 : decide (9999 < a0) = false := decide_eq_false c2
 clear c2
 by_cases c3 : a0 < (-9999)
 case pos =>
  rw [if_pos c3] at H
  have c3b0 : decide (a0 < (-9999)) = true := decide_eq_true c3
  clear c3
  obtain rfl := Option.some.inj H
  go_enter Try.func133, Try.ntmps133
  go_wp2
  go_ret
  exact ⟨by first | rfl | (simp; done) | (simp [*]; done), by repeat (first | exact Drawn0.refl _ | apply Drawn0.step)⟩
 rw [if_neg c3] at H
 have c3b0 : decide (a0 < (-9999)) = false := decide_eq_false c3
 clear c3
 obtain rfl := Option.some.inj H
 go_enter Try.func133, Try.ntmps133
 go_wp2
 go_ret
 exact ⟨by first | rfl | (simp; done) | (simp [*]; done), by repeat (first | exact Drawn0.refl _ | apply Drawn0.step)⟩
end Go.Proofs.Ytoofhjflfpccdaa.PA
end
section
namespace Go.Proofs.Ytoofhjflfpccdaa.PA
open Go.RowKit Go.Proofs.YtoofhjflfpccdaaW.PrintWords Go.Proofs.YtoofhjflfpccdaaW.PrintLast Go.Proofs.YtoofhjflfpccdaaW.PrintMore
attribute [local go_sem] max2_int min2_int max_two min_two max_three min_three max_four min_four   -- for this text's walks alone
set_option linter.unusedVariables false
set_option linter.unusedSimpArgs false
set_option maxHeartbeats 8000000 in
set_option maxRecDepth 100000 in
theorem spec_l1Truth.calls (a0 : Bool) (r : Int) (w : World) (h : spec_l1Truth.f a0 = some r) :
  Calls Try.prog 134 #[.bool a0] w fun e w' => e = .returned (.int .i64 r) ∧ Drawn0 w w' := by
 have H : (if a0 = true then (some 1) else (some 0)) = some r := h
 clear h
 by_cases c2 : a0 = true
 case pos =>
  subst c2
  rw [if_pos rfl] at H
  obtain rfl := Option.some.inj H
  go_enter Try.func134, Try.ntmps134
  go_wp2
  go_ret
  exact ⟨by first | rfl | (simp; done) | (simp [*]; done), by repeat (first | exact Drawn0.refl _ | apply Drawn0.step)⟩
 replace c2 := Bool.eq_false_iff.mpr c2
 subst c2
 rw [if_neg nt_] at H
 obtain rfl := Option.some.inj H
 go_enter Try.func134, Try.ntmps134
 go_wp2
 go_ret
 exact ⟨by first | rfl | (simp; done) | (simp [*]; done), by repeat (first | exact Drawn0.refl _ | apply Drawn0.step)⟩
end Go.Proofs.Ytoofhjflfpccdaa.PA
end
section
namespace Go.Proofs.Ytoofhjflfpccdaa.PA
open Go.RowKit Go.Proofs.YtoofhjflfpccdaaW.PrintWords Go.Proofs.YtoofhjflfpccdaaW.PrintLast Go.Proofs.YtoofhjflfpccdaaW.PrintMore
attribute [local go_sem] max2_int min2_int max_two min_two max_three min_three max_four min_four   -- for this text's walks alone
set_option linter.unusedVariables false
set_option linter.unusedSimpArgs false
set_option maxHeartbeats 8000000 in
set_option maxRecDepth 100000 in
theorem spec_l1Do.calls (a0 : Int) (a1 : Int) (a2 : Int) (r : Int) (w : World) (h : spec_l1Do.f a0 a1 a2 = some r) :
  Calls Try.prog 129 #[.int .i64 a0, .int .i64 a1, .int .i64 a2] w fun e w' => e = .returned (.int .i64 r) ∧ Drawn0 w w' := by
 have H : (if a0 = 2 then ((spec_l1Held.f (wrap64 (a1 + a2))).bind fun t771 => (some t771)) else (if a0 = 3 then ((spec_l1Held.f (wrap64 (a1 - a2))).bind fun t772 => (some t772)) else (if a0 = 4 then ((spec_l1Held.f (wrap64 (a1 * a2))).bind fun t773 => (some t773)) else (if a0 = 5 then ((spec_l1Truth.f (decide (a1 < a2))).bind fun t774 => (some t774)) else (if a0 = 6 then ((spec_l1Truth.f (a1 == a2)).bind fun t775 => (some t775)) else (if a0 = 7 then (some (wrap64 (1 - a1))) else (if a0 = 8 then (some (wrap64 (a1 * a2))) else ((spec_l1Truth.f (decide ((wrap64 (a1 + a2)) > 0))).bind fun t776 => (some t776))))))))) = some r := h
 clear h
 by_cases c4 : a0 = 2
 case pos =>
  rw [if_pos c4] at H
  have c4b0 : (a0 == 2) = true := beq_iff_eq.mpr c4
  have c4b1 : (a0 != 2) = false := bne_eq_false_iff_eq.mpr c4
  clear c4
  replace H := Option.bind_eq_some_iff.mp H
  obtain ⟨t771, A50, H⟩ := H
  have A5 := Aside0.mk A50
  clear A50
  obtain rfl := Option.some.inj H
  go_enter Try.func129, Try.ntmps129
  go_wp2_with (first | ((with_reducible refine gate_callee (f := 133) rfl ?_); refine goesL_ (some 12) rfl rfl Try.func133 (by kernel_rfl) rfl #[.int .i64 (wrap64 (a1 + a2))] rfl az ?_; (with_reducible refine (spec_l1Held.calls (wrap64 (a1 + a2)) t771 _ A5.out).mono ?_); rintro e w' ⟨rfl, ⟨nd, rfl⟩⟩; refine ⟨_, rfl, ?_⟩))
  go_ret
  exact ⟨by first | rfl | (simp; done) | (simp [*]; done), by repeat (first | exact Drawn0.refl _ | apply Drawn0.step)⟩
 rw [if_neg c4] at H
 have c4b0 : (a0 == 2) = false := beq_eq_false_iff_ne.mpr c4
 have c4b1 : (a0 != 2) = true := bne_iff_ne.mpr c4
 by_cases c6 : a0 = 3
 case pos =>
  rw [if_pos c6] at H
  have c6b0 : (a0 == 3) = true := beq_iff_eq.mpr c6
  have c6b1 : (a0 != 3) = false := bne_eq_false_iff_eq.mpr c6
  clear c6
  replace H := Option.bind_eq_some_iff.mp H
  obtain ⟨t772, A70, H⟩ := H
  have A7 := Aside0.mk A70
  clear A70
  obtain rfl := Option.some.inj H
  go_enter Try.func129, Try.ntmps129
  go_wp2_with (first | ((with_reducible refine gate_callee (f := 133) rfl ?_); refine goesL_ (some 18) rfl rfl Try.func133 (by kernel_rfl) rfl #[.int .i64 (wrap64 (a1 - a2))] rfl az ?_; (with_reducible refine (spec_l1Held.calls (wrap64 (a1 - a2)) t772 _ A7.out).mono ?_); rintro e w' ⟨rfl, ⟨nd, rfl⟩⟩; refine ⟨_, rfl, ?_⟩))
  go_ret
  exact ⟨by first | rfl | (simp; done) | (simp [*]; done), by repeat (first | exact Drawn0.refl _ | apply Drawn0.step)⟩
 rw [if_neg c6] at H
 have c6b0 : (a0 == 3) = false := beq_eq_false_iff_ne.mpr c6
 have c6b1 : (a0 != 3) = true := bne_iff_ne.mpr c6
 by_cases c8 : a0 = 4
 case pos =>
  rw [if_pos c8] at H
  have c8b0 : (a0 == 4) = true := beq_iff_eq.mpr c8
  have c8b1 : (a0 != 4) = false := bne_eq_false_iff_eq.mpr c8
  clear c8
  replace H := Option.bind_eq_some_iff.mp H
  obtain ⟨t773, A90, H⟩ := H
  have A9 := Aside0.mk A90
  clear A90
  obtain rfl := Option.some.inj H
  go_enter Try.func129, Try.ntmps129
  go_wp2_with (first | ((with_reducible refine gate_callee (f := 133) rfl ?_); refine goesL_ (some 24) rfl rfl Try.func133 (by kernel_rfl) rfl #[.int .i64 (wrap64 (a1 * a2))] rfl az ?_; (with_reducible refine (spec_l1Held.calls (wrap64 (a1 * a2)) t773 _ A9.out).mono ?_); rintro e w' ⟨rfl, ⟨nd, rfl⟩⟩; refine ⟨_, rfl, ?_⟩))
  go_ret
  exact ⟨by first | rfl | (simp; done) | (simp [*]; done), by repeat (first | exact Drawn0.refl _ | apply Drawn0.step)⟩
 rw [if_neg c8] at H
 have c8b0 : (a0 == 4) = false := beq_eq_false_iff_ne.mpr c8
 have c8b1 : (a0 != 4) = true := bne_iff_ne.mpr c8
 by_cases c10 : a0 = 5
 case pos =>
  rw [if_pos c10] at H
  have c10b0 : (a0 == 5) = true := beq_iff_eq.mpr c10
  have c10b1 : (a0 != 5) = false := bne_eq_false_iff_eq.mpr c10
  clear c10
  replace H := Option.bind_eq_some_iff.mp H
  obtain ⟨t774, A110, H⟩ := H
  have A11 := Aside0.mk A110
  clear A110
  obtain rfl := Option.some.inj H
  go_enter Try.func129, Try.ntmps129
  go_wp2_with (first | ((with_reducible refine gate_callee (f := 134) rfl ?_); refine goesL_ (some 30) rfl rfl Try.func134 (by kernel_rfl) rfl #[.bool (decide (a1 < a2))] rfl az ?_; (with_reducible refine (spec_l1Truth.calls (decide (a1 < a2)) t774 _ A11.out).mono ?_); rintro e w' ⟨rfl, ⟨nd, rfl⟩⟩; refine ⟨_, rfl, ?_⟩))
  go_ret
  exact ⟨by first | rfl | (simp; done) | (simp [*]; done), by repeat (first | exact Drawn0.refl _ | apply Drawn0.step)⟩
 rw [if_neg c10] at H
 have c10b0 : (a0 == 5) = false := beq_eq_false_iff_ne.mpr c10
 have c10b1 : (a0 != 5) = true := bne_iff_ne.mpr c10
 by_cases c12 : a0 = 6
 case pos =>
  rw [if_pos c12] at H
  have c12b0 : (a0 == 6) = true := beq_iff_eq.mpr c12
  have c12b1 : (a0 != 6) = false := bne_eq_false_iff_eq.mpr c12
  clear c12
  replace H := Option.bind_eq_some_iff.mp H
  obtain ⟨t775, A130, H⟩ := H
  have A13 := Aside0.mk A130
  clear A130
  obtain rfl := Option.some.inj H
  go_enter Try.func129, Try.ntmps129
  go_wp2_with (first | ((with_reducible refine gate_callee (f := 134) rfl ?_); refine goesL_ (some 36) rfl rfl Try.func134 (by kernel_rfl) rfl #[.bool (a1 == a2)] rfl az ?_; (with_reducible refine (spec_l1Truth.calls (a1 == a2) t775 _ A13.out).mono ?_); rintro e w' ⟨rfl, ⟨nd, rfl⟩⟩; refine ⟨_, rfl, ?_⟩))
  go_ret
  exact ⟨by first | rfl | (simp; done) | (simp [*]; done), by repeat (first | exact Drawn0.refl _ | apply Drawn0.step)⟩
 rw [if_neg c12] at H
 have c12b0 : (a0 == 6) = false := beq_eq_false_iff_ne.mpr c12
 have c12b1 : (a0 != 6) = true := bne_iff_ne.mpr c12
 by_cases c14 : a0 = 7
 case pos =>
  rw [if_pos c14] at H
  have c14b0 : (a0 == 7) = true := beq_iff_eq.mpr c14
  have c14b1 : (a0 != 7) = false := bne_eq_false_iff_eq.mpr c14
  clear c14
  obtain rfl := Option.some.inj H
  go_enter Try.func129, Try.ntmps129
  go_wp2
  go_ret
  exact ⟨by first | rfl | (simp; done) | (simp [*]; done), by repeat (first | exact Drawn0.refl _ | apply Drawn0.step)⟩
 rw [if_neg c14] at H
 have c14b0 : (a0 == 7) = false := beq_eq_false_iff_ne.mpr c14
 have c14b1 : (a0 != 7) = true := bne_iff_ne.mpr c14
 by_cases c15 : a0 = 8
 case pos =>
  rw [if_pos c15] at H
  have c15b0 : (a0 == 8) = true := beq_iff_eq.mpr c15
  have c15b1 : (a0 != 8) = false := bne_eq_false_iff_eq.mpr c15
  clear c15
  obtain rfl := Option.some.inj H
  go_enter Try.func129, Try.ntmps129
  go_wp2
  go_ret
  exact ⟨by first | rfl | (simp; done) | (simp [*]; done), by repeat (first | exact Drawn0.refl _ | apply Drawn0.step)⟩
 rw [if_neg c15] at H
 have c15b0 : (a0 == 8) = false := beq_eq_false_iff_ne.mpr c15
 have c15b1 : (a0 != 8) = true := bne_iff_ne.mpr c15
 replace H := Option.bind_eq_some_iff.mp H
 obtain ⟨t776, A160, H⟩ := H
 have A16 := Aside0.mk A160
 clear A160
 obtain rfl := Option.some.inj H
 go_enter Try.func129, Try.ntmps129
 go_wp2_with (first | ((with_reducible refine gate_callee (f := 134) rfl ?_); refine goesL_ (some 50) rfl rfl Try.func134 (by kernel_rfl) rfl #[.bool (decide ((wrap64 (a1 + a2)) > 0))] rfl az ?_; (with_reducible refine (spec_l1Truth.calls (decide ((wrap64 (a1 + a2)) > 0)) t776 _ A16.out).mono ?_); rintro e w' ⟨rfl, ⟨nd, rfl⟩⟩; refine ⟨_, rfl, ?_⟩))
 go_ret
 exact ⟨by first | rfl | (simp; done) | (simp [*]; done), by repeat (first | exact Drawn0.refl _ | apply Drawn0.step)⟩
end Go.Proofs.Ytoofhjflfpccdaa.PA
end
section
namespace Go.Proofs.Ytoofhjflfpccdaa.PA
open Go.RowKit Go.Proofs.YtoofhjflfpccdaaW.PrintWords Go.Proofs.YtoofhjflfpccdaaW.PrintLast Go.Proofs.YtoofhjflfpccdaaW.PrintMore
attribute [local go_sem] max2_int min2_int max_two min_two max_three min_three max_four min_four   -- for this text's walks alone
set_option linter.unusedVariables false
set_option linter.unusedSimpArgs false
def spec_l1Values.T10 : Bool × List (List Nat × List Nat) := (true, [([], []), ([], []), ([1], [1]), ([], []), ([], []), ([4], [4]), ([3, 5], [3, 5]), ([6], [6]), ([], []), ([], []), ([9], [9]), ([8, 10], [8, 10]), ([11], [11]), ([2, 7, 12], [2, 7, 12]), ([13], [13]), ([0, 14, 13], [0, 14]), ([15, 15, 0, 1, 2, 3, 4, 5, 6, 7, 8, 9, 10, 11, 12, 13, 14, 15], [0, 3, 8, 15])])
def spec_l1Values.B10 : List Nat := [0, 0, 2, 0, 0, 16, 56, 120, 0, 0, 512, 1792, 3840, 8190, 16382, 32767, 65535]
theorem spec_l1Values.tab10 : rtab .any (opsOf Try.f123 10) = spec_l1Values.T10 := by kernel_rfl
theorem spec_l1Values.bits10 : waitsOk spec_l1Values.T10.2 spec_l1Values.B10 = true := by kernel_rfl
set_option maxHeartbeats 8000000 in
set_option maxRecDepth 100000 in
theorem spec_l1Values.calls (k : Nat) (A0 : Option Addr) (c0 : Nat) (l0 : List (ITerm)) (A1 : Option Addr) (c1 : Nat) (l1 : List Int) (r : List Int) (w : World) (hr0 : Kd.C k107 w A0 l0.length l0) (hc0 : l0.length ≤ c0) (hr1 : Kd.C (Kd.int .i64) w A1 l1.length l1) (hc1 : l1.length ≤ c1) (h : spec_l1Values.f k l0 l1 = some r) :
  Calls Try.prog 123 #[.slice A0 l0.length c0, .slice A1 l1.length c1] w fun e w' => ∃ v0_ : Value, e = .returned (v0_) ∧ Kd.R (Kd.int .i64) 3 w' w.heap.size (fun _ => True) v0_ r ∧ Below w.heap.size w w' := by
 have hu107 := Try.underlying107
 have HR0 := Aside0.mk hr0
 have HC0 := Aside0.mk hc0
 clear hr0 hc0
 have HR1 := Aside0.mk hr1
 have HC1 := Aside0.mk hc1
 clear hr1 hc1
 have HB := Aside0.mk (Below.refl w.heap.size w)
 have H : (spec_l1Values.l0 k l0 l1 (([] : List Int)) 0) = some r := h
 clear h
 obtain ⟨y777, hy777⟩ : ∃ y_ : List Int, y_ = (([] : List Int)) := ⟨_, rfl⟩
 replace H : (spec_l1Values.l0 k l0 l1 y777 0) = some r := by first | (rw [hy777]; with_reducible exact H) | (have H2_ := (Option.bind_some _ _).symm.trans H; rw [hy777]; with_reducible exact H2_) | (have H2_ := (Option.bind_some _ _).symm.trans H; with_reducible exact H2_) | with_reducible exact H | (rw [hy777]; exact H) | exact H
 have Ny777 := Aside0.mk hy777
 clear hy777
 have H' := Aside0.mk H
 clear H
 go_enter Try.func123, Try.ntmps123
 go_wp2_with (first | ((with_reducible refine gate_dst (N := 8) rfl ?_); refine Kd.R_lit (Kd.int .i64) _ 3 ?hg (N := 8) ?hd (xs := ([] : List Int)) (inner := []) (ok := fun _ => True) (okp := fun _ => True) ?hr ?hp (fun _ hk => hk) trivial (Below.refl _ _) (Nat.le_refl _) (by simp) ?_; (case hd => rfl); (case hg => rfl); (case hr => first | (go_simp; done) | (go_simp; rfl)); (case hp => exact (Reps.none _ _)); intro v778 w3 ho4 hb hg_ hnew_; clear hg_ hnew_; (first | rw [← Ny777.out] at ho4 | (simp only [Int.reduceToNat] at ho4; rw [← Ny777.out] at ho4)); have HO779 := Aside0.mk (Kd.R_lower ho4 (below_size (bz HB))); replace HB := Aside0.mk (below_step (bz HB) hb); clear hb ho4))
 go_loopg [5, 6] k (fun kq v5 v6 w' => ∃ (x5_1 : List Int) (x6_1 : Int), v6 = .int .i64 x6_1 ∧ Aside0 (spec_l1Values.l0 kq l0 l1 x5_1 x6_1 = some r) ∧ Aside0 (kq ≤ k) ∧ Aside0 (Kd.R (Kd.int .i64) 3 w' w.heap.size (fun _ => True) v5 x5_1) ∧ Aside0 (Below w.heap.size w w'))
 case atStart => exact ⟨(y777), (0), rq, H', ⟨Nat.le_refl _⟩, ⟨ozR HO779⟩, ⟨bz HB⟩⟩
 case round =>
  clear H'
  try clear c1
  try clear p2
  obtain ⟨x5_1, x6_1, rfl, HA, HK1, HO_5, HB⟩ := hrel
  cases gk with
  | zero => exact absurd HA.out (by simp [spec_l1Values.l0])
  | succ k1 =>
   have H := HA.out
   clear HA
   simp only [spec_l1Values.l0] at H
   by_cases c5 : x6_1 < (l0.length : Int)
   case neg =>
    rw [if_neg c5] at H
    have c5b0 : decide (x6_1 < (l0.length : Int)) = false := decide_eq_false c5
    clear c5
    obtain rfl := Option.some.inj H
    go_wp2
    go_ret
    exact ⟨_, rz, ozR HO_5, bz HB⟩
   rw [if_pos c5] at H
   have c5b0 : decide (x6_1 < (l0.length : Int)) = true := decide_eq_true c5
   clear c5
   by_cases c6 : 0 ≤ x6_1
   case neg =>
    rw [if_neg c6] at H
    exact absurd H (by simp)
   rw [if_pos c6] at H
   have c6b0 : decide (0 ≤ x6_1) = true := decide_eq_true c6
   clear c6
   by_cases c7 : ((rd_ITerm l0 x6_1).f0) = 0
   case pos =>
    rw [if_pos c7] at H
    have c7b0 : (((rd_ITerm l0 x6_1).f0) == 0) = true := beq_iff_eq.mpr c7
    have c7b1 : (((rd_ITerm l0 x6_1).f0) != 0) = false := bne_eq_false_iff_eq.mpr c7
    clear c7
    by_cases c8 : x5_1.length < 17592186044416
    case neg =>
     rw [if_neg c8] at H
     exact absurd H (by simp)
    rw [if_pos c8] at H
    have LMc8 := Aside0.mk c8
    clear c8
    obtain ⟨y782, hy782⟩ : ∃ y_ : List Int, y_ = (x5_1 ++ [(rd_ITerm l0 x6_1).f1]) := ⟨_, rfl⟩
    replace H : (spec_l1Values.l0 k1 l0 l1 y782 (wrap64 (x6_1 + 1))) = some r := by first | (rw [hy782]; with_reducible exact H) | (have H2_ := (Option.bind_some _ _).symm.trans H; rw [hy782]; with_reducible exact H2_) | (have H2_ := (Option.bind_some _ _).symm.trans H; with_reducible exact H2_) | with_reducible exact H | (rw [hy782]; exact H) | exact H
    have Ny782 := Aside0.mk hy782
    clear hy782
    have H' := Aside0.mk H
    clear H
    have p780 : 0 ≤ (x6_1 : Int) := dz
    have q780 : x6_1 < (l0.length : Int) := dz
    obtain ⟨ad780, e780, hx780_0, hx780_1, hx780_2, hx780_3⟩ := at_ITerm HR0.out x6_1 p780 q780
    cases e780
    replace hx780_0 := xz HB hx780_0
    replace hx780_1 := xz HB hx780_1
    replace hx780_2 := xz HB hx780_2
    replace hx780_3 := xz HB hx780_3
    replace p780 := eq_true p780
    replace q780 := eq_true q780
    go_wp2_with (first | ((with_reducible refine gate_dst (N := 7) rfl ?_); refine box_event ?hg (N := 7) ?hd (cs := #[.int .i64 0, .int .i64 0, .int .i64 0, .int .i64 0]) (t := 107) ?hr ?_; (case hd => rfl); (case hg => rfl); (case hr => first | (go_simp; done) | (go_simp; rfl)); intro gb781 hg w9 hbox hb; have n0_ := Aside0.mk (Kd.R_below (ozR HO_5) hb); have n1_ := Aside0.mk (below_step (bz HB) hb); have n2_ := Aside0.mk (hbox); have n3_ := Aside0.mk ((by rw [hg]; exact (below_size (bz HB)) : w.heap.size ≤ gb781)); have n4_ := Aside0.mk ((by rw [hg]; exact (below_size (bz HB)) : w.heap.size ≤ gb781)); clear HO_5; clear HB; have HO_5 := n0_; have HB := n1_; have BK781 := n2_; have GW781 := n3_; have GE781 := n4_; clear n0_ n1_ n2_ n3_ n4_; clear hb hbox hg; have hcz10_0 : w9.cell? ⟨gb781, 0, none⟩ = some (.int .i64 0) := (blk_cell BK781.out 0).trans rfl; have hcz10_1 : w9.cell? ⟨gb781, 1, none⟩ = some (.int .i64 0) := (blk_cell BK781.out 1).trans rfl; have hcz10_2 : w9.cell? ⟨gb781, 2, none⟩ = some (.int .i64 0) := (blk_cell BK781.out 2).trans rfl; have hcz10_3 : w9.cell? ⟨gb781, 3, none⟩ = some (.int .i64 0) := (blk_cell BK781.out 3).trans rfl; have hfz10_0 := blk_frozen BK781.out 0; have hfz10_1 := blk_frozen BK781.out 1; have hfz10_2 := blk_frozen BK781.out 2; have hfz10_3 := blk_frozen BK781.out 3) | ((with_reducible refine gate_builtin (b := .append) (xs := #[.tmp 22, .tmp 25]) rfl ?_); at_builtin; refine Kd.R_append (Kd.int .i64) (w0 := w) w.heap.size rfl (.tmp 22) (.tmp 25) 35 3 (.int .i64 0) 8 rfl Try.underlying35 info3 rfl (by decide) (by omega) u5 x5_1 ((rd_ITerm l0 x6_1).f1) [.int .i64 ((rd_ITerm l0 x6_1).f1)] (fun _ => True) (fun _ => False) rfl (by first | (go_simp; done) | (go_simp; rfl)) ?aP (fun _ hk => hk.elim) ?aF ?aO ?aB ?aS ?aL ?_; (case aP => exact rfl); (case aB => exact (bz1 HB GE781)); (case aF => exact (fun _ _ => trivial)); (case aO => exact (by (with_reducible repeat (first | apply Kd.R_alloc | apply Kd.R_drewN | apply Kd.R_drew)); exact Kd.R_mono (Kd.R_far (p := ⟨gb781, 3, none⟩) (Kd.R_far (p := ⟨gb781, 2, none⟩) (Kd.R_far (p := ⟨gb781, 1, none⟩) (Kd.R_far (p := ⟨gb781, 0, none⟩) (Kd.R_types HO_5.out BK781.out (by decide)) (fun _ hk => hk.2) (.int .i64 ((rd_ITerm l0 x6_1).f0))) (fun _ hk => hk.2) (.int .i64 ((rd_ITerm l0 x6_1).f1))) (fun _ hk => hk.2) (.int .i64 ((rd_ITerm l0 x6_1).f2))) (fun _ hk => hk.2) (.int .i64 ((rd_ITerm l0 x6_1).f3))) (fun _ hk => trivial))); (case aS => exact (below_size (bz1 HB GE781))); (case aL => have := LMc8.out; omega); intro v783 w11 ho hb hg hat; rw [← Ny782.out] at ho; replace BK781 := Aside0.mk (blk_grown (g := gb781) (o := .cells #[.int .i64 ((rd_ITerm l0 x6_1).f0), .int .i64 ((rd_ITerm l0 x6_1).f1), .int .i64 ((rd_ITerm l0 x6_1).f2), .int .i64 ((rd_ITerm l0 x6_1).f3)] 107 (0, 0)) (by (with_reducible repeat (first | refine blk_drewN ?_ _ | refine blk_drew ?_ | refine blk_alloc ?_ _)); refine blk_put (cs := #[.int .i64 ((rd_ITerm l0 x6_1).f0), .int .i64 ((rd_ITerm l0 x6_1).f1), .int .i64 ((rd_ITerm l0 x6_1).f2), .int .i64 0]) ?_ 3 _ rfl; (with_reducible repeat (first | refine blk_drewN ?_ _ | refine blk_drew ?_ | refine blk_alloc ?_ _)); refine blk_put (cs := #[.int .i64 ((rd_ITerm l0 x6_1).f0), .int .i64 ((rd_ITerm l0 x6_1).f1), .int .i64 0, .int .i64 0]) ?_ 2 _ rfl; (with_reducible repeat (first | refine blk_drewN ?_ _ | refine blk_drew ?_ | refine blk_alloc ?_ _)); refine blk_put (cs := #[.int .i64 ((rd_ITerm l0 x6_1).f0), .int .i64 0, .int .i64 0, .int .i64 0]) ?_ 1 _ rfl; (with_reducible repeat (first | refine blk_drewN ?_ _ | refine blk_drew ?_ | refine blk_alloc ?_ _)); refine blk_put (cs := #[.int .i64 0, .int .i64 0, .int .i64 0, .int .i64 0]) ?_ 0 _ rfl; exact kz BK781) hg (Kd.R_ne HO_5.out BK781.out (by decide))); replace HB := Aside0.mk (hb); have HO784 := Aside0.mk (ho); clear HO_5; clear ho hb hg hat))
    go_roundg k1
    case measure => have := HK1.out; omega
    case rel => exact ⟨(y782), (wrap64 (x6_1 + 1)), rq, H', ⟨by have := HK1.out; omega⟩, ⟨ozR HO784⟩, ⟨bz1 HB GE781⟩⟩
   rw [if_neg c7] at H
   have c7b0 : (((rd_ITerm l0 x6_1).f0) == 0) = false := beq_eq_false_iff_ne.mpr c7
   have c7b1 : (((rd_ITerm l0 x6_1).f0) != 0) = true := bne_iff_ne.mpr c7
   by_cases c12 : ((rd_ITerm l0 x6_1).f0) = 1
   case pos =>
    rw [if_pos c12] at H
    have c12b0 : (((rd_ITerm l0 x6_1).f0) == 1) = true := beq_iff_eq.mpr c12
    have c12b1 : (((rd_ITerm l0 x6_1).f0) != 1) = false := bne_eq_false_iff_eq.mpr c12
    clear c12
    by_cases c13 : 0 ≤ ((rd_ITerm l0 x6_1).f1)
    case neg =>
     rw [if_neg c13] at H
     exact absurd H (by simp)
    rw [if_pos c13] at H
    have c13b0 : decide (0 ≤ ((rd_ITerm l0 x6_1).f1)) = true := decide_eq_true c13
    clear c13
    by_cases c14 : ((rd_ITerm l0 x6_1).f1) < (l1.length : Int)
    case neg =>
     rw [if_neg c14] at H
     exact absurd H (by simp)
    rw [if_pos c14] at H
    have c14b0 : decide (((rd_ITerm l0 x6_1).f1) < (l1.length : Int)) = true := decide_eq_true c14
    clear c14
    by_cases c15 : x5_1.length < 17592186044416
    case neg =>
     rw [if_neg c15] at H
     exact absurd H (by simp)
    rw [if_pos c15] at H
    have LMc15 := Aside0.mk c15
    clear c15
    obtain ⟨y786, hy786⟩ : ∃ y_ : List Int, y_ = (x5_1 ++ [rd l1 ((rd_ITerm l0 x6_1).f1)]) := ⟨_, rfl⟩
    replace H : (spec_l1Values.l0 k1 l0 l1 y786 (wrap64 (x6_1 + 1))) = some r := by first | (rw [hy786]; with_reducible exact H) | (have H2_ := (Option.bind_some _ _).symm.trans H; rw [hy786]; with_reducible exact H2_) | (have H2_ := (Option.bind_some _ _).symm.trans H; with_reducible exact H2_) | with_reducible exact H | (rw [hy786]; exact H) | exact H
    have Ny786 := Aside0.mk hy786
    clear hy786
    have H' := Aside0.mk H
    clear H
    have p780 : 0 ≤ (x6_1 : Int) := dz
    have q780 : x6_1 < (l0.length : Int) := dz
    obtain ⟨ad780, e780, hx780_0, hx780_1, hx780_2, hx780_3⟩ := at_ITerm HR0.out x6_1 p780 q780
    cases e780
    replace hx780_0 := xz HB hx780_0
    replace hx780_1 := xz HB hx780_1
    replace hx780_2 := xz HB hx780_2
    replace hx780_3 := xz HB hx780_3
    replace p780 := eq_true p780
    replace q780 := eq_true q780
    go_wp2_with (first | ((with_reducible refine gate_dst (N := 7) rfl ?_); refine box_event ?hg (N := 7) ?hd (cs := #[.int .i64 0, .int .i64 0, .int .i64 0, .int .i64 0]) (t := 107) ?hr ?_; (case hd => rfl); (case hg => rfl); (case hr => first | (go_simp; done) | (go_simp; rfl)); intro gb781 hg w16 hbox hb; have n0_ := Aside0.mk (Kd.R_below (ozR HO_5) hb); have n1_ := Aside0.mk (below_step (bz HB) hb); have n2_ := Aside0.mk (hbox); have n3_ := Aside0.mk ((by rw [hg]; exact (below_size (bz HB)) : w.heap.size ≤ gb781)); have n4_ := Aside0.mk ((by rw [hg]; exact (below_size (bz HB)) : w.heap.size ≤ gb781)); clear HO_5; clear HB; have HO_5 := n0_; have HB := n1_; have BK781 := n2_; have GW781 := n3_; have GE781 := n4_; clear n0_ n1_ n2_ n3_ n4_; clear hb hbox hg; have hcz17_0 : w16.cell? ⟨gb781, 0, none⟩ = some (.int .i64 0) := (blk_cell BK781.out 0).trans rfl; have hcz17_1 : w16.cell? ⟨gb781, 1, none⟩ = some (.int .i64 0) := (blk_cell BK781.out 1).trans rfl; have hcz17_2 : w16.cell? ⟨gb781, 2, none⟩ = some (.int .i64 0) := (blk_cell BK781.out 2).trans rfl; have hcz17_3 : w16.cell? ⟨gb781, 3, none⟩ = some (.int .i64 0) := (blk_cell BK781.out 3).trans rfl; have hfz17_0 := blk_frozen BK781.out 0; have hfz17_1 := blk_frozen BK781.out 1; have hfz17_2 := blk_frozen BK781.out 2; have hfz17_3 := blk_frozen BK781.out 3; have p785 : 0 ≤ (((rd_ITerm l0 x6_1).f1) : Int) := dz; have q785 : ((rd_ITerm l0 x6_1).f1) < (l1.length : Int) := dz; obtain ⟨ad785, e785, hx785_0⟩ := Kd.at_int HR1.out ((rd_ITerm l0 x6_1).f1) p785 q785; cases e785; have hn785_0 : ad785.block ≠ gb781 := Nat.ne_of_lt (Nat.lt_of_lt_of_le (by have := World.block_lt_of_cell? _ _ hx785_0; first | rwa [add_block] at this | exact this) GW781.out); have hn785_1 : ad785.block ≠ gb781 := Nat.ne_of_lt (Nat.lt_of_lt_of_le (by have := World.block_lt_of_cell? _ _ hx785_0; first | rwa [add_block] at this | exact this) GW781.out); have hn785_2 : ad785.block ≠ gb781 := Nat.ne_of_lt (Nat.lt_of_lt_of_le (by have := World.block_lt_of_cell? _ _ hx785_0; first | rwa [add_block] at this | exact this) GW781.out); have hn785_3 : ad785.block ≠ gb781 := Nat.ne_of_lt (Nat.lt_of_lt_of_le (by have := World.block_lt_of_cell? _ _ hx785_0; first | rwa [add_block] at this | exact this) GW781.out); replace hx785_0 := xz HB hx785_0; replace hx785_0 := (cell_far (p := ⟨gb781, 0, none⟩) (by first | (rw [add_block]; exact hn785_0) | (show (Addr.add _ _).block ≠ _; rw [add_block]; exact hn785_0) | exact hn785_0) (.int .i64 ((rd_ITerm l0 x6_1).f0))).trans hx785_0; replace hx785_0 := (cell_far (p := ⟨gb781, 1, none⟩) (by first | (rw [add_block]; exact hn785_1) | (show (Addr.add _ _).block ≠ _; rw [add_block]; exact hn785_1) | exact hn785_1) (.int .i64 ((rd_ITerm l0 x6_1).f1))).trans hx785_0; replace hx785_0 := (cell_far (p := ⟨gb781, 2, none⟩) (by first | (rw [add_block]; exact hn785_2) | (show (Addr.add _ _).block ≠ _; rw [add_block]; exact hn785_2) | exact hn785_2) (.int .i64 ((rd_ITerm l0 x6_1).f2))).trans hx785_0; replace hx785_0 := (cell_far (p := ⟨gb781, 3, none⟩) (by first | (rw [add_block]; exact hn785_3) | (show (Addr.add _ _).block ≠ _; rw [add_block]; exact hn785_3) | exact hn785_3) (.int .i64 ((rd_ITerm l0 x6_1).f3))).trans hx785_0; clear hn785_0; clear hn785_1; clear hn785_2; clear hn785_3; replace p785 := eq_true p785; replace q785 := eq_true q785) | ((with_reducible refine gate_builtin (b := .append) (xs := #[.tmp 30, .tmp 36]) rfl ?_); at_builtin; refine Kd.R_append (Kd.int .i64) (w0 := w) w.heap.size rfl (.tmp 30) (.tmp 36) 35 3 (.int .i64 0) 8 rfl Try.underlying35 info3 rfl (by decide) (by omega) u5 x5_1 (rd l1 ((rd_ITerm l0 x6_1).f1)) [.int .i64 (rd l1 ((rd_ITerm l0 x6_1).f1))] (fun _ => True) (fun _ => False) rfl (by first | (go_simp; done) | (go_simp; rfl)) ?aP (fun _ hk => hk.elim) ?aF ?aO ?aB ?aS ?aL ?_; (case aP => exact rfl); (case aB => exact (bz1 HB GE781)); (case aF => exact (fun _ _ => trivial)); (case aO => exact (by (with_reducible repeat (first | apply Kd.R_alloc | apply Kd.R_drewN | apply Kd.R_drew)); exact Kd.R_mono (Kd.R_far (p := ⟨gb781, 3, none⟩) (Kd.R_far (p := ⟨gb781, 2, none⟩) (Kd.R_far (p := ⟨gb781, 1, none⟩) (Kd.R_far (p := ⟨gb781, 0, none⟩) (Kd.R_types HO_5.out BK781.out (by decide)) (fun _ hk => hk.2) (.int .i64 ((rd_ITerm l0 x6_1).f0))) (fun _ hk => hk.2) (.int .i64 ((rd_ITerm l0 x6_1).f1))) (fun _ hk => hk.2) (.int .i64 ((rd_ITerm l0 x6_1).f2))) (fun _ hk => hk.2) (.int .i64 ((rd_ITerm l0 x6_1).f3))) (fun _ hk => trivial))); (case aS => exact (below_size (bz1 HB GE781))); (case aL => have := LMc15.out; omega); intro v787 w18 ho hb hg hat; rw [← Ny786.out] at ho; replace BK781 := Aside0.mk (blk_grown (g := gb781) (o := .cells #[.int .i64 ((rd_ITerm l0 x6_1).f0), .int .i64 ((rd_ITerm l0 x6_1).f1), .int .i64 ((rd_ITerm l0 x6_1).f2), .int .i64 ((rd_ITerm l0 x6_1).f3)] 107 (0, 0)) (by (with_reducible repeat (first | refine blk_drewN ?_ _ | refine blk_drew ?_ | refine blk_alloc ?_ _)); refine blk_put (cs := #[.int .i64 ((rd_ITerm l0 x6_1).f0), .int .i64 ((rd_ITerm l0 x6_1).f1), .int .i64 ((rd_ITerm l0 x6_1).f2), .int .i64 0]) ?_ 3 _ rfl; (with_reducible repeat (first | refine blk_drewN ?_ _ | refine blk_drew ?_ | refine blk_alloc ?_ _)); refine blk_put (cs := #[.int .i64 ((rd_ITerm l0 x6_1).f0), .int .i64 ((rd_ITerm l0 x6_1).f1), .int .i64 0, .int .i64 0]) ?_ 2 _ rfl; (with_reducible repeat (first | refine blk_drewN ?_ _ | refine blk_drew ?_ | refine blk_alloc ?_ _)); refine blk_put (cs := #[.int .i64 ((rd_ITerm l0 x6_1).f0), .int .i64 0, .int .i64 0, .int .i64 0]) ?_ 1 _ rfl; (with_reducible repeat (first | refine blk_drewN ?_ _ | refine blk_drew ?_ | refine blk_alloc ?_ _)); refine blk_put (cs := #[.int .i64 0, .int .i64 0, .int .i64 0, .int .i64 0]) ?_ 0 _ rfl; exact kz BK781) hg (Kd.R_ne HO_5.out BK781.out (by decide))); replace HB := Aside0.mk (hb); have HO788 := Aside0.mk (ho); clear HO_5; clear ho hb hg hat))
    go_roundg k1
    case measure => have := HK1.out; omega
    case rel => exact ⟨(y786), (wrap64 (x6_1 + 1)), rq, H', ⟨by have := HK1.out; omega⟩, ⟨ozR HO788⟩, ⟨bz1 HB GE781⟩⟩
   rw [if_neg c12] at H
   have c12b0 : (((rd_ITerm l0 x6_1).f0) == 1) = false := beq_eq_false_iff_ne.mpr c12
   have c12b1 : (((rd_ITerm l0 x6_1).f0) != 1) = true := bne_iff_ne.mpr c12
   by_cases c19 : 0 ≤ ((rd_ITerm l0 x6_1).f2)
   case neg =>
    rw [if_neg c19] at H
    exact absurd H (by simp)
   rw [if_pos c19] at H
   have c19b0 : decide (0 ≤ ((rd_ITerm l0 x6_1).f2)) = true := decide_eq_true c19
   clear c19
   by_cases c20 : ((rd_ITerm l0 x6_1).f2) < (x5_1.length : Int)
   case neg =>
    rw [if_neg c20] at H
    exact absurd H (by simp)
   rw [if_pos c20] at H
   have c20b0 : decide (((rd_ITerm l0 x6_1).f2) < (x5_1.length : Int)) = true := decide_eq_true c20
   clear c20
   by_cases c21 : 0 ≤ ((rd_ITerm l0 x6_1).f3)
   case neg =>
    rw [if_neg c21] at H
    exact absurd H (by simp)
   rw [if_pos c21] at H
   have c21b0 : decide (0 ≤ ((rd_ITerm l0 x6_1).f3)) = true := decide_eq_true c21
   clear c21
   by_cases c22 : ((rd_ITerm l0 x6_1).f3) < (x5_1.length : Int)
   case neg =>
    rw [if_neg c22] at H
    exact absurd H (by simp)
   rw [if_pos c22] at H
   have c22b0 : decide (((rd_ITerm l0 x6_1).f3) < (x5_1.length : Int)) = true := decide_eq_true c22
   clear c22
   replace H := Option.bind_eq_some_iff.mp H
   obtain ⟨t791, A230, H⟩ := H
   have A23 := Aside0.mk A230
   clear A230
   by_cases c24 : x5_1.length < 17592186044416
   case neg =>
    rw [if_neg c24] at H
    exact absurd H (by simp)
   rw [if_pos c24] at H
   have LMc24 := Aside0.mk c24
   clear c24
   obtain ⟨y792, hy792⟩ : ∃ y_ : List Int, y_ = (x5_1 ++ [t791]) := ⟨_, rfl⟩
   replace H : (spec_l1Values.l0 k1 l0 l1 y792 (wrap64 (x6_1 + 1))) = some r := by first | (rw [hy792]; with_reducible exact H) | (have H2_ := (Option.bind_some _ _).symm.trans H; rw [hy792]; with_reducible exact H2_) | (have H2_ := (Option.bind_some _ _).symm.trans H; with_reducible exact H2_) | with_reducible exact H | (rw [hy792]; exact H) | exact H
   have Ny792 := Aside0.mk hy792
   clear hy792
   have H' := Aside0.mk H
   clear H
   have p780 : 0 ≤ (x6_1 : Int) := dz
   have q780 : x6_1 < (l0.length : Int) := dz
   obtain ⟨ad780, e780, hx780_0, hx780_1, hx780_2, hx780_3⟩ := at_ITerm HR0.out x6_1 p780 q780
   cases e780
   replace hx780_0 := xz HB hx780_0
   replace hx780_1 := xz HB hx780_1
   replace hx780_2 := xz HB hx780_2
   replace hx780_3 := xz HB hx780_3
   replace p780 := eq_true p780
   replace q780 := eq_true q780
   try go_wp2_with (first | ((with_reducible refine gate_dst (N := 7) rfl ?_); refine box_event ?hg (N := 7) ?hd (cs := #[.int .i64 0, .int .i64 0, .int .i64 0, .int .i64 0]) (t := 107) ?hr ?_; (case hd => rfl); (case hg => rfl); (case hr => first | (go_simp; done) | (go_simp; rfl)); intro gb781 hg w25 hbox hb; have n0_ := Aside0.mk (Kd.R_below (ozR HO_5) hb); have n1_ := Aside0.mk (below_step (bz HB) hb); have n2_ := Aside0.mk (hbox); have n3_ := Aside0.mk ((by rw [hg]; exact (below_size (bz HB)) : w.heap.size ≤ gb781)); have n4_ := Aside0.mk ((by rw [hg]; exact (below_size (bz HB)) : w.heap.size ≤ gb781)); clear HO_5; clear HB; have HO_5 := n0_; have HB := n1_; have BK781 := n2_; have GW781 := n3_; have GE781 := n4_; clear n0_ n1_ n2_ n3_ n4_; clear hb hbox hg; have hcz26_0 : w25.cell? ⟨gb781, 0, none⟩ = some (.int .i64 0) := (blk_cell BK781.out 0).trans rfl; have hcz26_1 : w25.cell? ⟨gb781, 1, none⟩ = some (.int .i64 0) := (blk_cell BK781.out 1).trans rfl; have hcz26_2 : w25.cell? ⟨gb781, 2, none⟩ = some (.int .i64 0) := (blk_cell BK781.out 2).trans rfl; have hcz26_3 : w25.cell? ⟨gb781, 3, none⟩ = some (.int .i64 0) := (blk_cell BK781.out 3).trans rfl; have hfz26_0 := blk_frozen BK781.out 0; have hfz26_1 := blk_frozen BK781.out 1; have hfz26_2 := blk_frozen BK781.out 2; have hfz26_3 := blk_frozen BK781.out 3))
   have n0_ : Aside0 (Kd.R (Kd.int .i64) 3 ((((w25.setCell ⟨gb781, 0, none⟩ (.int .i64 ((rd_ITerm l0 x6_1).f0))).setCell ⟨gb781, 1, none⟩ (.int .i64 ((rd_ITerm l0 x6_1).f1))).setCell ⟨gb781, 2, none⟩ (.int .i64 ((rd_ITerm l0 x6_1).f2))).setCell ⟨gb781, 3, none⟩ (.int .i64 ((rd_ITerm l0 x6_1).f3))) w.heap.size (fun _ => True) u5 x5_1) := ⟨by (with_reducible repeat (first | apply Kd.R_alloc | apply Kd.R_drewN | apply Kd.R_drew)); exact Kd.R_mono (Kd.R_far (p := ⟨gb781, 3, none⟩) (Kd.R_far (p := ⟨gb781, 2, none⟩) (Kd.R_far (p := ⟨gb781, 1, none⟩) (Kd.R_far (p := ⟨gb781, 0, none⟩) (Kd.R_types HO_5.out BK781.out (by decide)) (fun _ hk => hk.2) (.int .i64 ((rd_ITerm l0 x6_1).f0))) (fun _ hk => hk.2) (.int .i64 ((rd_ITerm l0 x6_1).f1))) (fun _ hk => hk.2) (.int .i64 ((rd_ITerm l0 x6_1).f2))) (fun _ hk => hk.2) (.int .i64 ((rd_ITerm l0 x6_1).f3))) (fun _ hk => trivial)⟩
   have n1_ : Aside0 (((((w25.setCell ⟨gb781, 0, none⟩ (.int .i64 ((rd_ITerm l0 x6_1).f0))).setCell ⟨gb781, 1, none⟩ (.int .i64 ((rd_ITerm l0 x6_1).f1))).setCell ⟨gb781, 2, none⟩ (.int .i64 ((rd_ITerm l0 x6_1).f2))).setCell ⟨gb781, 3, none⟩ (.int .i64 ((rd_ITerm l0 x6_1).f3))).heap[gb781]? = some (.cells #[.int .i64 ((rd_ITerm l0 x6_1).f0), .int .i64 ((rd_ITerm l0 x6_1).f1), .int .i64 ((rd_ITerm l0 x6_1).f2), .int .i64 ((rd_ITerm l0 x6_1).f3)] 107 (0, 0))) := ⟨by (with_reducible repeat (first | refine blk_drewN ?_ _ | refine blk_drew ?_ | refine blk_alloc ?_ _)); refine blk_put (cs := #[.int .i64 ((rd_ITerm l0 x6_1).f0), .int .i64 ((rd_ITerm l0 x6_1).f1), .int .i64 ((rd_ITerm l0 x6_1).f2), .int .i64 0]) ?_ 3 _ rfl; (with_reducible repeat (first | refine blk_drewN ?_ _ | refine blk_drew ?_ | refine blk_alloc ?_ _)); refine blk_put (cs := #[.int .i64 ((rd_ITerm l0 x6_1).f0), .int .i64 ((rd_ITerm l0 x6_1).f1), .int .i64 0, .int .i64 0]) ?_ 2 _ rfl; (with_reducible repeat (first | refine blk_drewN ?_ _ | refine blk_drew ?_ | refine blk_alloc ?_ _)); refine blk_put (cs := #[.int .i64 ((rd_ITerm l0 x6_1).f0), .int .i64 0, .int .i64 0, .int .i64 0]) ?_ 1 _ rfl; (with_reducible repeat (first | refine blk_drewN ?_ _ | refine blk_drew ?_ | refine blk_alloc ?_ _)); refine blk_put (cs := #[.int .i64 0, .int .i64 0, .int .i64 0, .int .i64 0]) ?_ 0 _ rfl; exact kz BK781⟩
   have n2_ : Aside0 (Below w.heap.size w ((((w25.setCell ⟨gb781, 0, none⟩ (.int .i64 ((rd_ITerm l0 x6_1).f0))).setCell ⟨gb781, 1, none⟩ (.int .i64 ((rd_ITerm l0 x6_1).f1))).setCell ⟨gb781, 2, none⟩ (.int .i64 ((rd_ITerm l0 x6_1).f2))).setCell ⟨gb781, 3, none⟩ (.int .i64 ((rd_ITerm l0 x6_1).f3)))) := ⟨bz1 HB GE781⟩
   (try clear HO_5)
   (try clear BK781)
   (try clear HB)
   generalize ((((w25.setCell ⟨gb781, 0, none⟩ (.int .i64 ((rd_ITerm l0 x6_1).f0))).setCell ⟨gb781, 1, none⟩ (.int .i64 ((rd_ITerm l0 x6_1).f1))).setCell ⟨gb781, 2, none⟩ (.int .i64 ((rd_ITerm l0 x6_1).f2))).setCell ⟨gb781, 3, none⟩ (.int .i64 ((rd_ITerm l0 x6_1).f3))) = w27 at n0_ n1_ n2_ ⊢
   have HO_5 := n0_
   have BK781 := n1_
   have HB := n2_
   clear n0_ n1_ n2_
   have n0_ := Aside0.mk (Kd.R_drew HO_5.out)
   have n1_ := Aside0.mk (blk_drew BK781.out)
   have n2_ := Aside0.mk (below_drew1 HB.out)
   clear HO_5
   clear BK781
   clear HB
   have HO_5 := n0_
   have BK781 := n1_
   have HB := n2_
   clear n0_ n1_ n2_
   obtain ⟨Ao29, co29, eo29⟩ := Kd.R_slice HO_5.out
   (first | subst eo29 | (injection eo29 with f1_ f2_ f3_; have f4_ := f1_.symm; have f5_ := f3_.symm; clear f1_ f2_ f3_; subst f4_; subst f5_))
   have p789 : 0 ≤ (((rd_ITerm l0 x6_1).f2) : Int) := dz
   have q789 : ((rd_ITerm l0 x6_1).f2) < (x5_1.length : Int) := dz
   obtain ⟨ad789, e789, hx789_0⟩ := Kd.at_int (Kd.R_reads' HO_5.out).2.2 ((rd_ITerm l0 x6_1).f2) p789 q789
   cases e789
   replace p789 := eq_true p789
   replace q789 := eq_true q789
   have p790 : 0 ≤ (((rd_ITerm l0 x6_1).f3) : Int) := dz
   have q790 : ((rd_ITerm l0 x6_1).f3) < (x5_1.length : Int) := dz
   obtain ⟨ad790, e790, hx790_0⟩ := Kd.at_int (Kd.R_reads' HO_5.out).2.2 ((rd_ITerm l0 x6_1).f3) p790 q790
   obtain rfl : ad789 = ad790 := (by injection e790)
   replace p790 := eq_true p790
   replace q790 := eq_true q790
   refine start_ (n := 17) (S := fun w' => w'.cell? ⟨gb781, 0, none⟩ = some (.int .i64 ((rd_ITerm l0 x6_1).f0)) ∧ w'.cell? ⟨gb781, 1, none⟩ = some (.int .i64 ((rd_ITerm l0 x6_1).f1)) ∧ w'.cell? ⟨gb781, 2, none⟩ = some (.int .i64 ((rd_ITerm l0 x6_1).f2)) ∧ w'.cell? ⟨gb781, 3, none⟩ = some (.int .i64 ((rd_ITerm l0 x6_1).f3)) ∧ w'.cell? (ad789.add (((rd_ITerm l0 x6_1).f2)).toNat) = some (.int .i64 (rd x5_1 ((rd_ITerm l0 x6_1).f2))) ∧ w'.cell? (ad789.add (((rd_ITerm l0 x6_1).f3)).toNat) = some (.int .i64 (rd x5_1 ((rd_ITerm l0 x6_1).f3)))) (ds := [14, 15]) #[false, false, false, false, false, false, false, false, false, false, false, false, false, false, false, false, false] (by kernel_rfl) rfl rfl ⟨(blk_cell BK781.out 0).trans rfl, (blk_cell BK781.out 1).trans rfl, (blk_cell BK781.out 2).trans rfl, (blk_cell BK781.out 3).trans rfl, hx789_0, hx790_0⟩ (fun hHeld => ?_); refine with_tabW spec_l1Values.tab10 spec_l1Values.bits10 (fun HT_ HW_ => ?_)
   generalize w27.drew = w28 at HO_5 BK781 HB hx789_0 hx790_0 hHeld ⊢
   refine pure_ (i := 0) (N := some 38) (v := ?_) (a' := ?_) #[true, false, false, false, false, false, false, false, false, false, false, false, false, false, false, false, false] rfl rfl (any_of HT_.out (by kernel_rfl)) (fun _ _ _ h => h) (Or.inl ⟨by rfl, ?_⟩) ?_ ?_
   rotate_left
   ·
    intro w'
    go_simp
    with_reducible rfl
   rotate_left
   ·
    simp only [Act.put, sb_, sc0_, sc1_, i64_w, i32_w]
    rfl
   refine pure_ (i := 1) (N := some 39) (v := ?_) (a' := ?_) #[true, true, false, false, false, false, false, false, false, false, false, false, false, false, false, false, false] rfl rfl (any_of HT_.out (by kernel_rfl)) (fun _ _ _ h => h) (Or.inl ⟨by rfl, ?_⟩) ?_ ?_
   rotate_left
   ·
    intro w'
    go_simp
    with_reducible rfl
   rotate_left
   ·
    simp only [Act.put, sb_, sc0_, sc1_, i64_w, i32_w]
    rfl
   refine pure_ (i := 3) (N := some 41) (v := ?_) (a' := ?_) #[true, true, false, true, false, false, false, false, false, false, false, false, false, false, false, false, false] rfl rfl (any_of HT_.out (by kernel_rfl)) (fun _ _ _ h => h) (Or.inl ⟨by rfl, ?_⟩) ?_ ?_
   rotate_left
   ·
    intro w'
    go_simp
    with_reducible rfl
   rotate_left
   ·
    simp only [Act.put, sb_, sc0_, sc1_, i64_w, i32_w]
    rfl
   refine pure_ (i := 4) (N := some 42) (v := ?_) (a' := ?_) #[true, true, false, true, true, false, false, false, false, false, false, false, false, false, false, false, false] rfl rfl (any_of HT_.out (by kernel_rfl)) (fun _ _ _ h => h) (Or.inl ⟨by rfl, ?_⟩) ?_ ?_
   rotate_left
   ·
    intro w'
    go_simp
    with_reducible rfl
   rotate_left
   ·
    simp only [Act.put, sb_, sc0_, sc1_, i64_w, i32_w]
    rfl
   refine pure_ (i := 8) (N := some 46) (v := ?_) (a' := ?_) #[true, true, false, true, true, false, false, false, true, false, false, false, false, false, false, false, false] rfl rfl (any_of HT_.out (by kernel_rfl)) (fun _ _ _ h => h) (Or.inl ⟨by rfl, ?_⟩) ?_ ?_
   rotate_left
   ·
    intro w'
    go_simp
    with_reducible rfl
   rotate_left
   ·
    simp only [Act.put, sb_, sc0_, sc1_, i64_w, i32_w]
    rfl
   refine pure_ (i := 9) (N := some 47) (v := ?_) (a' := ?_) #[true, true, false, true, true, false, false, false, true, true, false, false, false, false, false, false, false] rfl rfl (any_of HT_.out (by kernel_rfl)) (fun _ _ _ h => h) (Or.inl ⟨by rfl, ?_⟩) ?_ ?_
   rotate_left
   ·
    intro w'
    go_simp
    with_reducible rfl
   rotate_left
   ·
    simp only [Act.put, sb_, sc0_, sc1_, i64_w, i32_w]
    rfl
   refine take_ (i := 2) (N := some 40) (v := ?_) (a' := ?_) #[true, true, true, true, true, false, false, false, true, true, false, false, false, false, false, false, false] rfl rfl (take_ofW HT_.out HW_.out (by kernel_rfl)) (fun _ _ _ h => h) (Or.inl ⟨by rfl, ?_⟩) hHeld ?_ ?_
   rotate_left
   ·
    rintro w' ⟨s0, s1, s2, s3, s4, s5⟩
    go_simp
    with_reducible rfl
   rotate_left
   ·
    simp only [Act.put, sb_, sc0_, sc1_, i64_w, i32_w]
    rfl
   refine take_ (i := 5) (N := some 43) (v := ?_) (a' := ?_) #[true, true, true, true, true, true, false, false, true, true, false, false, false, false, false, false, false] rfl rfl (take_ofW HT_.out HW_.out (by kernel_rfl)) (fun _ _ _ h => h) (Or.inl ⟨by rfl, ?_⟩) hHeld ?_ ?_
   rotate_left
   ·
    rintro w' ⟨s0, s1, s2, s3, s4, s5⟩
    go_simp
    with_reducible rfl
   rotate_left
   ·
    simp only [Act.put, sb_, sc0_, sc1_, i64_w, i32_w]
    rfl
   refine pure_ (i := 6) (N := some 44) (v := ?_) (a' := ?_) #[true, true, true, true, true, true, true, false, true, true, false, false, false, false, false, false, false] rfl rfl (any_of HT_.out (by kernel_rfl)) (fun _ _ _ h => h) (Or.inl ⟨by rfl, ?_⟩) ?_ ?_
   rotate_left
   ·
    intro w'
    go_simp
    with_reducible rfl
   rotate_left
   ·
    simp only [Act.put, sb_, sc0_, sc1_, i64_w, i32_w]
    rfl
   refine take_ (i := 7) (N := some 45) (v := ?_) (a' := ?_) #[true, true, true, true, true, true, true, true, true, true, false, false, false, false, false, false, false] rfl rfl (take_ofW HT_.out HW_.out (by kernel_rfl)) (fun _ _ _ h => h) (Or.inl ⟨by rfl, ?_⟩) hHeld ?_ ?_
   rotate_left
   ·
    rintro w' ⟨s0, s1, s2, s3, s4, s5⟩
    go_simp
    with_reducible rfl
   rotate_left
   ·
    simp only [Act.put, sb_, sc0_, sc1_, i64_w, i32_w]
    rfl
   refine take_ (i := 10) (N := some 48) (v := ?_) (a' := ?_) #[true, true, true, true, true, true, true, true, true, true, true, false, false, false, false, false, false] rfl rfl (take_ofW HT_.out HW_.out (by kernel_rfl)) (fun _ _ _ h => h) (Or.inl ⟨by rfl, ?_⟩) hHeld ?_ ?_
   rotate_left
   ·
    rintro w' ⟨s0, s1, s2, s3, s4, s5⟩
    go_simp
    with_reducible rfl
   rotate_left
   ·
    simp only [Act.put, sb_, sc0_, sc1_, i64_w, i32_w]
    rfl
   refine pure_ (i := 11) (N := some 49) (v := ?_) (a' := ?_) #[true, true, true, true, true, true, true, true, true, true, true, true, false, false, false, false, false] rfl rfl (any_of HT_.out (by kernel_rfl)) (fun _ _ _ h => h) (Or.inl ⟨by rfl, ?_⟩) ?_ ?_
   rotate_left
   ·
    intro w'
    go_simp
    with_reducible rfl
   rotate_left
   ·
    simp only [Act.put, sb_, sc0_, sc1_, i64_w, i32_w]
    rfl
   refine take_ (i := 12) (N := some 50) (v := ?_) (a' := ?_) #[true, true, true, true, true, true, true, true, true, true, true, true, true, false, false, false, false] rfl rfl (take_ofW HT_.out HW_.out (by kernel_rfl)) (fun _ _ _ h => h) (Or.inl ⟨by rfl, ?_⟩) hHeld ?_ ?_
   rotate_left
   ·
    rintro w' ⟨s0, s1, s2, s3, s4, s5⟩
    go_simp
    with_reducible rfl
   rotate_left
   ·
    simp only [Act.put, sb_, sc0_, sc1_, i64_w, i32_w]
    rfl
   refine one_ (i := 13) (N := some 51) #[true, true, true, true, true, true, true, true, true, true, true, true, true, true, false, false, false] rfl rfl (one_of HT_.out (by kernel_rfl)) (by decide) (fun K hK => ?_)
   refine goes_ Try.func129 (by kernel_rfl) rfl #[.int .i64 ((rd_ITerm l0 x6_1).f0), .int .i64 (rd x5_1 ((rd_ITerm l0 x6_1).f2)), .int .i64 (rd x5_1 ((rd_ITerm l0 x6_1).f3))] (by rfl) rfl rfl az ?_
   with_reducible refine (spec_l1Do.calls ((rd_ITerm l0 x6_1).f0) (rd x5_1 ((rd_ITerm l0 x6_1).f2)) (rd x5_1 ((rd_ITerm l0 x6_1).f3)) t791 _ A23.out).mono ?_
   rintro e w' ⟨rfl, ⟨nd, rfl⟩⟩
   refine ⟨_, rfl, ?_⟩
   refine hK.out _ _ ⟨(blk_cell BK781.out 0).trans rfl, (blk_cell BK781.out 1).trans rfl, (blk_cell BK781.out 2).trans rfl, (blk_cell BK781.out 3).trans rfl, hHeld.2.2.2.2.1, hHeld.2.2.2.2.2⟩ (fun hHeld => ?_)
   clear hK K
   refine norm_ (a' := ?_) ?_ ?_
   rotate_left
   ·
    show Act.put _ (some 51) _ = _
    simp only [Act.put, sb_, sc0_, sc1_, i64_w, i32_w]
    rfl
   refine last_ (i := 14) (N := some 52) #[true, true, true, true, true, true, true, true, true, true, true, true, true, true, true, false, false] rfl rfl (one_of HT_.out (by kernel_rfl)) (by decide) (fun K hK => ?_)
   refine value_ (w1 := ?_) (v := ?_) (by rfl) rfl ?_ ?_
   rotate_left 2
   ·
    go_simp
    constructor
    ·
     rfl
    ·
     rfl
   refine hK.out _ _ ?_
   clear hK K
   refine norm_ (a' := ?_) ?_ ?_
   rotate_left
   ·
    show Act.put _ (some 52) _ = _
    simp only [Act.put, sb_, sc0_, sc1_, i64_w, i32_w]
    rfl
   refine last_ (i := 15) (N := some 53) #[true, true, true, true, true, true, true, true, true, true, true, true, true, true, true, true, false] rfl rfl (one_of HT_.out (by kernel_rfl)) (by decide) (fun K hK => ?_)
   refine Kd.R_append_step (Kd.int .i64) (w0 := w) w.heap.size (by rfl) (.tmp 38) (.tmp 52) 35 3 (.int .i64 0) 8 rfl Try.underlying35 info3 rfl (by decide) (by omega) (.slice (some ad789) x5_1.length co29) x5_1 t791 [.int .i64 t791] (fun _ => True) (fun _ => False) rfl rfl ?aP (fun _ hk => hk.elim) ?aF ?aO ?aB ?aS ?aL ?_
   (case aP => exact rfl)
   (case aB => exact (bz1 HB GE781))
   (case aF => exact (fun _ _ => trivial))
   (case aO => exact (ozR HO_5))
   (case aS => exact (below_size (bz1 HB GE781)))
   (case aL => have := LMc24.out; omega)
   intro v793 w30 ho hb hg hat
   rw [← Ny792.out] at ho
   have n0_ := Aside0.mk (blk_grown (g := gb781) (o := .cells #[.int .i64 ((rd_ITerm l0 x6_1).f0), .int .i64 ((rd_ITerm l0 x6_1).f1), .int .i64 ((rd_ITerm l0 x6_1).f2), .int .i64 ((rd_ITerm l0 x6_1).f3)] 107 (0, 0)) (kz BK781) hg (Kd.R_ne HO_5.out BK781.out (by decide)))
   have n1_ := Aside0.mk (hb)
   have n2_ := Aside0.mk (ho)
   clear BK781
   clear HB
   clear HO_5
   have BK781 := n0_
   have HB := n1_
   have HO794 := n2_
   clear n0_ n1_ n2_
   clear ho hb hg hat
   refine hK.out _ _ ?_
   clear hK K
   refine norm_ (a' := ?_) ?_ ?_
   rotate_left
   ·
    show Act.put _ (some 53) _ = _
    simp only [Act.put, sb_, sc0_, sc1_, i64_w, i32_w]
    rfl
   refine pure_ (i := 16) (N := some 5) (v := ?_) (a' := ?_) #[true, true, true, true, true, true, true, true, true, true, true, true, true, true, true, true, true] rfl rfl (any_of HT_.out (by kernel_rfl)) (fun _ _ _ h => h) (Or.inl ⟨by rfl, ?_⟩) ?_ ?_
   rotate_left
   ·
    intro w'
    go_simp
    with_reducible rfl
   rotate_left
   ·
    simp only [Act.put, sb_, sc0_, sc1_, i64_w, i32_w]
    rfl
   refine done_ (done_of HT_.out (by kernel_rfl)) ?_
   try go_wp2
   go_roundg k1
   case measure => have := HK1.out; omega
   case rel => exact ⟨(y792), (wrap64 (x6_1 + 1)), rq, H', ⟨by have := HK1.out; omega⟩, ⟨ozR HO794⟩, ⟨bz1 HB GE781⟩⟩
end Go.Proofs.Ytoofhjflfpccdaa.PA
end
section
namespace Go.Proofs.Ytoofhjflfpccdaa.PA
open Go.RowKit Go.Proofs.YtoofhjflfpccdaaW.PrintWords Go.Proofs.YtoofhjflfpccdaaW.PrintLast Go.Proofs.YtoofhjflfpccdaaW.PrintMore
attribute [local go_sem] max2_int min2_int max_two min_two max_three min_three max_four min_four   -- for this text's walks alone
set_option linter.unusedVariables false
set_option linter.unusedSimpArgs false
set_option maxHeartbeats 8000000 in
set_option maxRecDepth 100000 in
theorem spec_l2Last.calls (k : Nat) (A0 : Option Addr) (c0 : Nat) (l0 : List (ITerm)) (A1 : Option Addr) (c1 : Nat) (l1 : List Int) (r : Int) (w : World) (hr0 : Kd.C k107 w A0 l0.length l0) (hc0 : l0.length ≤ c0) (hr1 : Kd.C (Kd.int .i64) w A1 l1.length l1) (hc1 : l1.length ≤ c1) (h : spec_l2Last.f k l0 l1 = some r) :
  Calls Try.prog 109 #[.slice A0 l0.length c0, .slice A1 l1.length c1] w fun e w' => e = .returned (.int .i64 r) ∧ Below w.heap.size w w' := by
 have HR0 := Aside0.mk hr0
 have HC0 := Aside0.mk hc0
 clear hr0 hc0
 have HR1 := Aside0.mk hr1
 have HC1 := Aside0.mk hc1
 clear hr1 hc1
 have HB := Aside0.mk (Below.refl w.heap.size w)
 have H : ((spec_l1Values.f k l0 l1).bind fun t795 => (if 0 ≤ (wrap64 ((l0.length : Int) - 1)) then (if (wrap64 ((l0.length : Int) - 1)) < (t795.length : Int) then (some (rd t795 (wrap64 ((l0.length : Int) - 1)))) else (none)) else (none))) = some r := h
 clear h
 replace H := Option.bind_eq_some_iff.mp H
 obtain ⟨t795, A30, H⟩ := H
 have A3 := Aside0.mk A30
 clear A30
 obtain ⟨ji4, hji4⟩ : ∃ j_ : Int, (wrap64 ((l0.length : Int) - 1)) = j_ := ⟨_, rfl⟩
 replace H : (if 0 ≤ (ji4) then (if (ji4) < (t795.length : Int) then (some (rd t795 (ji4))) else (none)) else (none)) = some r := by first | (rw [hji4] at H; exact H) | (simp only [hji4] at H ⊢; exact H)
 (try rw [hji4] at A3)
 have hji4w : (IntKind.i64.wrap ((l0.length : Int) - 1)) = ji4 := (i64_w _).trans hji4
 by_cases c5 : 0 ≤ (ji4)
 case neg =>
  rw [if_neg c5] at H
  exact absurd H (by simp)
 rw [if_pos c5] at H
 have c5b0 : decide (0 ≤ (ji4)) = true := decide_eq_true c5
 clear c5
 by_cases c6 : (ji4) < (t795.length : Int)
 case neg =>
  rw [if_neg c6] at H
  exact absurd H (by simp)
 rw [if_pos c6] at H
 have c6b0 : decide ((ji4) < (t795.length : Int)) = true := decide_eq_true c6
 clear c6
 obtain rfl := Option.some.inj H
 go_enter Try.func109, Try.ntmps109
 go_wp2_with (first | ((with_reducible refine gate_callee (f := 123) rfl ?_); refine goesL_ (some 7) rfl rfl Try.func123 (by kernel_rfl) rfl #[.slice A0 l0.length c0, .slice A1 l1.length c1] rfl az ?_; (with_reducible refine (spec_l1Values.calls k _ _ l0 _ _ l1 t795 _ ?side1 HC0.out ?side3 HC1.out A3.out).mono ?_); (case side1 => exact cz0 HR0); (case side3 => exact cz0 HR1); rintro e w7 ⟨v796, rfl, ho0, hb⟩; refine ⟨_, rfl, ?_⟩; have HO797 := Aside0.mk (Kd.R_lower ho0 (below_size (bz HB))); replace HB := Aside0.mk (below_step (bz HB) hb); clear hb; (try clear ho0); obtain ⟨Ao8, co8, eo8⟩ := Kd.R_slice HO797.out; subst eo8; have p798 : 0 ≤ ((ji4) : Int) := dz; have q798 : (ji4) < (t795.length : Int) := dz; obtain ⟨ad798, e798, hx798_0⟩ := Kd.at_int (Kd.R_reads' HO797.out).2.2 (ji4) p798 q798; cases e798; replace p798 := eq_true p798; replace q798 := eq_true q798))
 go_ret
 exact ⟨by first | rfl | (simp <;> rfl) | (simp only [← hji4]; first | rfl | (simp <;> rfl)) | (simp [*] <;> rfl), bz HB⟩
end Go.Proofs.Ytoofhjflfpccdaa.PA
end
section
namespace Go.Proofs.Ytoofhjflfpccdaa.PA
open Go.RowKit Go.Proofs.YtoofhjflfpccdaaW.PrintWords Go.Proofs.YtoofhjflfpccdaaW.PrintLast Go.Proofs.YtoofhjflfpccdaaW.PrintMore
attribute [local go_sem] max2_int min2_int max_two min_two max_three min_three max_four min_four   -- for this text's walks alone
set_option linter.unusedVariables false
set_option linter.unusedSimpArgs false
def spec_l2Use.T12 : Bool × List (List Nat × List Nat) := (true, [([], []), ([], []), ([1], [1]), ([], []), ([2, 3], [2, 3]), ([4], [4]), ([], []), ([6], [6]), ([], []), ([7, 8], [7, 8]), ([9], [9]), ([], []), ([10, 11], [10, 11]), ([0, 5, 0, 1, 2, 3, 4, 5, 6, 7, 8, 9, 10, 11, 12], [0, 5]), ([13, 12, 12, 0, 1, 2, 3, 4, 5, 6, 7, 8, 9, 10, 11, 12], [12, 13])])
def spec_l2Use.B12 : List Nat := [0, 0, 2, 0, 14, 30, 0, 64, 0, 448, 960, 0, 4032, 8191, 16383]
theorem spec_l2Use.tab12 : rtab .any (opsOf Try.f81 12) = spec_l2Use.T12 := by kernel_rfl
theorem spec_l2Use.bits12 : waitsOk spec_l2Use.T12.2 spec_l2Use.B12 = true := by kernel_rfl
set_option maxHeartbeats 8000000 in
set_option maxRecDepth 100000 in
theorem spec_l2Use.calls (k : Nat) (A0_0 : Option Addr) (c0_0 : Nat) (l0_0 : List (IVar)) (A0_1 : Option Addr) (c0_1 : Nat) (l0_1 : List (IRule)) (A1 : Option Addr) (c1 : Nat) (l1 : List Int) (a2 : Int) (r : List Int) (w : World) (hr0_0 : Kd.C k62 w A0_0 l0_0.length l0_0) (hc0_0 : l0_0.length ≤ c0_0) (hr0_1 : Kd.C k81 w A0_1 l0_1.length l0_1) (hc0_1 : l0_1.length ≤ c0_1) (hr1 : Kd.C (Kd.int .i64) w A1 l1.length l1) (hc1 : l1.length ≤ c1) (h : spec_l2Use.f k l0_0 l0_1 l1 a2 = some r) :
  Calls Try.prog 81 #[.agg #[.slice A0_0 l0_0.length c0_0, .slice A0_1 l0_1.length c0_1], .slice A1 l1.length c1, .int .i64 a2] w fun e w' => ∃ v0_ : Value, e = .returned (v0_) ∧ Kd.R (Kd.int .i64) 3 w' w.heap.size (fun _ => True) v0_ r ∧ Below w.heap.size w w' := by
 have hu31 := Try.underlying31
 have hu81 := Try.underlying81
 have HR0_0 := Aside0.mk hr0_0
 have HC0_0 := Aside0.mk hc0_0
 clear hr0_0 hc0_0
 have HR0_1 := Aside0.mk hr0_1
 have HC0_1 := Aside0.mk hc0_1
 clear hr0_1 hc0_1
 have HR1 := Aside0.mk hr1
 have HC1 := Aside0.mk hc1
 clear hr1 hc1
 have HB := Aside0.mk (Below.refl w.heap.size w)
 have H : (if 0 ≤ a2 then (if a2 < (l0_1.length : Int) then ((spec_l2Last.f k ((rd_IRule l0_1 a2).f0) l1).bind fun t802 => (if t802 = 0 then (some ([] : List Int)) else (spec_l2Use.l0 k l1 (([] : List Int)) 0 l0_0 l0_1 ((rd_IRule l0_1 a2).f0) ((rd_IRule l0_1 a2).f1) ((rd_IRule l0_1 a2).f2)))) else (none)) else (none)) = some r := h
 clear h
 by_cases c4 : 0 ≤ a2
 case neg =>
  rw [if_neg c4] at H
  exact absurd H (by simp)
 rw [if_pos c4] at H
 have c4b0 : decide (0 ≤ a2) = true := decide_eq_true c4
 clear c4
 by_cases c5 : a2 < (l0_1.length : Int)
 case neg =>
  rw [if_neg c5] at H
  exact absurd H (by simp)
 rw [if_pos c5] at H
 have c5b0 : decide (a2 < (l0_1.length : Int)) = true := decide_eq_true c5
 clear c5
 replace H := Option.bind_eq_some_iff.mp H
 obtain ⟨t802, A60, H⟩ := H
 have A6 := Aside0.mk A60
 clear A60
 by_cases c7 : t802 = 0
 case pos =>
  rw [if_pos c7] at H
  have c7b0 : (t802 == 0) = true := beq_iff_eq.mpr c7
  have c7b1 : (t802 != 0) = false := bne_eq_false_iff_eq.mpr c7
  clear c7
  obtain rfl := Option.some.inj H
  go_enter Try.func81, Try.ntmps81
  go_wp2_with (first | ((with_reducible refine gate_dst (N := 3) rfl ?_); refine box_event ?hg (N := 3) ?hd (cs := #[.slice A0_0 l0_0.length c0_0, .slice A0_1 l0_1.length c0_1]) (t := 31) ?hr ?_; (case hd => rfl); (case hg => rfl); (case hr => first | (go_simp; done) | (go_simp; rfl)); intro gb799 hg w8 hbox hb; have n0_ := Aside0.mk (below_step (bz HB) hb); have n1_ := Aside0.mk (hbox); have n2_ := Aside0.mk ((by rw [hg]; exact (below_size (bz HB)) : w.heap.size ≤ gb799)); have n3_ := Aside0.mk ((by rw [hg]; exact (below_size (bz HB)) : w.heap.size ≤ gb799)); clear HB; have HB := n0_; have BK799 := n1_; have GW799 := n2_; have GE799 := n3_; clear n0_ n1_ n2_ n3_; clear hb hbox hg; have hcz9_0 : w8.cell? ⟨gb799, 0, none⟩ = some (.slice A0_0 l0_0.length c0_0) := (blk_cell BK799.out 0).trans rfl; have hcz9_1 : w8.cell? ⟨gb799, 1, none⟩ = some (.slice A0_1 l0_1.length c0_1) := (blk_cell BK799.out 1).trans rfl; have hfz9_0 := blk_frozen BK799.out 0; have hfz9_1 := blk_frozen BK799.out 1; have p800 : 0 ≤ (a2 : Int) := dz; have q800 : a2 < (l0_1.length : Int) := dz; obtain ⟨ad800, A800_0, c800_0, A800_1, c800_1, A800_2, c800_2, e800, hx800_0, hx800_1, hx800_2, hl800_0, hi800_0, hl800_1, hi800_1, hl800_2, hi800_2⟩ := at_IRule HR0_1.out a2 p800 q800; cases e800; replace hx800_0 := xz HB hx800_0; replace hx800_1 := xz HB hx800_1; replace hx800_2 := xz HB hx800_2; have HR800_0 := Aside0.mk hi800_0; have HC800_0 := Aside0.mk hl800_0; clear hi800_0 hl800_0; have HR800_1 := Aside0.mk hi800_1; have HC800_1 := Aside0.mk hl800_1; clear hi800_1 hl800_1; have HR800_2 := Aside0.mk hi800_2; have HC800_2 := Aside0.mk hl800_2; clear hi800_2 hl800_2; replace p800 := eq_true p800; replace q800 := eq_true q800) | ((with_reducible refine gate_dst (N := 7) rfl ?_); refine box_event ?hg (N := 7) ?hd (cs := #[.slice none 0 0, .slice none 0 0, .slice none 0 0]) (t := 81) ?hr ?_; (case hd => rfl); (case hg => rfl); (case hr => first | (go_simp; done) | (go_simp; rfl)); intro gb801 hg w10 hbox hb; have n0_ := Aside0.mk (blk_below (g := gb799) (o := .cells #[.slice A0_0 l0_0.length c0_0, .slice (some ad800) l0_1.length c0_1] 31 (0, 0)) (kz BK799) hb); have n1_ := Aside0.mk (below_step (bz1 HB GE799) hb); have n2_ := Aside0.mk (hbox); have n3_ := Aside0.mk ((by rw [hg]; exact (below_size (bz1 HB GE799)) : w.heap.size ≤ gb801)); have n4_ := Aside0.mk ((by rw [hg]; exact (below_size (bz1 HB GE799)) : w.heap.size ≤ gb801)); have n5_ := Aside0.mk ((by rw [hg]; exact Nat.ne_of_lt (blk_lt (g := gb799) (o := .cells #[.slice A0_0 l0_0.length c0_0, .slice (some ad800) l0_1.length c0_1] 31 (0, 0)) (kz BK799)) : gb799 ≠ gb801)); have n6_ := Aside0.mk ((by rw [hg]; exact Nat.ne_of_gt (blk_lt (g := gb799) (o := .cells #[.slice A0_0 l0_0.length c0_0, .slice (some ad800) l0_1.length c0_1] 31 (0, 0)) (kz BK799)) : gb801 ≠ gb799)); clear BK799; clear HB; have BK799 := n0_; have HB := n1_; have BK801 := n2_; have GW801 := n3_; have GE801 := n4_; have NB799_801 := n5_; have NB801_799 := n6_; clear n0_ n1_ n2_ n3_ n4_ n5_ n6_; clear hb hbox hg; have hnb11 := NB801_799.out; have hnc11 := NB799_801.out; have hcz12_0 : w10.cell? ⟨gb801, 0, none⟩ = some (.slice none 0 0) := (blk_cell BK801.out 0).trans rfl; have hcz12_1 : w10.cell? ⟨gb801, 1, none⟩ = some (.slice none 0 0) := (blk_cell BK801.out 1).trans rfl; have hcz12_2 : w10.cell? ⟨gb801, 2, none⟩ = some (.slice none 0 0) := (blk_cell BK801.out 2).trans rfl; have hfz12_0 := blk_frozen BK801.out 0; have hfz12_1 := blk_frozen BK801.out 1; have hfz12_2 := blk_frozen BK801.out 2) | ((with_reducible refine gate_callee (f := 109) rfl ?_); refine goesL_ (some 19) rfl rfl Try.func109 (by kernel_rfl) rfl #[.slice A800_0 ((rd_IRule l0_1 a2).f0).length c800_0, .slice A1 l1.length c1] rfl az ?_; (with_reducible refine (spec_l2Last.calls k _ _ ((rd_IRule l0_1 a2).f0) _ _ l1 t802 _ ?side1 HC800_0.out ?side3 HC1.out A6.out).mono ?_); (case side1 => exact Kd.C_below HR800_0.out (bz2 HB GE799 GE801)); (case side3 => exact Kd.C_below HR1.out (bz2 HB GE799 GE801)); rintro e w13 ⟨rfl, hb⟩; refine ⟨_, rfl, ?_⟩; replace BK799 := Aside0.mk (blk_below (g := gb799) (o := .cells #[.slice A0_0 l0_0.length c0_0, .slice (some ad800) l0_1.length c0_1] 31 (0, 0)) (by (with_reducible repeat (first | refine blk_drewN ?_ _ | refine blk_drew ?_ | refine blk_alloc ?_ _)); refine blk_far ?_ NB799_801.out _; (with_reducible repeat (first | refine blk_drewN ?_ _ | refine blk_drew ?_ | refine blk_alloc ?_ _)); refine blk_far ?_ NB799_801.out _; (with_reducible repeat (first | refine blk_drewN ?_ _ | refine blk_drew ?_ | refine blk_alloc ?_ _)); refine blk_far ?_ NB799_801.out _; exact kz BK799) hb); replace BK801 := Aside0.mk (blk_below (g := gb801) (o := .cells #[.slice A800_0 ((rd_IRule l0_1 a2).f0).length c800_0, .slice A800_1 ((rd_IRule l0_1 a2).f1).length c800_1, .slice A800_2 ((rd_IRule l0_1 a2).f2).length c800_2] 81 (0, 0)) (by (with_reducible repeat (first | refine blk_drewN ?_ _ | refine blk_drew ?_ | refine blk_alloc ?_ _)); refine blk_put (cs := #[.slice A800_0 ((rd_IRule l0_1 a2).f0).length c800_0, .slice A800_1 ((rd_IRule l0_1 a2).f1).length c800_1, .slice none 0 0]) ?_ 2 _ rfl; (with_reducible repeat (first | refine blk_drewN ?_ _ | refine blk_drew ?_ | refine blk_alloc ?_ _)); refine blk_put (cs := #[.slice A800_0 ((rd_IRule l0_1 a2).f0).length c800_0, .slice none 0 0, .slice none 0 0]) ?_ 1 _ rfl; (with_reducible repeat (first | refine blk_drewN ?_ _ | refine blk_drew ?_ | refine blk_alloc ?_ _)); refine blk_put (cs := #[.slice none 0 0, .slice none 0 0, .slice none 0 0]) ?_ 0 _ rfl; exact kz BK801) hb); replace HB := Aside0.mk (below_step (bz2 HB GE799 GE801) hb); clear hb))
  go_ret
  exact ⟨_, rz, nz, bz2 HB GE799 GE801⟩
 rw [if_neg c7] at H
 have c7b0 : (t802 == 0) = false := beq_eq_false_iff_ne.mpr c7
 have c7b1 : (t802 != 0) = true := bne_iff_ne.mpr c7
 obtain ⟨y803, hy803⟩ : ∃ y_ : List Int, y_ = (([] : List Int)) := ⟨_, rfl⟩
 replace H : (spec_l2Use.l0 k l1 y803 0 l0_0 l0_1 ((rd_IRule l0_1 a2).f0) ((rd_IRule l0_1 a2).f1) ((rd_IRule l0_1 a2).f2)) = some r := by first | (rw [hy803]; with_reducible exact H) | (have H2_ := (Option.bind_some _ _).symm.trans H; rw [hy803]; with_reducible exact H2_) | (have H2_ := (Option.bind_some _ _).symm.trans H; with_reducible exact H2_) | with_reducible exact H | (rw [hy803]; exact H) | exact H
 have Ny803 := Aside0.mk hy803
 clear hy803
 have H' := Aside0.mk H
 clear H
 go_enter Try.func81, Try.ntmps81
 go_wp2_with (first | ((with_reducible refine gate_dst (N := 3) rfl ?_); refine box_event ?hg (N := 3) ?hd (cs := #[.slice A0_0 l0_0.length c0_0, .slice A0_1 l0_1.length c0_1]) (t := 31) ?hr ?_; (case hd => rfl); (case hg => rfl); (case hr => first | (go_simp; done) | (go_simp; rfl)); intro gb799 hg w14 hbox hb; have n0_ := Aside0.mk (below_step (bz HB) hb); have n1_ := Aside0.mk (hbox); have n2_ := Aside0.mk ((by rw [hg]; exact (below_size (bz HB)) : w.heap.size ≤ gb799)); have n3_ := Aside0.mk ((by rw [hg]; exact (below_size (bz HB)) : w.heap.size ≤ gb799)); clear HB; have HB := n0_; have BK799 := n1_; have GW799 := n2_; have GE799 := n3_; clear n0_ n1_ n2_ n3_; clear hb hbox hg; have hcz15_0 : w14.cell? ⟨gb799, 0, none⟩ = some (.slice A0_0 l0_0.length c0_0) := (blk_cell BK799.out 0).trans rfl; have hcz15_1 : w14.cell? ⟨gb799, 1, none⟩ = some (.slice A0_1 l0_1.length c0_1) := (blk_cell BK799.out 1).trans rfl; have hfz15_0 := blk_frozen BK799.out 0; have hfz15_1 := blk_frozen BK799.out 1; have p800 : 0 ≤ (a2 : Int) := dz; have q800 : a2 < (l0_1.length : Int) := dz; obtain ⟨ad800, A800_0, c800_0, A800_1, c800_1, A800_2, c800_2, e800, hx800_0, hx800_1, hx800_2, hl800_0, hi800_0, hl800_1, hi800_1, hl800_2, hi800_2⟩ := at_IRule HR0_1.out a2 p800 q800; cases e800; replace hx800_0 := xz HB hx800_0; replace hx800_1 := xz HB hx800_1; replace hx800_2 := xz HB hx800_2; have HR800_0 := Aside0.mk hi800_0; have HC800_0 := Aside0.mk hl800_0; clear hi800_0 hl800_0; have HR800_1 := Aside0.mk hi800_1; have HC800_1 := Aside0.mk hl800_1; clear hi800_1 hl800_1; have HR800_2 := Aside0.mk hi800_2; have HC800_2 := Aside0.mk hl800_2; clear hi800_2 hl800_2; replace p800 := eq_true p800; replace q800 := eq_true q800) | ((with_reducible refine gate_dst (N := 7) rfl ?_); refine box_event ?hg (N := 7) ?hd (cs := #[.slice none 0 0, .slice none 0 0, .slice none 0 0]) (t := 81) ?hr ?_; (case hd => rfl); (case hg => rfl); (case hr => first | (go_simp; done) | (go_simp; rfl)); intro gb801 hg w16 hbox hb; have n0_ := Aside0.mk (blk_below (g := gb799) (o := .cells #[.slice A0_0 l0_0.length c0_0, .slice (some ad800) l0_1.length c0_1] 31 (0, 0)) (kz BK799) hb); have n1_ := Aside0.mk (below_step (bz1 HB GE799) hb); have n2_ := Aside0.mk (hbox); have n3_ := Aside0.mk ((by rw [hg]; exact (below_size (bz1 HB GE799)) : w.heap.size ≤ gb801)); have n4_ := Aside0.mk ((by rw [hg]; exact (below_size (bz1 HB GE799)) : w.heap.size ≤ gb801)); have n5_ := Aside0.mk ((by rw [hg]; exact Nat.ne_of_lt (blk_lt (g := gb799) (o := .cells #[.slice A0_0 l0_0.length c0_0, .slice (some ad800) l0_1.length c0_1] 31 (0, 0)) (kz BK799)) : gb799 ≠ gb801)); have n6_ := Aside0.mk ((by rw [hg]; exact Nat.ne_of_gt (blk_lt (g := gb799) (o := .cells #[.slice A0_0 l0_0.length c0_0, .slice (some ad800) l0_1.length c0_1] 31 (0, 0)) (kz BK799)) : gb801 ≠ gb799)); clear BK799; clear HB; have BK799 := n0_; have HB := n1_; have BK801 := n2_; have GW801 := n3_; have GE801 := n4_; have NB799_801 := n5_; have NB801_799 := n6_; clear n0_ n1_ n2_ n3_ n4_ n5_ n6_; clear hb hbox hg; have hnb17 := NB801_799.out; have hnc17 := NB799_801.out; have hcz18_0 : w16.cell? ⟨gb801, 0, none⟩ = some (.slice none 0 0) := (blk_cell BK801.out 0).trans rfl; have hcz18_1 : w16.cell? ⟨gb801, 1, none⟩ = some (.slice none 0 0) := (blk_cell BK801.out 1).trans rfl; have hcz18_2 : w16.cell? ⟨gb801, 2, none⟩ = some (.slice none 0 0) := (blk_cell BK801.out 2).trans rfl; have hfz18_0 := blk_frozen BK801.out 0; have hfz18_1 := blk_frozen BK801.out 1; have hfz18_2 := blk_frozen BK801.out 2) | ((with_reducible refine gate_callee (f := 109) rfl ?_); refine goesL_ (some 19) rfl rfl Try.func109 (by kernel_rfl) rfl #[.slice A800_0 ((rd_IRule l0_1 a2).f0).length c800_0, .slice A1 l1.length c1] rfl az ?_; (with_reducible refine (spec_l2Last.calls k _ _ ((rd_IRule l0_1 a2).f0) _ _ l1 t802 _ ?side1 HC800_0.out ?side3 HC1.out A6.out).mono ?_); (case side1 => exact Kd.C_below HR800_0.out (bz2 HB GE799 GE801)); (case side3 => exact Kd.C_below HR1.out (bz2 HB GE799 GE801)); rintro e w19 ⟨rfl, hb⟩; refine ⟨_, rfl, ?_⟩; replace BK799 := Aside0.mk (blk_below (g := gb799) (o := .cells #[.slice A0_0 l0_0.length c0_0, .slice (some ad800) l0_1.length c0_1] 31 (0, 0)) (by (with_reducible repeat (first | refine blk_drewN ?_ _ | refine blk_drew ?_ | refine blk_alloc ?_ _)); refine blk_far ?_ NB799_801.out _; (with_reducible repeat (first | refine blk_drewN ?_ _ | refine blk_drew ?_ | refine blk_alloc ?_ _)); refine blk_far ?_ NB799_801.out _; (with_reducible repeat (first | refine blk_drewN ?_ _ | refine blk_drew ?_ | refine blk_alloc ?_ _)); refine blk_far ?_ NB799_801.out _; exact kz BK799) hb); replace BK801 := Aside0.mk (blk_below (g := gb801) (o := .cells #[.slice A800_0 ((rd_IRule l0_1 a2).f0).length c800_0, .slice A800_1 ((rd_IRule l0_1 a2).f1).length c800_1, .slice A800_2 ((rd_IRule l0_1 a2).f2).length c800_2] 81 (0, 0)) (by (with_reducible repeat (first | refine blk_drewN ?_ _ | refine blk_drew ?_ | refine blk_alloc ?_ _)); refine blk_put (cs := #[.slice A800_0 ((rd_IRule l0_1 a2).f0).length c800_0, .slice A800_1 ((rd_IRule l0_1 a2).f1).length c800_1, .slice none 0 0]) ?_ 2 _ rfl; (with_reducible repeat (first | refine blk_drewN ?_ _ | refine blk_drew ?_ | refine blk_alloc ?_ _)); refine blk_put (cs := #[.slice A800_0 ((rd_IRule l0_1 a2).f0).length c800_0, .slice none 0 0, .slice none 0 0]) ?_ 1 _ rfl; (with_reducible repeat (first | refine blk_drewN ?_ _ | refine blk_drew ?_ | refine blk_alloc ?_ _)); refine blk_put (cs := #[.slice none 0 0, .slice none 0 0, .slice none 0 0]) ?_ 0 _ rfl; exact kz BK801) hb); replace HB := Aside0.mk (below_step (bz2 HB GE799 GE801) hb); clear hb) | ((with_reducible refine gate_dst (N := 21) rfl ?_); refine Kd.R_lit (Kd.int .i64) _ 3 ?hg (N := 21) ?hd (xs := ([] : List Int)) (inner := []) (ok := fun _ => True) (okp := fun _ => True) ?hr ?hp (fun _ hk => hk) trivial (Below.refl _ _) (Nat.le_refl _) (by simp) ?_; (case hd => rfl); (case hg => rfl); (case hr => first | (go_simp; done) | (go_simp; rfl)); (case hp => exact (Reps.none _ _)); intro v804 w20 ho21 hb hg_ hnew_; clear hg_ hnew_; (first | rw [← Ny803.out] at ho21 | (simp only [Int.reduceToNat] at ho21; rw [← Ny803.out] at ho21)); have HO805 := Aside0.mk (Kd.R_lower ho21 (below_size (bz2 HB GE799 GE801))); replace BK799 := Aside0.mk (blk_below (g := gb799) (o := .cells #[.slice A0_0 l0_0.length c0_0, .slice (some ad800) l0_1.length c0_1] 31 (0, 0)) (kz BK799) hb); replace BK801 := Aside0.mk (blk_below (g := gb801) (o := .cells #[.slice A800_0 ((rd_IRule l0_1 a2).f0).length c800_0, .slice A800_1 ((rd_IRule l0_1 a2).f1).length c800_1, .slice A800_2 ((rd_IRule l0_1 a2).f2).length c800_2] 81 (0, 0)) (kz BK801) hb); replace HB := Aside0.mk (below_step (bz2 HB GE799 GE801) hb); clear hb ho21))
 go_loopg [8, 9] k (fun kq v8 v9 w' => ∃ (x8_1 : List Int) (x9_1 : Int), v9 = .int .i64 x9_1 ∧ Aside0 (spec_l2Use.l0 kq l1 x8_1 x9_1 l0_0 l0_1 ((rd_IRule l0_1 a2).f0) ((rd_IRule l0_1 a2).f1) ((rd_IRule l0_1 a2).f2) = some r) ∧ Aside0 (kq ≤ k) ∧ Aside0 (Kd.R (Kd.int .i64) 3 w' w.heap.size (fun _ => True) v8 x8_1) ∧ Aside0 (w'.heap[gb799]? = some (.cells #[(.slice A0_0 l0_0.length c0_0), (.slice (some ad800) l0_1.length c0_1)] 31 (0, 0))) ∧ Aside0 (w'.heap[gb801]? = some (.cells #[(.slice A800_0 ((rd_IRule l0_1 a2).f0).length c800_0), (.slice A800_1 ((rd_IRule l0_1 a2).f1).length c800_1), (.slice A800_2 ((rd_IRule l0_1 a2).f2).length c800_2)] 81 (0, 0))) ∧ Aside0 (Below w.heap.size w w'))
 case atStart => exact ⟨(y803), (0), rq, H', ⟨Nat.le_refl _⟩, ⟨ozR HO805⟩, ⟨kz BK799⟩, ⟨kz BK801⟩, ⟨bz2 HB GE799 GE801⟩⟩
 case round =>
  clear H'
  try clear c1
  try clear p2
  try clear c4
  try clear c4b0
  try clear c5
  try clear c5b0
  try clear c7
  try clear c7b0
  try clear c7b1
  try clear c8
  try clear p8
  try clear q8
  try clear hx8
  try clear c10
  try clear c11
  try clear c17
  try clear hcz12_0
  try clear hcz12_1
  try clear hcz12_2
  try clear hcz15_0
  try clear hcz15_1
  try clear hcz18_0
  try clear hcz18_1
  try clear hcz18_2
  try clear hcz9_0
  try clear hcz9_1
  try clear hfz12_0
  try clear hfz12_1
  try clear hfz12_2
  try clear hfz15_0
  try clear hfz15_1
  try clear hfz18_0
  try clear hfz18_1
  try clear hfz18_2
  try clear hfz9_0
  try clear hfz9_1
  try clear hx800_0
  try clear hx800_1
  try clear hx800_2
  try clear p800
  try clear q800
  obtain ⟨x8_1, x9_1, rfl, HA, HK1, HO_8, BK799, BK801, HB⟩ := hrel
  cases gk with
  | zero => exact absurd HA.out (by simp [spec_l2Use.l0])
  | succ k1 =>
   have H := HA.out
   clear HA
   simp only [spec_l2Use.l0] at H
   by_cases c22 : x9_1 < (l1.length : Int)
   case pos =>
    rw [if_pos c22] at H
    have c22b0 : decide (x9_1 < (l1.length : Int)) = true := decide_eq_true c22
    clear c22
    by_cases c23 : 0 ≤ x9_1
    case neg =>
     rw [if_neg c23] at H
     exact absurd H (by simp)
    rw [if_pos c23] at H
    have c23b0 : decide (0 ≤ x9_1) = true := decide_eq_true c23
    clear c23
    by_cases c24 : x8_1.length < 17592186044416
    case neg =>
     rw [if_neg c24] at H
     exact absurd H (by simp)
    rw [if_pos c24] at H
    have LMc24 := Aside0.mk c24
    clear c24
    obtain ⟨y807, hy807⟩ : ∃ y_ : List Int, y_ = (x8_1 ++ [rd l1 x9_1]) := ⟨_, rfl⟩
    replace H : (spec_l2Use.l0 k1 l1 y807 (wrap64 (x9_1 + 1)) l0_0 l0_1 ((rd_IRule l0_1 a2).f0) ((rd_IRule l0_1 a2).f1) ((rd_IRule l0_1 a2).f2)) = some r := by first | (rw [hy807]; with_reducible exact H) | (have H2_ := (Option.bind_some _ _).symm.trans H; rw [hy807]; with_reducible exact H2_) | (have H2_ := (Option.bind_some _ _).symm.trans H; with_reducible exact H2_) | with_reducible exact H | (rw [hy807]; exact H) | exact H
    have Ny807 := Aside0.mk hy807
    clear hy807
    have H' := Aside0.mk H
    clear H
    have p806 : 0 ≤ (x9_1 : Int) := dz
    have q806 : x9_1 < (l1.length : Int) := dz
    obtain ⟨ad806, e806, hx806_0⟩ := Kd.at_int HR1.out x9_1 p806 q806
    cases e806
    replace hx806_0 := xz HB hx806_0
    replace p806 := eq_true p806
    replace q806 := eq_true q806
    go_wp2_with (first | ((with_reducible refine gate_builtin (b := .append) (xs := #[.tmp 28, .tmp 33]) rfl ?_); at_builtin; refine Kd.R_append (Kd.int .i64) (w0 := w) w.heap.size rfl (.tmp 28) (.tmp 33) 35 3 (.int .i64 0) 8 rfl Try.underlying35 info3 rfl (by decide) (by omega) u8 x8_1 (rd l1 x9_1) [.int .i64 (rd l1 x9_1)] (fun _ => True) (fun _ => False) rfl rfl ?aP (fun _ hk => hk.elim) ?aF ?aO ?aB ?aS ?aL ?_; (case aP => exact rfl); (case aB => exact (bz2 HB GE799 GE801)); (case aF => exact (fun _ _ => trivial)); (case aO => exact (ozR HO_8)); (case aS => exact (below_size (bz2 HB GE799 GE801))); (case aL => have := LMc24.out; omega); intro v808 w25 ho hb hg hat; rw [← Ny807.out] at ho; replace BK799 := Aside0.mk (blk_grown (g := gb799) (o := .cells #[.slice A0_0 l0_0.length c0_0, .slice (some ad800) l0_1.length c0_1] 31 (0, 0)) (kz BK799) hg (Kd.R_ne HO_8.out BK799.out (by decide))); replace BK801 := Aside0.mk (blk_grown (g := gb801) (o := .cells #[.slice A800_0 ((rd_IRule l0_1 a2).f0).length c800_0, .slice A800_1 ((rd_IRule l0_1 a2).f1).length c800_1, .slice A800_2 ((rd_IRule l0_1 a2).f2).length c800_2] 81 (0, 0)) (kz BK801) hg (Kd.R_ne HO_8.out BK801.out (by decide))); replace HB := Aside0.mk (hb); have HO809 := Aside0.mk (ho); clear HO_8; clear ho hb hg hat))
    go_roundg k1
    case measure => have := HK1.out; omega
    case rel => exact ⟨(y807), (wrap64 (x9_1 + 1)), rq, H', ⟨by have := HK1.out; omega⟩, ⟨ozR HO809⟩, ⟨kz BK799⟩, ⟨kz BK801⟩, ⟨bz2 HB GE799 GE801⟩⟩
   rw [if_neg c22] at H
   have c22b0 : decide (x9_1 < (l1.length : Int)) = false := decide_eq_false c22
   clear c22
   have H' := Aside0.mk H
   clear H
   go_wp2
   go_loopg [10] k1 (fun kq v10 w' => ∃ (x8_2 : List Int) (x10_2 : Int), v10 = .int .i64 x10_2 ∧ Aside0 (spec_l2Use.l1 kq l1 x8_2 x10_2 l0_0 l0_1 ((rd_IRule l0_1 a2).f0) ((rd_IRule l0_1 a2).f1) ((rd_IRule l0_1 a2).f2) = some r) ∧ Aside0 (kq ≤ k1) ∧ Aside0 (Kd.R (Kd.int .i64) 3 w' w.heap.size (fun _ => True) u8 x8_2) ∧ Aside0 (w'.heap[gb799]? = some (.cells #[(.slice A0_0 l0_0.length c0_0), (.slice (some ad800) l0_1.length c0_1)] 31 (0, 0))) ∧ Aside0 (w'.heap[gb801]? = some (.cells #[(.slice A800_0 ((rd_IRule l0_1 a2).f0).length c800_0), (.slice A800_1 ((rd_IRule l0_1 a2).f1).length c800_1), (.slice A800_2 ((rd_IRule l0_1 a2).f2).length c800_2)] 81 (0, 0))) ∧ Aside0 (Below w.heap.size w w'))
   case atStart => exact ⟨(x8_1), (0), rq, H', ⟨Nat.le_refl _⟩, ⟨ozR HO_8⟩, ⟨kz BK799⟩, ⟨kz BK801⟩, ⟨bz2 HB GE799 GE801⟩⟩
   case round =>
    clear H'
    try clear c1
    try clear c2
    try clear p2
    try clear c4
    try clear c4b0
    try clear c5
    try clear c5b0
    try clear p6
    try clear c7
    try clear c7b0
    try clear c7b1
    try clear c8
    try clear p8
    try clear q8
    try clear hx8
    try clear c10
    try clear c11
    try clear c17
    try clear c22
    try clear c22b0
    try clear c23
    try clear c23b0
    try clear c24
    try clear hcz12_0
    try clear hcz12_1
    try clear hcz12_2
    try clear hcz15_0
    try clear hcz15_1
    try clear hcz18_0
    try clear hcz18_1
    try clear hcz18_2
    try clear hcz9_0
    try clear hcz9_1
    try clear hfz12_0
    try clear hfz12_1
    try clear hfz12_2
    try clear hfz15_0
    try clear hfz15_1
    try clear hfz18_0
    try clear hfz18_1
    try clear hfz18_2
    try clear hfz9_0
    try clear hfz9_1
    try clear hx800_0
    try clear hx800_1
    try clear hx800_2
    try clear hx806_0
    try clear p2
    try clear p8
    try clear p800
    try clear p806
    try clear q8
    try clear q800
    try clear q806
    obtain ⟨x8_2, x10_2, rfl, HA, HK2, HO_8, BK799, BK801, HB⟩ := hrel
    cases gk with
    | zero => exact absurd HA.out (by simp [spec_l2Use.l1])
    | succ k2 =>
     have H := HA.out
     clear HA
     simp only [spec_l2Use.l1] at H
     by_cases c26 : x10_2 < (((rd_IRule l0_1 a2).f1).length : Int)
     case neg =>
      rw [if_neg c26] at H
      have c26b0 : decide (x10_2 < (((rd_IRule l0_1 a2).f1).length : Int)) = false := decide_eq_false c26
      clear c26
      replace H := Option.bind_eq_some_iff.mp H
      obtain ⟨t814, A380, H⟩ := H
      have A38 := Aside0.mk A380
      clear A380
      by_cases c39 : t814 = true
      case pos =>
       subst c39
       rw [if_pos rfl] at H
       obtain rfl := Option.some.inj H
       have hnb40 := NB801_799.out
       have hnc40 := NB799_801.out
       have hcz41_0 : wr.cell? ⟨gb801, 0, none⟩ = some (.slice A800_0 ((rd_IRule l0_1 a2).f0).length c800_0) := (blk_cell BK801.out 0).trans rfl
       have hcz41_1 : wr.cell? ⟨gb801, 1, none⟩ = some (.slice A800_1 ((rd_IRule l0_1 a2).f1).length c800_1) := (blk_cell BK801.out 1).trans rfl
       have hcz41_2 : wr.cell? ⟨gb801, 2, none⟩ = some (.slice A800_2 ((rd_IRule l0_1 a2).f2).length c800_2) := (blk_cell BK801.out 2).trans rfl
       have hfz41_0 := blk_frozen BK801.out 0
       have hfz41_1 := blk_frozen BK801.out 1
       have hfz41_2 := blk_frozen BK801.out 2
       have hcz42_0 : wr.cell? ⟨gb799, 0, none⟩ = some (.slice A0_0 l0_0.length c0_0) := (blk_cell BK799.out 0).trans rfl
       have hcz42_1 : wr.cell? ⟨gb799, 1, none⟩ = some (.slice (some ad800) l0_1.length c0_1) := (blk_cell BK799.out 1).trans rfl
       have hfz42_0 := blk_frozen BK799.out 0
       have hfz42_1 := blk_frozen BK799.out 1
       obtain ⟨Ao43, co43, eo43⟩ := Kd.R_slice HO_8.out
       subst eo43
       go_wp2_with (first | ((with_reducible refine gate_callee (f := 72) rfl ?_); refine goesL_ (some 58) rfl rfl Try.func72 (by kernel_rfl) rfl #[.agg #[.slice A0_0 l0_0.length c0_0, .slice (some ad800) l0_1.length c0_1], .slice Ao43 x8_2.length co43] rfl az ?_; (with_reducible refine (spec_l2In.calls k2 _ _ l0_0 _ _ l0_1 _ _ x8_2 true _ ?side1 HC0_0.out ?side3 HC0_1.out ?side5 ?side6 A38.out).mono ?_); (case side1 => exact cz HR0_0 HB); (case side3 => exact cz HR0_1 HB); (case side5 => exact cz1 (Kd.R_reads' HO_8.out).2.2); (case side6 => exact (Kd.R_reads' HO_8.out).2.1); rintro e w44 ⟨rfl, hb⟩; refine ⟨_, rfl, ?_⟩; replace HO_8 := Aside0.mk (Kd.R_below (ozR HO_8) hb); replace BK799 := Aside0.mk (blk_below (g := gb799) (o := .cells #[.slice A0_0 l0_0.length c0_0, .slice (some ad800) l0_1.length c0_1] 31 (0, 0)) (kz BK799) hb); replace BK801 := Aside0.mk (blk_below (g := gb801) (o := .cells #[.slice A800_0 ((rd_IRule l0_1 a2).f0).length c800_0, .slice A800_1 ((rd_IRule l0_1 a2).f1).length c800_1, .slice A800_2 ((rd_IRule l0_1 a2).f2).length c800_2] 81 (0, 0)) (kz BK801) hb); replace HB := Aside0.mk (below_step (bz2 HB GE799 GE801) hb); clear hb))
       go_ret
       exact ⟨_, rz, ozR HO_8, bz2 HB GE799 GE801⟩
      replace c39 := Bool.eq_false_iff.mpr c39
      subst c39
      rw [if_neg nt_] at H
      obtain rfl := Option.some.inj H
      have hnb45 := NB801_799.out
      have hnc45 := NB799_801.out
      have hcz46_0 : wr.cell? ⟨gb801, 0, none⟩ = some (.slice A800_0 ((rd_IRule l0_1 a2).f0).length c800_0) := (blk_cell BK801.out 0).trans rfl
      have hcz46_1 : wr.cell? ⟨gb801, 1, none⟩ = some (.slice A800_1 ((rd_IRule l0_1 a2).f1).length c800_1) := (blk_cell BK801.out 1).trans rfl
      have hcz46_2 : wr.cell? ⟨gb801, 2, none⟩ = some (.slice A800_2 ((rd_IRule l0_1 a2).f2).length c800_2) := (blk_cell BK801.out 2).trans rfl
      have hfz46_0 := blk_frozen BK801.out 0
      have hfz46_1 := blk_frozen BK801.out 1
      have hfz46_2 := blk_frozen BK801.out 2
      have hcz47_0 : wr.cell? ⟨gb799, 0, none⟩ = some (.slice A0_0 l0_0.length c0_0) := (blk_cell BK799.out 0).trans rfl
      have hcz47_1 : wr.cell? ⟨gb799, 1, none⟩ = some (.slice (some ad800) l0_1.length c0_1) := (blk_cell BK799.out 1).trans rfl
      have hfz47_0 := blk_frozen BK799.out 0
      have hfz47_1 := blk_frozen BK799.out 1
      obtain ⟨Ao48, co48, eo48⟩ := Kd.R_slice HO_8.out
      subst eo48
      go_wp2_with (first | ((with_reducible refine gate_callee (f := 72) rfl ?_); refine goesL_ (some 58) rfl rfl Try.func72 (by kernel_rfl) rfl #[.agg #[.slice A0_0 l0_0.length c0_0, .slice (some ad800) l0_1.length c0_1], .slice Ao48 x8_2.length co48] rfl az ?_; (with_reducible refine (spec_l2In.calls k2 _ _ l0_0 _ _ l0_1 _ _ x8_2 false _ ?side1 HC0_0.out ?side3 HC0_1.out ?side5 ?side6 A38.out).mono ?_); (case side1 => exact cz HR0_0 HB); (case side3 => exact cz HR0_1 HB); (case side5 => exact cz1 (Kd.R_reads' HO_8.out).2.2); (case side6 => exact (Kd.R_reads' HO_8.out).2.1); rintro e w49 ⟨rfl, hb⟩; refine ⟨_, rfl, ?_⟩; replace HO_8 := Aside0.mk (Kd.R_below (ozR HO_8) hb); replace BK799 := Aside0.mk (blk_below (g := gb799) (o := .cells #[.slice A0_0 l0_0.length c0_0, .slice (some ad800) l0_1.length c0_1] 31 (0, 0)) (kz BK799) hb); replace BK801 := Aside0.mk (blk_below (g := gb801) (o := .cells #[.slice A800_0 ((rd_IRule l0_1 a2).f0).length c800_0, .slice A800_1 ((rd_IRule l0_1 a2).f1).length c800_1, .slice A800_2 ((rd_IRule l0_1 a2).f2).length c800_2] 81 (0, 0)) (kz BK801) hb); replace HB := Aside0.mk (below_step (bz2 HB GE799 GE801) hb); clear hb))
      go_ret
      exact ⟨_, rz, nz, bz2 HB GE799 GE801⟩
     rw [if_pos c26] at H
     have c26b0 : decide (x10_2 < (((rd_IRule l0_1 a2).f1).length : Int)) = true := decide_eq_true c26
     clear c26
     by_cases c27 : 0 ≤ x10_2
     case neg =>
      rw [if_neg c27] at H
      exact absurd H (by simp)
     rw [if_pos c27] at H
     have c27b0 : decide (0 ≤ x10_2) = true := decide_eq_true c27
     clear c27
     by_cases c28 : x10_2 < (((rd_IRule l0_1 a2).f2).length : Int)
     case neg =>
      rw [if_neg c28] at H
      exact absurd H (by simp)
     rw [if_pos c28] at H
     have c28b0 : decide (x10_2 < (((rd_IRule l0_1 a2).f2).length : Int)) = true := decide_eq_true c28
     clear c28
     replace H := Option.bind_eq_some_iff.mp H
     obtain ⟨t812, A290, H⟩ := H
     have A29 := Aside0.mk A290
     clear A290
     by_cases c30 : 0 ≤ (rd ((rd_IRule l0_1 a2).f1) x10_2)
     case neg =>
      rw [if_neg c30] at H
      exact absurd H (by simp)
     rw [if_pos c30] at H
     have c30b0 : decide (0 ≤ (rd ((rd_IRule l0_1 a2).f1) x10_2)) = true := decide_eq_true c30
     clear c30
     by_cases c31 : (rd ((rd_IRule l0_1 a2).f1) x10_2) < (x8_2.length : Int)
     case neg =>
      rw [if_neg c31] at H
      exact absurd H (by simp)
     rw [if_pos c31] at H
     have c31b0 : decide ((rd ((rd_IRule l0_1 a2).f1) x10_2) < (x8_2.length : Int)) = true := decide_eq_true c31
     clear c31
     obtain ⟨y813, hy813⟩ : ∃ y_ : List Int, y_ = (x8_2.set ((rd ((rd_IRule l0_1 a2).f1) x10_2) : Int).toNat t812) := ⟨_, rfl⟩
     replace H : (spec_l2Use.l1 k2 l1 y813 (wrap64 (x10_2 + 1)) l0_0 l0_1 ((rd_IRule l0_1 a2).f0) ((rd_IRule l0_1 a2).f1) ((rd_IRule l0_1 a2).f2)) = some r := by first | (rw [hy813]; with_reducible exact H) | (have H2_ := (Option.bind_some _ _).symm.trans H; rw [hy813]; with_reducible exact H2_) | (have H2_ := (Option.bind_some _ _).symm.trans H; with_reducible exact H2_) | with_reducible exact H | (rw [hy813]; exact H) | exact H
     have Ny813 := Aside0.mk hy813
     clear hy813
     have H' := Aside0.mk H
     clear H
     have hnb33 := NB801_799.out
     have hnc33 := NB799_801.out
     have hcz34_0 : wr.cell? ⟨gb801, 0, none⟩ = some (.slice A800_0 ((rd_IRule l0_1 a2).f0).length c800_0) := (blk_cell BK801.out 0).trans rfl
     have hcz34_1 : wr.cell? ⟨gb801, 1, none⟩ = some (.slice A800_1 ((rd_IRule l0_1 a2).f1).length c800_1) := (blk_cell BK801.out 1).trans rfl
     have hcz34_2 : wr.cell? ⟨gb801, 2, none⟩ = some (.slice A800_2 ((rd_IRule l0_1 a2).f2).length c800_2) := (blk_cell BK801.out 2).trans rfl
     have hfz34_0 := blk_frozen BK801.out 0
     have hfz34_1 := blk_frozen BK801.out 1
     have hfz34_2 := blk_frozen BK801.out 2
     try go_wp2
     have n0_ := Aside0.mk (Kd.R_drew HO_8.out)
     have n1_ := Aside0.mk (blk_drew BK799.out)
     have n2_ := Aside0.mk (blk_drew BK801.out)
     have n3_ := Aside0.mk (below_drew1 HB.out)
     clear HO_8
     clear BK799
     clear BK801
     clear HB
     have HO_8 := n0_
     have BK799 := n1_
     have BK801 := n2_
     have HB := n3_
     clear n0_ n1_ n2_ n3_
     have p810 : 0 ≤ (x10_2 : Int) := dz
     have q810 : x10_2 < (((rd_IRule l0_1 a2).f1).length : Int) := dz
     obtain ⟨ad810, e810, hx810_0⟩ := Kd.at_int HR800_1.out x10_2 p810 q810
     have hw810_0 := hx810_0
     cases e810
     replace hx810_0 := xz HB hx810_0
     replace p810 := eq_true p810
     replace q810 := eq_true q810
     have p811 : 0 ≤ (x10_2 : Int) := dz
     have q811 : x10_2 < (((rd_IRule l0_1 a2).f2).length : Int) := dz
     obtain ⟨ad811, A811_0, c811_0, e811, hx811_0, hl811_0, hi811_0⟩ := at_LITerm HR800_2.out x10_2 p811 q811
     have hw811_0 := hx811_0
     cases e811
     replace hx811_0 := xz HB hx811_0
     have HR811_0 := Aside0.mk hi811_0
     have HC811_0 := Aside0.mk hl811_0
     clear hi811_0 hl811_0
     replace p811 := eq_true p811
     replace q811 := eq_true q811
     refine start_ (n := 15) (S := fun w' => w'.cell? ⟨gb801, 0, none⟩ = some (.slice A800_0 ((rd_IRule l0_1 a2).f0).length c800_0) ∧ w'.cell? ⟨gb801, 1, none⟩ = some (.slice (some ad810) ((rd_IRule l0_1 a2).f1).length c800_1) ∧ w'.cell? ⟨gb801, 2, none⟩ = some (.slice (some ad811) ((rd_IRule l0_1 a2).f2).length c800_2) ∧ w'.cell? (ad810.add (x10_2).toNat) = some (.int .i64 (rd ((rd_IRule l0_1 a2).f1) x10_2)) ∧ w'.cell? (ad811.add (x10_2).toNat) = some (.slice A811_0 (rd_LITerm ((rd_IRule l0_1 a2).f2) x10_2).length c811_0)) (ds := [14]) #[false, false, false, false, false, false, false, false, false, false, false, false, false, false, false] (by kernel_rfl) rfl rfl ⟨(blk_cell BK801.out 0).trans rfl, (blk_cell BK801.out 1).trans rfl, (blk_cell BK801.out 2).trans rfl, ((HB.out.cell (World.block_lt_of_cell? w _ hw810_0)).trans hw810_0), ((HB.out.cell (World.block_lt_of_cell? w _ hw811_0)).trans hw811_0)⟩ (fun hHeld => ?_); refine with_tabW spec_l2Use.tab12 spec_l2Use.bits12 (fun HT_ HW_ => ?_)
     generalize wr.drew = w35 at HO_8 BK799 BK801 HB HR811_0 hx810_0 hx811_0 hHeld ⊢
     refine pure_ (i := 0) (N := some 42) (v := ?_) (a' := ?_) #[true, false, false, false, false, false, false, false, false, false, false, false, false, false, false] rfl rfl (any_of HT_.out (by kernel_rfl)) (fun _ _ _ h => h) (Or.inl ⟨by rfl, ?_⟩) ?_ ?_
     rotate_left
     ·
      intro w'
      go_simp
      with_reducible rfl
     rotate_left
     ·
      simp only [Act.put, sb_, sc0_, sc1_, i64_w, i32_w]
      rfl
     refine pure_ (i := 1) (N := some 43) (v := ?_) (a' := ?_) #[true, true, false, false, false, false, false, false, false, false, false, false, false, false, false] rfl rfl (any_of HT_.out (by kernel_rfl)) (fun _ _ _ h => h) (Or.inl ⟨by rfl, ?_⟩) ?_ ?_
     rotate_left
     ·
      intro w'
      go_simp
      with_reducible rfl
     rotate_left
     ·
      simp only [Act.put, sb_, sc0_, sc1_, i64_w, i32_w]
      rfl
     refine pure_ (i := 3) (N := some 45) (v := ?_) (a' := ?_) #[true, true, false, true, false, false, false, false, false, false, false, false, false, false, false] rfl rfl (any_of HT_.out (by kernel_rfl)) (fun _ _ _ h => h) (Or.inl ⟨by rfl, ?_⟩) ?_ ?_
     rotate_left
     ·
      intro w'
      go_simp
      with_reducible rfl
     rotate_left
     ·
      simp only [Act.put, sb_, sc0_, sc1_, i64_w, i32_w]
      rfl
     refine pure_ (i := 6) (N := some 48) (v := ?_) (a' := ?_) #[true, true, false, true, false, false, true, false, false, false, false, false, false, false, false] rfl rfl (any_of HT_.out (by kernel_rfl)) (fun _ _ _ h => h) (Or.inl ⟨by rfl, ?_⟩) ?_ ?_
     rotate_left
     ·
      intro w'
      go_simp
      with_reducible rfl
     rotate_left
     ·
      simp only [Act.put, sb_, sc0_, sc1_, i64_w, i32_w]
      rfl
     refine pure_ (i := 8) (N := some 50) (v := ?_) (a' := ?_) #[true, true, false, true, false, false, true, false, true, false, false, false, false, false, false] rfl rfl (any_of HT_.out (by kernel_rfl)) (fun _ _ _ h => h) (Or.inl ⟨by rfl, ?_⟩) ?_ ?_
     rotate_left
     ·
      intro w'
      go_simp
      with_reducible rfl
     rotate_left
     ·
      simp only [Act.put, sb_, sc0_, sc1_, i64_w, i32_w]
      rfl
     refine pure_ (i := 11) (N := some 53) (v := ?_) (a' := ?_) #[true, true, false, true, false, false, true, false, true, false, false, true, false, false, false] rfl rfl (any_of HT_.out (by kernel_rfl)) (fun _ _ _ h => h) (Or.inl ⟨by rfl, ?_⟩) ?_ ?_
     rotate_left
     ·
      intro w'
      go_simp
      with_reducible rfl
     rotate_left
     ·
      simp only [Act.put, sb_, sc0_, sc1_, i64_w, i32_w]
      rfl
     refine take_ (i := 2) (N := some 44) (v := ?_) (a' := ?_) #[true, true, true, true, false, false, true, false, true, false, false, true, false, false, false] rfl rfl (take_ofW HT_.out HW_.out (by kernel_rfl)) (fun _ _ _ h => h) (Or.inl ⟨by rfl, ?_⟩) hHeld ?_ ?_
     rotate_left
     ·
      rintro w' ⟨s0, s1, s2, s3, s4⟩
      go_simp
      with_reducible rfl
     rotate_left
     ·
      simp only [Act.put, sb_, sc0_, sc1_, i64_w, i32_w]
      rfl
     refine pure_ (i := 4) (N := some 46) (v := ?_) (a' := ?_) #[true, true, true, true, true, false, true, false, true, false, false, true, false, false, false] rfl rfl (any_of HT_.out (by kernel_rfl)) (fun _ _ _ h => h) (Or.inl ⟨by rfl, ?_⟩) ?_ ?_
     rotate_left
     ·
      intro w'
      go_simp
      with_reducible rfl
     rotate_left
     ·
      simp only [Act.put, sb_, sc0_, sc1_, i64_w, i32_w]
      rfl
     refine take_ (i := 5) (N := some 47) (v := ?_) (a' := ?_) #[true, true, true, true, true, true, true, false, true, false, false, true, false, false, false] rfl rfl (take_ofW HT_.out HW_.out (by kernel_rfl)) (fun _ _ _ h => h) (Or.inl ⟨by rfl, ?_⟩) hHeld ?_ ?_
     rotate_left
     ·
      rintro w' ⟨s0, s1, s2, s3, s4⟩
      go_simp
      with_reducible rfl
     rotate_left
     ·
      simp only [Act.put, sb_, sc0_, sc1_, i64_w, i32_w]
      rfl
     refine take_ (i := 7) (N := some 49) (v := ?_) (a' := ?_) #[true, true, true, true, true, true, true, true, true, false, false, true, false, false, false] rfl rfl (take_ofW HT_.out HW_.out (by kernel_rfl)) (fun _ _ _ h => h) (Or.inl ⟨by rfl, ?_⟩) hHeld ?_ ?_
     rotate_left
     ·
      rintro w' ⟨s0, s1, s2, s3, s4⟩
      go_simp
      with_reducible rfl
     rotate_left
     ·
      simp only [Act.put, sb_, sc0_, sc1_, i64_w, i32_w]
      rfl
     refine pure_ (i := 9) (N := some 51) (v := ?_) (a' := ?_) #[true, true, true, true, true, true, true, true, true, true, false, true, false, false, false] rfl rfl (any_of HT_.out (by kernel_rfl)) (fun _ _ _ h => h) (Or.inl ⟨by rfl, ?_⟩) ?_ ?_
     rotate_left
     ·
      intro w'
      go_simp
      with_reducible rfl
     rotate_left
     ·
      simp only [Act.put, sb_, sc0_, sc1_, i64_w, i32_w]
      rfl
     refine take_ (i := 10) (N := some 52) (v := ?_) (a' := ?_) #[true, true, true, true, true, true, true, true, true, true, true, true, false, false, false] rfl rfl (take_ofW HT_.out HW_.out (by kernel_rfl)) (fun _ _ _ h => h) (Or.inl ⟨by rfl, ?_⟩) hHeld ?_ ?_
     rotate_left
     ·
      rintro w' ⟨s0, s1, s2, s3, s4⟩
      go_simp
      with_reducible rfl
     rotate_left
     ·
      simp only [Act.put, sb_, sc0_, sc1_, i64_w, i32_w]
      rfl
     refine one_ (i := 12) (N := some 54) #[true, true, true, true, true, true, true, true, true, true, true, true, true, false, false] rfl rfl (one_of HT_.out (by kernel_rfl)) (by decide) (fun K hK => ?_)
     refine goes_ Try.func109 (by kernel_rfl) rfl #[.slice A811_0 (rd_LITerm ((rd_IRule l0_1 a2).f2) x10_2).length c811_0, .slice A1 l1.length c1] (by rfl) rfl rfl az ?_
     with_reducible refine (spec_l2Last.calls k2 _ _ (rd_LITerm ((rd_IRule l0_1 a2).f2) x10_2) _ _ l1 t812 _ ?side1 ?side2 ?side3 ?side4 A29.out).mono ?_
     (case side1 => exact cz HR811_0 HB)
     (case side2 => exact HC811_0.out)
     (case side3 => exact cz HR1 HB)
     (case side4 => exact HC1.out)
     rintro e w36 ⟨rfl, hb⟩
     refine ⟨_, rfl, ?_⟩
     have n0_ := Aside0.mk (Kd.R_below (ozR HO_8) hb)
     have n1_ := Aside0.mk (blk_below (g := gb799) (o := .cells #[.slice A0_0 l0_0.length c0_0, .slice (some ad800) l0_1.length c0_1] 31 (0, 0)) (kz BK799) hb)
     have n2_ := Aside0.mk (blk_below (g := gb801) (o := .cells #[.slice A800_0 ((rd_IRule l0_1 a2).f0).length c800_0, .slice (some ad810) ((rd_IRule l0_1 a2).f1).length c800_1, .slice (some ad811) ((rd_IRule l0_1 a2).f2).length c800_2] 81 (0, 0)) (kz BK801) hb)
     have n3_ := Aside0.mk (below_step (bz2 HB GE799 GE801) hb)
     clear HO_8
     clear BK799
     clear BK801
     clear HB
     have HO_8 := n0_
     have BK799 := n1_
     have BK801 := n2_
     have HB := n3_
     clear n0_ n1_ n2_ n3_
     (try clear hb)
     (try clear hb2)
     (try clear hk)
     (try clear hi)
     have p32 : 0 ≤ ((rd ((rd_IRule l0_1 a2).f1) x10_2) : Int) := dz
     have q32 : ((rd ((rd_IRule l0_1 a2).f1) x10_2) : Int) < ((x8_2.length : Int) : Int) := dz
     obtain ⟨go32, co32, eo32, gb32, gl32, cl32, HG32⟩ := Kd.R_form HO_8.out (by omega)
     (first | cases eo32 | (injection eo32 with ea_ en_ ec_; (first | subst ea_ | (injection ea_ with ea_; subst ea_)); subst ec_; clear en_))
     have GB32 := Aside0.mk gb32
     have GG32 := Aside0.mk HG32
     clear gb32 gl32 HG32
     obtain ⟨hx32_0, hf32_0⟩ := Kd.R_celln 0 HO_8.out ((rd ((rd_IRule l0_1 a2).f1) x10_2) : Int) p32 q32
     replace p32 := eq_true p32
     replace q32 := eq_true q32
     have HP37 := Kd.R_putn HO_8.out ((rd ((rd_IRule l0_1 a2).f1) x10_2) : Int) t812
     rw [← Ny813.out] at HP37
     have HQ37 := Aside0.mk HP37
     clear HP37
     refine hK.out _ _ ⟨(blk_cell BK801.out 0).trans rfl, (blk_cell BK801.out 1).trans rfl, (blk_cell BK801.out 2).trans rfl, ((HB.out.cell (World.block_lt_of_cell? w _ hw810_0)).trans hw810_0), ((HB.out.cell (World.block_lt_of_cell? w _ hw811_0)).trans hw811_0)⟩ (fun hHeld => ?_)
     clear hK K
     refine norm_ (a' := ?_) ?_ ?_
     rotate_left
     ·
      show Act.put _ (some 54) _ = _
      simp only [Act.put, sb_, sc0_, sc1_, i64_w, i32_w]
      rfl
     refine pure_ (i := 13) (N := some 55) (v := ?_) (a' := ?_) #[true, true, true, true, true, true, true, true, true, true, true, true, true, true, false] rfl rfl (any_of HT_.out (by kernel_rfl)) (fun _ _ _ h => h) (Or.inl ⟨by rfl, ?_⟩) ?_ ?_
     rotate_left
     ·
      intro w'
      go_simp
      with_reducible rfl
     rotate_left
     ·
      simp only [Act.put, sb_, sc0_, sc1_, i64_w, i32_w]
      rfl
     refine last_ (i := 14) (N := none) #[true, true, true, true, true, true, true, true, true, true, true, true, true, true, true] rfl rfl (one_of HT_.out (by kernel_rfl)) (by decide) (fun K hK => ?_)
     refine skip_ (w1 := ?_) (by rfl) rfl ?_ ?_
     rotate_left
     ·
      go_simp
      rfl
     refine hK.out _ _ ?_
     clear hK K
     refine done_ (done_of HT_.out (by kernel_rfl)) ?_
     try go_wp2
     go_roundg k2
     case measure => have := HK1.out; have := HK2.out; omega
     case rel => exact ⟨(y813), (wrap64 (x10_2 + 1)), rq, H', ⟨by have := HK1.out; have := HK2.out; omega⟩, ⟨by (with_reducible repeat (first | apply Kd.R_alloc | apply Kd.R_drewN | apply Kd.R_drew)); exact HQ37.out⟩, ⟨by (with_reducible repeat (first | refine blk_drewN ?_ _ | refine blk_drew ?_ | refine blk_alloc ?_ _)); refine blk_far ?_ (by have h_ := Kd.R_ne HO_8.out BK799.out (by decide); intro e_; exact h_ (by rw [e_]; rfl)) _; exact kz BK799⟩, ⟨by (with_reducible repeat (first | refine blk_drewN ?_ _ | refine blk_drew ?_ | refine blk_alloc ?_ _)); refine blk_far ?_ (by have h_ := Kd.R_ne HO_8.out BK801.out (by decide); intro e_; exact h_ (by rw [e_]; rfl)) _; exact kz BK801⟩, ⟨bz3 HB GB32 GE799 GE801⟩⟩
end Go.Proofs.Ytoofhjflfpccdaa.PA
end
section
namespace Go.Proofs.Ytoofhjflfpccdaa.PA
open Go.RowKit Go.Proofs.YtoofhjflfpccdaaW.PrintWords Go.Proofs.YtoofhjflfpccdaaW.PrintLast Go.Proofs.YtoofhjflfpccdaaW.PrintMore
attribute [local go_sem] max2_int min2_int max_two min_two max_three min_three max_four min_four   -- for this text's walks alone
set_option linter.unusedVariables false
set_option linter.unusedSimpArgs false
set_option maxHeartbeats 8000000 in
set_option maxRecDepth 100000 in
theorem spec_l2Same.calls (k : Nat) (A0 : Option Addr) (c0 : Nat) (l0 : List Int) (A1 : Option Addr) (c1 : Nat) (l1 : List Int) (r : Bool) (w : World) (hr0 : Kd.C (Kd.int .i64) w A0 l0.length l0) (hc0 : l0.length ≤ c0) (hr1 : Kd.C (Kd.int .i64) w A1 l1.length l1) (hc1 : l1.length ≤ c1) (h : spec_l2Same.f k l0 l1 = some r) :
  Calls Try.prog 83 #[.slice A0 l0.length c0, .slice A1 l1.length c1] w fun e w' => e = .returned (.bool r) ∧ Drawn0 w w' := by
 have HR0 := Aside0.mk hr0
 have HC0 := Aside0.mk hc0
 clear hr0 hc0
 have HR1 := Aside0.mk hr1
 have HC1 := Aside0.mk hc1
 clear hr1 hc1
 have H : (if (l0.length : Int) = (l1.length : Int) then (spec_l2Same.l0 k l0 l1 0) else (some false)) = some r := h
 clear h
 by_cases c3 : (l0.length : Int) = (l1.length : Int)
 case neg =>
  rw [if_neg c3] at H
  have c3b0 : ((l0.length : Int) == (l1.length : Int)) = false := beq_eq_false_iff_ne.mpr c3
  have c3b1 : ((l0.length : Int) != (l1.length : Int)) = true := bne_iff_ne.mpr c3
  have c3b2 : (l0.length == l1.length) = false := by first | simpa using c3 | (simp at c3 ⊢; omega)
  obtain rfl := Option.some.inj H
  go_enter Try.func83, Try.ntmps83
  go_wp2
  repeat (go_quiet (fail); try go_wp2)
  go_ret
  exact ⟨by first | rfl | (simp; done) | (simp [*]; done), by repeat (first | exact Drawn0.refl _ | apply Drawn0.step)⟩
 rw [if_pos c3] at H
 have c3b0 : ((l0.length : Int) == (l1.length : Int)) = true := beq_iff_eq.mpr c3
 have c3b1 : ((l0.length : Int) != (l1.length : Int)) = false := bne_eq_false_iff_eq.mpr c3
 have c3b2 : (l0.length == l1.length) = true := by first | simpa using c3 | (simp at c3 ⊢; omega)
 clear c3
 have H' := Aside0.mk H
 clear H
 go_enter Try.func83, Try.ntmps83
 go_wp2
 repeat (go_quiet (fail); try go_wp2)
 go_loopg [5] k (fun kq v5 w' => ∃ (x5_1 : Int), v5 = .int .i64 x5_1 ∧ Aside0 (spec_l2Same.l0 kq l0 l1 x5_1 = some r) ∧ Aside0 (kq ≤ k) ∧ Drawn0 w w')
 case atStart => exact ⟨(0), rq, H', ⟨Nat.le_refl _⟩, by repeat (first | exact Drawn0.refl _ | apply Drawn0.step)⟩
 case round =>
  clear H'
  try clear c1
  try clear p2
  try clear c3
  try clear c3b0
  try clear c3b1
  try clear c3b2
  obtain ⟨x5_1, rfl, HA, HK1, ⟨m1, rfl⟩⟩ := hrel
  cases gk with
  | zero => exact absurd HA.out (by simp [spec_l2Same.l0])
  | succ k1 =>
   have H := HA.out
   clear HA
   simp only [spec_l2Same.l0] at H
   by_cases c4 : x5_1 < (l0.length : Int)
   case neg =>
    rw [if_neg c4] at H
    have c4b0 : decide (x5_1 < (l0.length : Int)) = false := decide_eq_false c4
    clear c4
    obtain rfl := Option.some.inj H
    go_wp2
    repeat (go_quiet (fail); try go_wp2)
    go_ret
    exact ⟨by first | rfl | (simp; done) | (simp [*]; done), by repeat (first | exact Drawn0.refl _ | apply Drawn0.step)⟩
   rw [if_pos c4] at H
   have c4b0 : decide (x5_1 < (l0.length : Int)) = true := decide_eq_true c4
   clear c4
   by_cases c5 : 0 ≤ x5_1
   case neg =>
    rw [if_neg c5] at H
    exact absurd H (by simp)
   rw [if_pos c5] at H
   have c5b0 : decide (0 ≤ x5_1) = true := decide_eq_true c5
   clear c5
   by_cases c6 : x5_1 < (l1.length : Int)
   case neg =>
    rw [if_neg c6] at H
    exact absurd H (by simp)
   rw [if_pos c6] at H
   have c6b0 : decide (x5_1 < (l1.length : Int)) = true := decide_eq_true c6
   clear c6
   by_cases c7 : (rd l0 x5_1) = (rd l1 x5_1)
   case neg =>
    rw [if_neg c7] at H
    have c7b0 : ((rd l0 x5_1) == (rd l1 x5_1)) = false := beq_eq_false_iff_ne.mpr c7
    have c7b1 : ((rd l0 x5_1) != (rd l1 x5_1)) = true := bne_iff_ne.mpr c7
    obtain rfl := Option.some.inj H
    have p815 : 0 ≤ (x5_1 : Int) := dz
    have q815 : x5_1 < (l0.length : Int) := dz
    obtain ⟨ad815, e815, hx815_0⟩ := Kd.at_int HR0.out x5_1 p815 q815
    cases e815
    replace p815 := eq_true p815
    replace q815 := eq_true q815
    have p816 : 0 ≤ (x5_1 : Int) := dz
    have q816 : x5_1 < (l1.length : Int) := dz
    obtain ⟨ad816, e816, hx816_0⟩ := Kd.at_int HR1.out x5_1 p816 q816
    cases e816
    replace p816 := eq_true p816
    replace q816 := eq_true q816
    go_wp2
    repeat (go_quiet (fail); try go_wp2)
    go_ret
    exact ⟨by first | rfl | (simp; done) | (simp [*]; done), by repeat (first | exact Drawn0.refl _ | apply Drawn0.step)⟩
   rw [if_pos c7] at H
   have c7b0 : ((rd l0 x5_1) == (rd l1 x5_1)) = true := beq_iff_eq.mpr c7
   have c7b1 : ((rd l0 x5_1) != (rd l1 x5_1)) = false := bne_eq_false_iff_eq.mpr c7
   clear c7
   have H' := Aside0.mk H
   clear H
   have p815 : 0 ≤ (x5_1 : Int) := dz
   have q815 : x5_1 < (l0.length : Int) := dz
   obtain ⟨ad815, e815, hx815_0⟩ := Kd.at_int HR0.out x5_1 p815 q815
   cases e815
   replace p815 := eq_true p815
   replace q815 := eq_true q815
   have p816 : 0 ≤ (x5_1 : Int) := dz
   have q816 : x5_1 < (l1.length : Int) := dz
   obtain ⟨ad816, e816, hx816_0⟩ := Kd.at_int HR1.out x5_1 p816 q816
   cases e816
   replace p816 := eq_true p816
   replace q816 := eq_true q816
   go_wp2
   repeat (go_quiet (fail); try go_wp2)
   go_roundg k1
   case measure => have := HK1.out; omega
   case rel => exact ⟨(wrap64 (x5_1 + 1)), rq, H', ⟨by have := HK1.out; omega⟩, by repeat (first | exact Drawn0.refl _ | apply Drawn0.step)⟩
end Go.Proofs.Ytoofhjflfpccdaa.PA
end
section
namespace Go.Proofs.Ytoofhjflfpccdaa.PA
open Go.RowKit Go.Proofs.YtoofhjflfpccdaaW.PrintWords Go.Proofs.YtoofhjflfpccdaaW.PrintLast Go.Proofs.YtoofhjflfpccdaaW.PrintMore
attribute [local go_sem] max2_int min2_int max_two min_two max_three min_three max_four min_four   -- for this text's walks alone
set_option linter.unusedVariables false
set_option linter.unusedSimpArgs false
set_option maxHeartbeats 8000000 in
set_option maxRecDepth 100000 in
theorem spec_InRange.calls (k : Nat) (A0_0 : Option Addr) (c0_0 : Nat) (l0_0 : List (IVar)) (A0_1 : Option Addr) (c0_1 : Nat) (l0_1 : List (IRule)) (A1 : Option Addr) (c1 : Nat) (l1 : List Int) (r : Bool) (w : World) (hr0_0 : Kd.C k62 w A0_0 l0_0.length l0_0) (hc0_0 : l0_0.length ≤ c0_0) (hr0_1 : Kd.C k81 w A0_1 l0_1.length l0_1) (hc0_1 : l0_1.length ≤ c0_1) (hr1 : Kd.C (Kd.int .i64) w A1 l1.length l1) (hc1 : l1.length ≤ c1) (h : spec_InRange.f k l0_0 l0_1 l1 = some r) :
  Calls Try.prog 61 #[.agg #[.slice A0_0 l0_0.length c0_0, .slice A0_1 l0_1.length c0_1], .slice A1 l1.length c1] w fun e w' => e = .returned (.bool r) ∧ Below w.heap.size w w' := by
 have hu31 := Try.underlying31
 have HR0_0 := Aside0.mk hr0_0
 have HC0_0 := Aside0.mk hc0_0
 clear hr0_0 hc0_0
 have HR0_1 := Aside0.mk hr0_1
 have HC0_1 := Aside0.mk hc0_1
 clear hr0_1 hc0_1
 have HR1 := Aside0.mk hr1
 have HC1 := Aside0.mk hc1
 clear hr1 hc1
 have HB := Aside0.mk (Below.refl w.heap.size w)
 have H : ((spec_SystemValid.f k l0_0 l0_1).bind fun t441 => (if t441 = true then ((spec_l2In.f k l0_0 l0_1 l1).bind fun t442 => (some t442)) else (some false))) = some r := h
 clear h
 replace H := Option.bind_eq_some_iff.mp H
 obtain ⟨t441, A30, H⟩ := H
 have A3 := Aside0.mk A30
 clear A30
 by_cases c4 : t441 = true
 case neg =>
  replace c4 := Bool.eq_false_iff.mpr c4
  subst c4
  rw [if_neg nt_] at H
  obtain rfl := Option.some.inj H
  go_enter Try.func61, Try.ntmps61
  go_wp2_with (first | ((with_reducible refine gate_dst (N := 2) rfl ?_); refine box_event ?hg (N := 2) ?hd (cs := #[.slice A0_0 l0_0.length c0_0, .slice A0_1 l0_1.length c0_1]) (t := 31) ?hr ?_; (case hd => rfl); (case hg => rfl); (case hr => first | (go_simp; done) | (go_simp; rfl)); intro gb440 hg w11 hbox hb; have n0_ := Aside0.mk (below_step (bz HB) hb); have n1_ := Aside0.mk (hbox); have n2_ := Aside0.mk ((by rw [hg]; exact (below_size (bz HB)) : w.heap.size ≤ gb440)); have n3_ := Aside0.mk ((by rw [hg]; exact (below_size (bz HB)) : w.heap.size ≤ gb440)); clear HB; have HB := n0_; have BK440 := n1_; have GW440 := n2_; have GE440 := n3_; clear n0_ n1_ n2_ n3_; clear hb hbox hg; have hcz12_0 : w11.cell? ⟨gb440, 0, none⟩ = some (.slice A0_0 l0_0.length c0_0) := (blk_cell BK440.out 0).trans rfl; have hcz12_1 : w11.cell? ⟨gb440, 1, none⟩ = some (.slice A0_1 l0_1.length c0_1) := (blk_cell BK440.out 1).trans rfl; have hfz12_0 := blk_frozen BK440.out 0; have hfz12_1 := blk_frozen BK440.out 1) | ((with_reducible refine gate_callee (f := 49) rfl ?_); refine goesL_ (some 6) rfl rfl Try.func49 (by kernel_rfl) rfl #[.agg #[.slice A0_0 l0_0.length c0_0, .slice A0_1 l0_1.length c0_1]] rfl az ?_; (with_reducible refine (spec_SystemValid.calls k _ _ l0_0 _ _ l0_1 false _ ?side1 HC0_0.out ?side3 HC0_1.out A3.out).mono ?_); (case side1 => exact cz HR0_0 HB); (case side3 => exact cz HR0_1 HB); rintro e w13 ⟨rfl, hb⟩; refine ⟨_, rfl, ?_⟩; replace BK440 := Aside0.mk (blk_below (g := gb440) (o := .cells #[.slice A0_0 l0_0.length c0_0, .slice A0_1 l0_1.length c0_1] 31 (0, 0)) (kz BK440) hb); replace HB := Aside0.mk (below_step (bz1 HB GE440) hb); clear hb))
  go_ret
  exact ⟨rz, bz1 HB GE440⟩
 subst c4
 rw [if_pos rfl] at H
 replace H := Option.bind_eq_some_iff.mp H
 obtain ⟨t442, A50, H⟩ := H
 have A5 := Aside0.mk A50
 clear A50
 obtain rfl := Option.some.inj H
 go_enter Try.func61, Try.ntmps61
 go_wp2_with (first | ((with_reducible refine gate_dst (N := 2) rfl ?_); refine box_event ?hg (N := 2) ?hd (cs := #[.slice A0_0 l0_0.length c0_0, .slice A0_1 l0_1.length c0_1]) (t := 31) ?hr ?_; (case hd => rfl); (case hg => rfl); (case hr => first | (go_simp; done) | (go_simp; rfl)); intro gb440 hg w6 hbox hb; have n0_ := Aside0.mk (below_step (bz HB) hb); have n1_ := Aside0.mk (hbox); have n2_ := Aside0.mk ((by rw [hg]; exact (below_size (bz HB)) : w.heap.size ≤ gb440)); have n3_ := Aside0.mk ((by rw [hg]; exact (below_size (bz HB)) : w.heap.size ≤ gb440)); clear HB; have HB := n0_; have BK440 := n1_; have GW440 := n2_; have GE440 := n3_; clear n0_ n1_ n2_ n3_; clear hb hbox hg; have hcz7_0 : w6.cell? ⟨gb440, 0, none⟩ = some (.slice A0_0 l0_0.length c0_0) := (blk_cell BK440.out 0).trans rfl; have hcz7_1 : w6.cell? ⟨gb440, 1, none⟩ = some (.slice A0_1 l0_1.length c0_1) := (blk_cell BK440.out 1).trans rfl; have hfz7_0 := blk_frozen BK440.out 0; have hfz7_1 := blk_frozen BK440.out 1) | ((with_reducible refine gate_callee (f := 49) rfl ?_); refine goesL_ (some 6) rfl rfl Try.func49 (by kernel_rfl) rfl #[.agg #[.slice A0_0 l0_0.length c0_0, .slice A0_1 l0_1.length c0_1]] rfl az ?_; (with_reducible refine (spec_SystemValid.calls k _ _ l0_0 _ _ l0_1 true _ ?side1 ?side2 ?side3 ?side4 A3.out).mono ?_); (case side1 => exact cz HR0_0 HB); (case side2 => exact HC0_0.out); (case side3 => exact cz HR0_1 HB); (case side4 => exact HC0_1.out); rintro e w8 ⟨rfl, hb⟩; refine ⟨_, rfl, ?_⟩; replace BK440 := Aside0.mk (blk_below (g := gb440) (o := .cells #[.slice A0_0 l0_0.length c0_0, .slice A0_1 l0_1.length c0_1] 31 (0, 0)) (kz BK440) hb); replace HB := Aside0.mk (below_step (bz1 HB GE440) hb); clear hb; have hcz9_0 : w8.cell? ⟨gb440, 0, none⟩ = some (.slice A0_0 l0_0.length c0_0) := (blk_cell BK440.out 0).trans rfl; have hcz9_1 : w8.cell? ⟨gb440, 1, none⟩ = some (.slice A0_1 l0_1.length c0_1) := (blk_cell BK440.out 1).trans rfl; have hfz9_0 := blk_frozen BK440.out 0; have hfz9_1 := blk_frozen BK440.out 1) | (go_at_call 72; (with_reducible refine (spec_l2In.calls k _ _ l0_0 _ _ l0_1 _ _ l1 t442 _ ?side1 ?side2 ?side3 ?side4 ?side5 HC1.out A5.out).mono ?_); (case side1 => exact cz HR0_0 HB); (case side2 => exact HC0_0.out); (case side3 => exact cz HR0_1 HB); (case side4 => exact HC0_1.out); (case side5 => exact cz HR1 HB); rintro e w10 ⟨rfl, hb⟩; replace BK440 := Aside0.mk (blk_below (g := gb440) (o := .cells #[.slice A0_0 l0_0.length c0_0, .slice A0_1 l0_1.length c0_1] 31 (0, 0)) (kz BK440) hb); replace HB := Aside0.mk (below_step (bz1 HB GE440) hb); clear hb))
 go_ret
 exact ⟨rz, bz1 HB GE440⟩
end Go.Proofs.Ytoofhjflfpccdaa.PA
end
section
namespace Go.Proofs.Ytoofhjflfpccdaa.PA
open Go.RowKit Go.Proofs.YtoofhjflfpccdaaW.PrintWords Go.Proofs.YtoofhjflfpccdaaW.PrintLast Go.Proofs.YtoofhjflfpccdaaW.PrintMore
attribute [local go_sem] max2_int min2_int max_two min_two max_three min_three max_four min_four   -- for this text's walks alone
set_option linter.unusedVariables false
set_option linter.unusedSimpArgs false
set_option maxHeartbeats 8000000 in
set_option maxRecDepth 100000 in
theorem spec_Use.calls (k : Nat) (A0_0 : Option Addr) (c0_0 : Nat) (l0_0 : List (IVar)) (A0_1 : Option Addr) (c0_1 : Nat) (l0_1 : List (IRule)) (A1 : Option Addr) (c1 : Nat) (l1 : List Int) (a2 : Int) (r1 : List Int) (r2 : Bool) (w : World) (hr0_0 : Kd.C k62 w A0_0 l0_0.length l0_0) (hc0_0 : l0_0.length ≤ c0_0) (hr0_1 : Kd.C k81 w A0_1 l0_1.length l0_1) (hc0_1 : l0_1.length ≤ c0_1) (hr1 : Kd.C (Kd.int .i64) w A1 l1.length l1) (hc1 : l1.length ≤ c1) (h : spec_Use.f k l0_0 l0_1 l1 a2 = some (r1, r2)) :
  Calls Try.prog 43 #[.agg #[.slice A0_0 l0_0.length c0_0, .slice A0_1 l0_1.length c0_1], .slice A1 l1.length c1, .int .i64 a2] w fun e w' => ∃ v0_ : Value, e = .returned (.tuple #[v0_, .bool r2]) ∧ Kd.R (Kd.int .i64) 3 w' w.heap.size (fun _ => True) v0_ r1 ∧ Below w.heap.size w w' := by
 have hu31 := Try.underlying31
 have HR0_0 := Aside0.mk hr0_0
 have HC0_0 := Aside0.mk hc0_0
 clear hr0_0 hc0_0
 have HR0_1 := Aside0.mk hr0_1
 have HC0_1 := Aside0.mk hc0_1
 clear hr0_1 hc0_1
 have HR1 := Aside0.mk hr1
 have HC1 := Aside0.mk hc1
 clear hr1 hc1
 have HB := Aside0.mk (Below.refl w.heap.size w)
 have H : ((spec_InRange.f k l0_0 l0_1 l1).bind fun t1062 => (if t1062 = true then ((spec_l1In.f a2 0 (wrap64 ((l0_1.length : Int) - 1))).bind fun t1063 => (if t1063 = true then ((spec_l2Use.f k l0_0 l0_1 l1 a2).bind fun t1064 => (some (t1064, decide ((t1064.length : Int) > 0)))) else (some (([] : List Int), false)))) else (some (([] : List Int), false)))) = some (r1, r2) := h
 clear h
 replace H := Option.bind_eq_some_iff.mp H
 obtain ⟨t1062, A40, H⟩ := H
 have A4 := Aside0.mk A40
 clear A40
 by_cases c5 : t1062 = true
 case neg =>
  replace c5 := Bool.eq_false_iff.mpr c5
  subst c5
  rw [if_neg nt_] at H
  simp only [Option.some.injEq, Prod.mk.injEq] at H
  obtain ⟨rfl, rfl⟩ := H
  go_enter Try.func43, Try.ntmps43
  go_wp2_with (first | ((with_reducible refine gate_dst (N := 3) rfl ?_); (try (refine gate_guard (by rfl) ?_; dsimp only)); refine box_event ?hg (N := 3) ?hd (cs := #[.slice A0_0 l0_0.length c0_0, .slice A0_1 l0_1.length c0_1]) (t := 31) ?hr ?_; (case hd => rfl); (case hg => rfl); (case hr => first | (go_simp; done) | (go_simp; rfl)); intro gb1061 hg w19 hbox hb; have n0_ := Aside0.mk (below_step (bz HB) hb); have n1_ := Aside0.mk (hbox); have n2_ := Aside0.mk ((by rw [hg]; exact (below_size (bz HB)) : w.heap.size ≤ gb1061)); have n3_ := Aside0.mk ((by rw [hg]; exact (below_size (bz HB)) : w.heap.size ≤ gb1061)); clear HB; have HB := n0_; have BK1061 := n1_; have GW1061 := n2_; have GE1061 := n3_; clear n0_ n1_ n2_ n3_; clear hb hbox hg; have hcz20_0 : w19.cell? ⟨gb1061, 0, none⟩ = some (.slice A0_0 l0_0.length c0_0) := (blk_cell BK1061.out 0).trans rfl; have hcz20_1 : w19.cell? ⟨gb1061, 1, none⟩ = some (.slice A0_1 l0_1.length c0_1) := (blk_cell BK1061.out 1).trans rfl; have hfz20_0 := blk_frozen BK1061.out 0; have hfz20_1 := blk_frozen BK1061.out 1) | ((with_reducible refine gate_callee (f := 61) rfl ?_); refine goesL_ (some 11) rfl rfl Try.func61 (by kernel_rfl) rfl #[.agg #[.slice A0_0 l0_0.length c0_0, .slice A0_1 l0_1.length c0_1], .slice A1 l1.length c1] rfl az ?_; (with_reducible refine (spec_InRange.calls k _ _ l0_0 _ _ l0_1 _ _ l1 false _ ?side1 HC0_0.out ?side3 HC0_1.out ?side5 HC1.out A4.out).mono ?_); (case side1 => exact cz HR0_0 HB); (case side3 => exact cz HR0_1 HB); (case side5 => exact cz HR1 HB); rintro e w21 ⟨rfl, hb⟩; refine ⟨_, rfl, ?_⟩; replace BK1061 := Aside0.mk (blk_below (g := gb1061) (o := .cells #[.slice A0_0 l0_0.length c0_0, .slice A0_1 l0_1.length c0_1] 31 (0, 0)) (kz BK1061) hb); replace HB := Aside0.mk (below_step (bz1 HB GE1061) hb); clear hb))
  go_ret2
  exact ⟨_, rz, nz, bz1 HB GE1061⟩
 subst c5
 rw [if_pos rfl] at H
 replace H := Option.bind_eq_some_iff.mp H
 obtain ⟨t1063, A60, H⟩ := H
 have A6 := Aside0.mk A60
 clear A60
 by_cases c7 : t1063 = true
 case neg =>
  replace c7 := Bool.eq_false_iff.mpr c7
  subst c7
  rw [if_neg nt_] at H
  simp only [Option.some.injEq, Prod.mk.injEq] at H
  obtain ⟨rfl, rfl⟩ := H
  go_enter Try.func43, Try.ntmps43
  go_wp2_with (first | ((with_reducible refine gate_dst (N := 3) rfl ?_); (try (refine gate_guard (by rfl) ?_; dsimp only)); refine box_event ?hg (N := 3) ?hd (cs := #[.slice A0_0 l0_0.length c0_0, .slice A0_1 l0_1.length c0_1]) (t := 31) ?hr ?_; (case hd => rfl); (case hg => rfl); (case hr => first | (go_simp; done) | (go_simp; rfl)); intro gb1061 hg w15 hbox hb; have n0_ := Aside0.mk (below_step (bz HB) hb); have n1_ := Aside0.mk (hbox); have n2_ := Aside0.mk ((by rw [hg]; exact (below_size (bz HB)) : w.heap.size ≤ gb1061)); have n3_ := Aside0.mk ((by rw [hg]; exact (below_size (bz HB)) : w.heap.size ≤ gb1061)); clear HB; have HB := n0_; have BK1061 := n1_; have GW1061 := n2_; have GE1061 := n3_; clear n0_ n1_ n2_ n3_; clear hb hbox hg; have hcz16_0 : w15.cell? ⟨gb1061, 0, none⟩ = some (.slice A0_0 l0_0.length c0_0) := (blk_cell BK1061.out 0).trans rfl; have hcz16_1 : w15.cell? ⟨gb1061, 1, none⟩ = some (.slice A0_1 l0_1.length c0_1) := (blk_cell BK1061.out 1).trans rfl; have hfz16_0 := blk_frozen BK1061.out 0; have hfz16_1 := blk_frozen BK1061.out 1) | ((with_reducible refine gate_callee (f := 61) rfl ?_); refine goesL_ (some 11) rfl rfl Try.func61 (by kernel_rfl) rfl #[.agg #[.slice A0_0 l0_0.length c0_0, .slice A0_1 l0_1.length c0_1], .slice A1 l1.length c1] rfl az ?_; (with_reducible refine (spec_InRange.calls k _ _ l0_0 _ _ l0_1 _ _ l1 true _ ?side1 HC0_0.out ?side3 HC0_1.out ?side5 HC1.out A4.out).mono ?_); (case side1 => exact cz HR0_0 HB); (case side3 => exact cz HR0_1 HB); (case side5 => exact cz HR1 HB); rintro e w17 ⟨rfl, hb⟩; refine ⟨_, rfl, ?_⟩; replace BK1061 := Aside0.mk (blk_below (g := gb1061) (o := .cells #[.slice A0_0 l0_0.length c0_0, .slice A0_1 l0_1.length c0_1] 31 (0, 0)) (kz BK1061) hb); replace HB := Aside0.mk (below_step (bz1 HB GE1061) hb); clear hb; have hcz18_0 : w17.cell? ⟨gb1061, 0, none⟩ = some (.slice A0_0 l0_0.length c0_0) := (blk_cell BK1061.out 0).trans rfl; have hcz18_1 : w17.cell? ⟨gb1061, 1, none⟩ = some (.slice A0_1 l0_1.length c0_1) := (blk_cell BK1061.out 1).trans rfl; have hfz18_0 := blk_frozen BK1061.out 0; have hfz18_1 := blk_frozen BK1061.out 1) | (go_at_call 66; (with_reducible refine (spec_l1In.calls a2 0 (wrap64 ((l0_1.length : Int) - 1)) false _ A6.out).mono ?_); rintro e w' ⟨rfl, ⟨nd, rfl⟩⟩))
  go_ret2
  exact ⟨_, rz, nz, bz1 HB GE1061⟩
 subst c7
 rw [if_pos rfl] at H
 replace H := Option.bind_eq_some_iff.mp H
 obtain ⟨t1064, A80, H⟩ := H
 have A8 := Aside0.mk A80
 clear A80
 simp only [Option.some.injEq, Prod.mk.injEq] at H
 obtain ⟨rfl, rfl⟩ := H
 go_enter Try.func43, Try.ntmps43
 go_wp2_with (first | ((with_reducible refine gate_dst (N := 3) rfl ?_); (try (refine gate_guard (by rfl) ?_; dsimp only)); refine box_event ?hg (N := 3) ?hd (cs := #[.slice A0_0 l0_0.length c0_0, .slice A0_1 l0_1.length c0_1]) (t := 31) ?hr ?_; (case hd => rfl); (case hg => rfl); (case hr => first | (go_simp; done) | (go_simp; rfl)); intro gb1061 hg w9 hbox hb; have n0_ := Aside0.mk (below_step (bz HB) hb); have n1_ := Aside0.mk (hbox); have n2_ := Aside0.mk ((by rw [hg]; exact (below_size (bz HB)) : w.heap.size ≤ gb1061)); have n3_ := Aside0.mk ((by rw [hg]; exact (below_size (bz HB)) : w.heap.size ≤ gb1061)); clear HB; have HB := n0_; have BK1061 := n1_; have GW1061 := n2_; have GE1061 := n3_; clear n0_ n1_ n2_ n3_; clear hb hbox hg; have hcz10_0 : w9.cell? ⟨gb1061, 0, none⟩ = some (.slice A0_0 l0_0.length c0_0) := (blk_cell BK1061.out 0).trans rfl; have hcz10_1 : w9.cell? ⟨gb1061, 1, none⟩ = some (.slice A0_1 l0_1.length c0_1) := (blk_cell BK1061.out 1).trans rfl; have hfz10_0 := blk_frozen BK1061.out 0; have hfz10_1 := blk_frozen BK1061.out 1) | ((with_reducible refine gate_callee (f := 61) rfl ?_); refine goesL_ (some 11) rfl rfl Try.func61 (by kernel_rfl) rfl #[.agg #[.slice A0_0 l0_0.length c0_0, .slice A0_1 l0_1.length c0_1], .slice A1 l1.length c1] rfl az ?_; (with_reducible refine (spec_InRange.calls k _ _ l0_0 _ _ l0_1 _ _ l1 true _ ?side1 HC0_0.out ?side3 HC0_1.out ?side5 HC1.out A4.out).mono ?_); (case side1 => exact cz HR0_0 HB); (case side3 => exact cz HR0_1 HB); (case side5 => exact cz HR1 HB); rintro e w11 ⟨rfl, hb⟩; refine ⟨_, rfl, ?_⟩; replace BK1061 := Aside0.mk (blk_below (g := gb1061) (o := .cells #[.slice A0_0 l0_0.length c0_0, .slice A0_1 l0_1.length c0_1] 31 (0, 0)) (kz BK1061) hb); replace HB := Aside0.mk (below_step (bz1 HB GE1061) hb); clear hb; have hcz12_0 : w11.cell? ⟨gb1061, 0, none⟩ = some (.slice A0_0 l0_0.length c0_0) := (blk_cell BK1061.out 0).trans rfl; have hcz12_1 : w11.cell? ⟨gb1061, 1, none⟩ = some (.slice A0_1 l0_1.length c0_1) := (blk_cell BK1061.out 1).trans rfl; have hfz12_0 := blk_frozen BK1061.out 0; have hfz12_1 := blk_frozen BK1061.out 1) | (go_at_call 66; (with_reducible refine (spec_l1In.calls a2 0 (wrap64 ((l0_1.length : Int) - 1)) true _ A6.out).mono ?_); rintro e w' ⟨rfl, ⟨nd, rfl⟩⟩) | ((with_reducible refine gate_callee (f := 81) rfl ?_); refine goesL_ (some 25) rfl rfl Try.func81 (by kernel_rfl) rfl #[.agg #[.slice A0_0 l0_0.length c0_0, .slice A0_1 l0_1.length c0_1], .slice A1 l1.length c1, .int .i64 a2] rfl az ?_; (with_reducible refine (spec_l2Use.calls k _ _ l0_0 _ _ l0_1 _ _ l1 a2 t1064 _ ?side1 HC0_0.out ?side3 HC0_1.out ?side5 HC1.out A8.out).mono ?_); (case side1 => repeat (first | exact (Kd.C_below HR0_0.out (bz1 HB GE1061)) | (with_reducible refine Kd.C_alloc ?_ _) | (with_reducible refine Kd.C_drewN ?_ _) | (with_reducible refine Kd.C_drew ?_))); (case side3 => repeat (first | exact (Kd.C_below HR0_1.out (bz1 HB GE1061)) | (with_reducible refine Kd.C_alloc ?_ _) | (with_reducible refine Kd.C_drewN ?_ _) | (with_reducible refine Kd.C_drew ?_))); (case side5 => repeat (first | exact (Kd.C_below HR1.out (bz1 HB GE1061)) | (with_reducible refine Kd.C_alloc ?_ _) | (with_reducible refine Kd.C_drewN ?_ _) | (with_reducible refine Kd.C_drew ?_))); rintro e w13 ⟨v1065, rfl, ho0, hb⟩; refine ⟨_, rfl, ?_⟩; have HO1066 := Aside0.mk (Kd.R_lower ho0 (below_size (bz1 HB GE1061))); replace BK1061 := Aside0.mk (blk_below (g := gb1061) (o := .cells #[.slice A0_0 l0_0.length c0_0, .slice A0_1 l0_1.length c0_1] 31 (0, 0)) (kz BK1061) hb); replace HB := Aside0.mk (below_step (bz1 HB GE1061) hb); clear hb; (try clear ho0); obtain ⟨Ao14, co14, eo14⟩ := Kd.R_slice HO1066.out; subst eo14))
 go_ret2
 exact ⟨_, rz, ozR HO1066, bz1 HB GE1061⟩
end Go.Proofs.Ytoofhjflfpccdaa.PA
end
section
namespace Go.Proofs.Ytoofhjflfpccdaa.PA
open Go.RowKit Go.Proofs.YtoofhjflfpccdaaW.PrintWords Go.Proofs.YtoofhjflfpccdaaW.PrintLast Go.Proofs.YtoofhjflfpccdaaW.PrintMore
attribute [local go_sem] max2_int min2_int max_two min_two max_three min_three max_four min_four   -- for this text's walks alone
set_option linter.unusedVariables false
set_option linter.unusedSimpArgs false
set_option maxHeartbeats 8000000 in
set_option maxRecDepth 100000 in
theorem spec_RulesCommute.calls (k : Nat) (A0_0 : Option Addr) (c0_0 : Nat) (l0_0 : List (IVar)) (A0_1 : Option Addr) (c0_1 : Nat) (l0_1 : List (IRule)) (A1 : Option Addr) (c1 : Nat) (l1 : List Int) (a2 : Int) (a3 : Int) (r : Bool) (w : World) (hr0_0 : Kd.C k62 w A0_0 l0_0.length l0_0) (hc0_0 : l0_0.length ≤ c0_0) (hr0_1 : Kd.C k81 w A0_1 l0_1.length l0_1) (hc0_1 : l0_1.length ≤ c0_1) (hr1 : Kd.C (Kd.int .i64) w A1 l1.length l1) (hc1 : l1.length ≤ c1) (h : spec_RulesCommute.f k l0_0 l0_1 l1 a2 a3 = some r) :
  Calls Try.prog 45 #[.agg #[.slice A0_0 l0_0.length c0_0, .slice A0_1 l0_1.length c0_1], .slice A1 l1.length c1, .int .i64 a2, .int .i64 a3] w fun e w' => e = .returned (.bool r) ∧ Below w.heap.size w w' := by
 have hu31 := Try.underlying31
 have HR0_0 := Aside0.mk hr0_0
 have HC0_0 := Aside0.mk hc0_0
 clear hr0_0 hc0_0
 have HR0_1 := Aside0.mk hr0_1
 have HC0_1 := Aside0.mk hc0_1
 clear hr0_1 hc0_1
 have HR1 := Aside0.mk hr1
 have HC1 := Aside0.mk hc1
 clear hr1 hc1
 have HB := Aside0.mk (Below.refl w.heap.size w)
 have H : ((spec_Use.f k l0_0 l0_1 l1 a2).bind fun bt1116 => ((spec_Use.f k l0_0 l0_1 l1 a3).bind fun bt1120 => (if bt1116.2 = true then (spec_RulesCommute.j0 k a2 a3 bt1116.1 bt1120.1 (!bt1120.2) l0_0 l0_1) else (spec_RulesCommute.j0 k a2 a3 bt1116.1 bt1120.1 true l0_0 l0_1)))) = some r := h
 clear h
 replace H := Option.bind_eq_some_iff.mp H
 obtain ⟨⟨t1116, t1119⟩, A50, H⟩ := H
 dsimp only at H
 have A5 := Aside0.mk A50
 clear A50
 replace H := Option.bind_eq_some_iff.mp H
 obtain ⟨⟨t1120, t1123⟩, A60, H⟩ := H
 dsimp only at H
 have A6 := Aside0.mk A60
 clear A60
 have HC7 := Aside0.mk H
 clear H
 go_enter Try.func45, Try.ntmps45
 go_upto_region 3 with (first | ((with_reducible refine gate_dst (N := 4) rfl ?_); (try (refine gate_guard (by rfl) ?_; dsimp only)); refine box_event ?hg (N := 4) ?hd (cs := #[.slice A0_0 l0_0.length c0_0, .slice A0_1 l0_1.length c0_1]) (t := 31) ?hr ?_; (case hd => rfl); (case hg => rfl); (case hr => first | (go_simp; done) | (go_simp; rfl)); intro gb1115 hg w8 hbox hb; have n0_ := Aside0.mk (below_step (bz HB) hb); have n1_ := Aside0.mk (hbox); have n2_ := Aside0.mk ((by rw [hg]; exact (below_size (bz HB)) : w.heap.size ≤ gb1115)); have n3_ := Aside0.mk ((by rw [hg]; exact (below_size (bz HB)) : w.heap.size ≤ gb1115)); clear HB; have HB := n0_; have BK1115 := n1_; have GW1115 := n2_; have GE1115 := n3_; clear n0_ n1_ n2_ n3_; clear hb hbox hg; have hcz9_0 : w8.cell? ⟨gb1115, 0, none⟩ = some (.slice A0_0 l0_0.length c0_0) := (blk_cell BK1115.out 0).trans rfl; have hcz9_1 : w8.cell? ⟨gb1115, 1, none⟩ = some (.slice A0_1 l0_1.length c0_1) := (blk_cell BK1115.out 1).trans rfl; have hfz9_0 := blk_frozen BK1115.out 0; have hfz9_1 := blk_frozen BK1115.out 1) | ((with_reducible refine gate_callee (f := 43) rfl ?_); refine goesL_ (some 19) rfl rfl Try.func43 (by kernel_rfl) rfl #[.agg #[.slice A0_0 l0_0.length c0_0, .slice A0_1 l0_1.length c0_1], .slice A1 l1.length c1, .int .i64 a2] rfl az ?_; (with_reducible refine (spec_Use.calls k _ _ l0_0 _ _ l0_1 _ _ l1 a2 t1116 t1119 _ ?side1 HC0_0.out ?side3 HC0_1.out ?side5 HC1.out A5.out).mono ?_); (case side1 => exact cz HR0_0 HB); (case side3 => exact cz HR0_1 HB); (case side5 => exact cz HR1 HB); rintro e w10 ⟨v1117, rfl, ho0, hb⟩; refine ⟨_, rfl, ?_⟩; have HO1118 := Aside0.mk (Kd.R_lower ho0 (below_size (bz1 HB GE1115))); replace BK1115 := Aside0.mk (blk_below (g := gb1115) (o := .cells #[.slice A0_0 l0_0.length c0_0, .slice A0_1 l0_1.length c0_1] 31 (0, 0)) (kz BK1115) hb); replace HB := Aside0.mk (below_step (bz1 HB GE1115) hb); clear hb; (try clear ho0); have hcz11_0 : w10.cell? ⟨gb1115, 0, none⟩ = some (.slice A0_0 l0_0.length c0_0) := (blk_cell BK1115.out 0).trans rfl; have hcz11_1 : w10.cell? ⟨gb1115, 1, none⟩ = some (.slice A0_1 l0_1.length c0_1) := (blk_cell BK1115.out 1).trans rfl; have hfz11_0 := blk_frozen BK1115.out 0; have hfz11_1 := blk_frozen BK1115.out 1) | ((with_reducible refine gate_callee (f := 43) rfl ?_); refine goesL_ (some 26) rfl rfl Try.func43 (by kernel_rfl) rfl #[.agg #[.slice A0_0 l0_0.length c0_0, .slice A0_1 l0_1.length c0_1], .slice A1 l1.length c1, .int .i64 a3] rfl az ?_; (with_reducible refine (spec_Use.calls k _ _ l0_0 _ _ l0_1 _ _ l1 a3 t1120 t1123 _ ?side1 HC0_0.out ?side3 HC0_1.out ?side5 HC1.out A6.out).mono ?_); (case side1 => exact cz HR0_0 HB); (case side3 => exact cz HR0_1 HB); (case side5 => exact cz HR1 HB); rintro e w12 ⟨v1121, rfl, ho0, hb⟩; refine ⟨_, rfl, ?_⟩; have n0_ := Aside0.mk (Kd.R_elder' (ozR HO1118) (Kd.R_base ho0) hb); have n1_ := Aside0.mk (Kd.R_lower (Kd.R_new' ho0 (Kd.R_lt (ozR HO1118))) (below_size (bz1 HB GE1115))); have n2_ := Aside0.mk (blk_below (g := gb1115) (o := .cells #[.slice A0_0 l0_0.length c0_0, .slice A0_1 l0_1.length c0_1] 31 (0, 0)) (kz BK1115) hb); have n3_ := Aside0.mk (below_step (bz1 HB GE1115) hb); clear HO1118; clear BK1115; clear HB; have HO1118 := n0_; have HO1122 := n1_; have BK1115 := n2_; have HB := n3_; clear n0_ n1_ n2_ n3_; clear hb; (try clear ho0)))
 (try simp only [Act.put, sb_, sc0_, sc1_])
 go_cut [34] (fun v34 wc => ∃ (kq : Nat) (x34_6 : Bool), v34 = .bool x34_6 ∧ Aside0 (spec_RulesCommute.j0 kq a2 a3 t1116 t1120 x34_6 l0_0 l0_1 = some r) ∧ Aside0 (kq ≤ k) ∧ Aside0 (Kd.R (Kd.int .i64) 3 wc w.heap.size (fun k_ => some k_ ≠ (v1121 : Value).ownBlock) v1117 t1116) ∧ Aside0 (Kd.R (Kd.int .i64) 3 wc w.heap.size (fun k_ => some k_ ≠ (v1117 : Value).ownBlock) v1121 t1120) ∧ Aside0 (wc.heap[gb1115]? = some (.cells #[(.slice A0_0 l0_0.length c0_0), (.slice A0_1 l0_1.length c0_1)] 31 (0, 0))) ∧ Aside0 (Below w.heap.size w wc))
 case first =>
  have H := HC7.out
  clear HC7
  by_cases c13 : t1119 = true
  case pos =>
   subst c13
   rw [if_pos rfl] at H
   have H' := Aside0.mk H
   clear H
   go_wp2
   go_meet
   case rel => exact ⟨_, (!t1123), rq, H', ⟨by first | omega | exact Nat.le_refl _⟩, ⟨by (with_reducible repeat (first | apply Kd.R_alloc | apply Kd.R_drewN | apply Kd.R_drew)); exact Kd.R_mono HO1118.out (fun _ hk => hk.2)⟩, ⟨by (with_reducible repeat (first | apply Kd.R_alloc | apply Kd.R_drewN | apply Kd.R_drew)); exact Kd.R_mono HO1122.out (fun _ hk => hk.2)⟩, ⟨kz BK1115⟩, ⟨bz1 HB GE1115⟩⟩
  replace c13 := Bool.eq_false_iff.mpr c13
  subst c13
  rw [if_neg nt_] at H
  have H' := Aside0.mk H
  clear H
  go_wp2
  go_meet
  case rel => exact ⟨_, (true), rq, H', ⟨by first | omega | exact Nat.le_refl _⟩, ⟨by (with_reducible repeat (first | apply Kd.R_alloc | apply Kd.R_drewN | apply Kd.R_drew)); exact Kd.R_mono HO1118.out (fun _ hk => hk.2)⟩, ⟨by (with_reducible repeat (first | apply Kd.R_alloc | apply Kd.R_drewN | apply Kd.R_drew)); exact Kd.R_mono HO1122.out (fun _ hk => hk.2)⟩, ⟨kz BK1115⟩, ⟨bz1 HB GE1115⟩⟩
 case rest =>
  clear HC7
  try clear c1
  try clear p2
  try clear c4
  try clear c13
  try clear hcz11_0
  try clear hcz11_1
  try clear hcz9_0
  try clear hcz9_1
  try clear hfz11_0
  try clear hfz11_1
  try clear hfz9_0
  try clear hfz9_1
  obtain ⟨kq, x34_6, rfl, HA, HJ6, HO_9, HO_11, BK1115, HB⟩ := hcut
  cases kq with
  | zero => exact absurd HA.out (by simp [spec_RulesCommute.j0])
  | succ kj6 =>
   have H := HA.out
   clear HA
   simp only [spec_RulesCommute.j0] at H
   by_cases c14 : x34_6 = true
   case pos =>
    subst c14
    rw [if_pos rfl] at H
    obtain rfl := Option.some.inj H
    go_wp2
    go_ret
    exact ⟨rz, bz1 HB GE1115⟩
   replace c14 := Bool.eq_false_iff.mpr c14
   subst c14
   rw [if_neg nt_] at H
   replace H := Option.bind_eq_some_iff.mp H
   obtain ⟨t1124, A150, H⟩ := H
   have A15 := Aside0.mk A150
   clear A150
   replace H := Option.bind_eq_some_iff.mp H
   obtain ⟨t1127, A160, H⟩ := H
   have A16 := Aside0.mk A160
   clear A160
   by_cases c17 : (t1124.length : Int) > 0
   case neg =>
    rw [if_neg c17] at H
    have c17b0 : decide (0 < (t1124.length : Int)) = false := decide_eq_false c17
    have c17b1 : decide (0 < t1124.length) = false := decide_eq_false (by omega)
    clear c17
    obtain rfl := Option.some.inj H
    have hcz36_0 : wc.cell? ⟨gb1115, 0, none⟩ = some (.slice A0_0 l0_0.length c0_0) := (blk_cell BK1115.out 0).trans rfl
    have hcz36_1 : wc.cell? ⟨gb1115, 1, none⟩ = some (.slice A0_1 l0_1.length c0_1) := (blk_cell BK1115.out 1).trans rfl
    have hfz36_0 := blk_frozen BK1115.out 0
    have hfz36_1 := blk_frozen BK1115.out 1
    obtain ⟨Ao37, co37, eo37⟩ := Kd.R_slice HO_9.out
    subst eo37
    go_wp2_with (first | ((with_reducible refine gate_callee (f := 81) rfl ?_); refine goesL_ (some 38) rfl rfl Try.func81 (by kernel_rfl) rfl #[.agg #[.slice A0_0 l0_0.length c0_0, .slice A0_1 l0_1.length c0_1], .slice Ao37 t1116.length co37, .int .i64 a3] rfl az ?_; (with_reducible refine (spec_l2Use.calls kj6 _ _ l0_0 _ _ l0_1 _ _ t1116 a3 t1124 _ ?side1 HC0_0.out ?side3 HC0_1.out ?side5 ?side6 A15.out).mono ?_); (case side1 => exact cz HR0_0 HB); (case side3 => exact cz HR0_1 HB); (case side5 => exact cz1 (Kd.R_reads' HO_9.out).2.2); (case side6 => exact (Kd.R_reads' HO_9.out).2.1); rintro e w38 ⟨v1125, rfl, ho0, hb⟩; refine ⟨_, rfl, ?_⟩; have n0_ := Aside0.mk (Kd.R_elder' (ozR HO_9) (Kd.R_base ho0) hb); have n1_ := Aside0.mk (Kd.R_elder' (ozR HO_11) (Kd.R_base ho0) hb); have n2_ := Aside0.mk (Kd.R_lower (Kd.R_new' (Kd.R_new' ho0 (Kd.R_lt (ozR HO_9))) (Kd.R_lt (ozR HO_11))) (below_size (bz1 HB GE1115))); have n3_ := Aside0.mk (blk_below (g := gb1115) (o := .cells #[.slice A0_0 l0_0.length c0_0, .slice A0_1 l0_1.length c0_1] 31 (0, 0)) (kz BK1115) hb); have n4_ := Aside0.mk (below_step (bz1 HB GE1115) hb); clear HO_9; clear HO_11; clear BK1115; clear HB; have HO_9 := n0_; have HO_11 := n1_; have HO1126 := n2_; have BK1115 := n3_; have HB := n4_; clear n0_ n1_ n2_ n3_ n4_; clear hb; (try clear ho0); have hcz39_0 : w38.cell? ⟨gb1115, 0, none⟩ = some (.slice A0_0 l0_0.length c0_0) := (blk_cell BK1115.out 0).trans rfl; have hcz39_1 : w38.cell? ⟨gb1115, 1, none⟩ = some (.slice A0_1 l0_1.length c0_1) := (blk_cell BK1115.out 1).trans rfl; have hfz39_0 := blk_frozen BK1115.out 0; have hfz39_1 := blk_frozen BK1115.out 1; obtain ⟨Ao40, co40, eo40⟩ := Kd.R_slice HO_11.out; subst eo40) | ((with_reducible refine gate_callee (f := 81) rfl ?_); refine goesL_ (some 42) rfl rfl Try.func81 (by kernel_rfl) rfl #[.agg #[.slice A0_0 l0_0.length c0_0, .slice A0_1 l0_1.length c0_1], .slice Ao40 t1120.length co40, .int .i64 a2] rfl az ?_; (with_reducible refine (spec_l2Use.calls kj6 _ _ l0_0 _ _ l0_1 _ _ t1120 a2 t1127 _ ?side1 HC0_0.out ?side3 HC0_1.out ?side5 ?side6 A16.out).mono ?_); (case side1 => exact cz HR0_0 HB); (case side3 => exact cz HR0_1 HB); (case side5 => exact cz1 (Kd.R_reads' HO_11.out).2.2); (case side6 => exact (Kd.R_reads' HO_11.out).2.1); rintro e w41 ⟨v1128, rfl, ho0, hb⟩; refine ⟨_, rfl, ?_⟩; have n0_ := Aside0.mk (Kd.R_elder' (ozR HO_9) (Kd.R_base ho0) hb); have n1_ := Aside0.mk (Kd.R_elder' (ozR HO_11) (Kd.R_base ho0) hb); have n2_ := Aside0.mk (Kd.R_elder' (ozR HO1126) (Kd.R_base ho0) hb); have n3_ := Aside0.mk (Kd.R_lower (Kd.R_new' (Kd.R_new' (Kd.R_new' ho0 (Kd.R_lt (ozR HO_9))) (Kd.R_lt (ozR HO_11))) (Kd.R_lt (ozR HO1126))) (below_size (bz1 HB GE1115))); have n4_ := Aside0.mk (blk_below (g := gb1115) (o := .cells #[.slice A0_0 l0_0.length c0_0, .slice A0_1 l0_1.length c0_1] 31 (0, 0)) (kz BK1115) hb); have n5_ := Aside0.mk (below_step (bz1 HB GE1115) hb); clear HO_9; clear HO_11; clear HO1126; clear BK1115; clear HB; have HO_9 := n0_; have HO_11 := n1_; have HO1126 := n2_; have HO1129 := n3_; have BK1115 := n4_; have HB := n5_; clear n0_ n1_ n2_ n3_ n4_ n5_; clear hb; (try clear ho0); obtain ⟨Ao42, co42, eo42⟩ := Kd.R_slice HO1126.out; subst eo42))
    go_ret
    exact ⟨rz, bz1 HB GE1115⟩
   rw [if_pos c17] at H
   have c17b0 : decide (0 < (t1124.length : Int)) = true := decide_eq_true c17
   have c17b1 : decide (0 < t1124.length) = true := decide_eq_true (by omega)
   clear c17
   by_cases c18 : (t1127.length : Int) > 0
   case neg =>
    rw [if_neg c18] at H
    have c18b0 : decide (0 < (t1127.length : Int)) = false := decide_eq_false c18
    have c18b1 : decide (0 < t1127.length) = false := decide_eq_false (by omega)
    clear c18
    obtain rfl := Option.some.inj H
    have hcz28_0 : wc.cell? ⟨gb1115, 0, none⟩ = some (.slice A0_0 l0_0.length c0_0) := (blk_cell BK1115.out 0).trans rfl
    have hcz28_1 : wc.cell? ⟨gb1115, 1, none⟩ = some (.slice A0_1 l0_1.length c0_1) := (blk_cell BK1115.out 1).trans rfl
    have hfz28_0 := blk_frozen BK1115.out 0
    have hfz28_1 := blk_frozen BK1115.out 1
    obtain ⟨Ao29, co29, eo29⟩ := Kd.R_slice HO_9.out
    subst eo29
    go_wp2_with (first | ((with_reducible refine gate_callee (f := 81) rfl ?_); refine goesL_ (some 38) rfl rfl Try.func81 (by kernel_rfl) rfl #[.agg #[.slice A0_0 l0_0.length c0_0, .slice A0_1 l0_1.length c0_1], .slice Ao29 t1116.length co29, .int .i64 a3] rfl az ?_; (with_reducible refine (spec_l2Use.calls kj6 _ _ l0_0 _ _ l0_1 _ _ t1116 a3 t1124 _ ?side1 HC0_0.out ?side3 HC0_1.out ?side5 ?side6 A15.out).mono ?_); (case side1 => exact cz HR0_0 HB); (case side3 => exact cz HR0_1 HB); (case side5 => exact cz1 (Kd.R_reads' HO_9.out).2.2); (case side6 => exact (Kd.R_reads' HO_9.out).2.1); rintro e w30 ⟨v1125, rfl, ho0, hb⟩; refine ⟨_, rfl, ?_⟩; have n0_ := Aside0.mk (Kd.R_elder' (ozR HO_9) (Kd.R_base ho0) hb); have n1_ := Aside0.mk (Kd.R_elder' (ozR HO_11) (Kd.R_base ho0) hb); have n2_ := Aside0.mk (Kd.R_lower (Kd.R_new' (Kd.R_new' ho0 (Kd.R_lt (ozR HO_9))) (Kd.R_lt (ozR HO_11))) (below_size (bz1 HB GE1115))); have n3_ := Aside0.mk (blk_below (g := gb1115) (o := .cells #[.slice A0_0 l0_0.length c0_0, .slice A0_1 l0_1.length c0_1] 31 (0, 0)) (kz BK1115) hb); have n4_ := Aside0.mk (below_step (bz1 HB GE1115) hb); clear HO_9; clear HO_11; clear BK1115; clear HB; have HO_9 := n0_; have HO_11 := n1_; have HO1126 := n2_; have BK1115 := n3_; have HB := n4_; clear n0_ n1_ n2_ n3_ n4_; clear hb; (try clear ho0); have hcz31_0 : w30.cell? ⟨gb1115, 0, none⟩ = some (.slice A0_0 l0_0.length c0_0) := (blk_cell BK1115.out 0).trans rfl; have hcz31_1 : w30.cell? ⟨gb1115, 1, none⟩ = some (.slice A0_1 l0_1.length c0_1) := (blk_cell BK1115.out 1).trans rfl; have hfz31_0 := blk_frozen BK1115.out 0; have hfz31_1 := blk_frozen BK1115.out 1; obtain ⟨Ao32, co32, eo32⟩ := Kd.R_slice HO_11.out; subst eo32) | ((with_reducible refine gate_callee (f := 81) rfl ?_); refine goesL_ (some 42) rfl rfl Try.func81 (by kernel_rfl) rfl #[.agg #[.slice A0_0 l0_0.length c0_0, .slice A0_1 l0_1.length c0_1], .slice Ao32 t1120.length co32, .int .i64 a2] rfl az ?_; (with_reducible refine (spec_l2Use.calls kj6 _ _ l0_0 _ _ l0_1 _ _ t1120 a2 t1127 _ ?side1 HC0_0.out ?side3 HC0_1.out ?side5 ?side6 A16.out).mono ?_); (case side1 => exact cz HR0_0 HB); (case side3 => exact cz HR0_1 HB); (case side5 => exact cz1 (Kd.R_reads' HO_11.out).2.2); (case side6 => exact (Kd.R_reads' HO_11.out).2.1); rintro e w33 ⟨v1128, rfl, ho0, hb⟩; refine ⟨_, rfl, ?_⟩; have n0_ := Aside0.mk (Kd.R_elder' (ozR HO_9) (Kd.R_base ho0) hb); have n1_ := Aside0.mk (Kd.R_elder' (ozR HO_11) (Kd.R_base ho0) hb); have n2_ := Aside0.mk (Kd.R_elder' (ozR HO1126) (Kd.R_base ho0) hb); have n3_ := Aside0.mk (Kd.R_lower (Kd.R_new' (Kd.R_new' (Kd.R_new' ho0 (Kd.R_lt (ozR HO_9))) (Kd.R_lt (ozR HO_11))) (Kd.R_lt (ozR HO1126))) (below_size (bz1 HB GE1115))); have n4_ := Aside0.mk (blk_below (g := gb1115) (o := .cells #[.slice A0_0 l0_0.length c0_0, .slice A0_1 l0_1.length c0_1] 31 (0, 0)) (kz BK1115) hb); have n5_ := Aside0.mk (below_step (bz1 HB GE1115) hb); clear HO_9; clear HO_11; clear HO1126; clear BK1115; clear HB; have HO_9 := n0_; have HO_11 := n1_; have HO1126 := n2_; have HO1129 := n3_; have BK1115 := n4_; have HB := n5_; clear n0_ n1_ n2_ n3_ n4_ n5_; clear hb; (try clear ho0); obtain ⟨Ao34, co34, eo34⟩ := Kd.R_slice HO1126.out; subst eo34; obtain ⟨Ao35, co35, eo35⟩ := Kd.R_slice HO1129.out; subst eo35))
    go_ret
    exact ⟨rz, bz1 HB GE1115⟩
   rw [if_pos c18] at H
   have c18b0 : decide (0 < (t1127.length : Int)) = true := decide_eq_true c18
   have c18b1 : decide (0 < t1127.length) = true := decide_eq_true (by omega)
   clear c18
   replace H := Option.bind_eq_some_iff.mp H
   obtain ⟨t1130, A190, H⟩ := H
   have A19 := Aside0.mk A190
   clear A190
   obtain rfl := Option.some.inj H
   have hcz20_0 : wc.cell? ⟨gb1115, 0, none⟩ = some (.slice A0_0 l0_0.length c0_0) := (blk_cell BK1115.out 0).trans rfl
   have hcz20_1 : wc.cell? ⟨gb1115, 1, none⟩ = some (.slice A0_1 l0_1.length c0_1) := (blk_cell BK1115.out 1).trans rfl
   have hfz20_0 := blk_frozen BK1115.out 0
   have hfz20_1 := blk_frozen BK1115.out 1
   obtain ⟨Ao21, co21, eo21⟩ := Kd.R_slice HO_9.out
   subst eo21
   go_wp2_with (first | ((with_reducible refine gate_callee (f := 81) rfl ?_); refine goesL_ (some 38) rfl rfl Try.func81 (by kernel_rfl) rfl #[.agg #[.slice A0_0 l0_0.length c0_0, .slice A0_1 l0_1.length c0_1], .slice Ao21 t1116.length co21, .int .i64 a3] rfl az ?_; (with_reducible refine (spec_l2Use.calls kj6 _ _ l0_0 _ _ l0_1 _ _ t1116 a3 t1124 _ ?side1 HC0_0.out ?side3 HC0_1.out ?side5 ?side6 A15.out).mono ?_); (case side1 => exact cz HR0_0 HB); (case side3 => exact cz HR0_1 HB); (case side5 => exact cz1 (Kd.R_reads' HO_9.out).2.2); (case side6 => exact (Kd.R_reads' HO_9.out).2.1); rintro e w22 ⟨v1125, rfl, ho0, hb⟩; refine ⟨_, rfl, ?_⟩; have n0_ := Aside0.mk (Kd.R_elder' (ozR HO_9) (Kd.R_base ho0) hb); have n1_ := Aside0.mk (Kd.R_elder' (ozR HO_11) (Kd.R_base ho0) hb); have n2_ := Aside0.mk (Kd.R_lower (Kd.R_new' (Kd.R_new' ho0 (Kd.R_lt (ozR HO_9))) (Kd.R_lt (ozR HO_11))) (below_size (bz1 HB GE1115))); have n3_ := Aside0.mk (blk_below (g := gb1115) (o := .cells #[.slice A0_0 l0_0.length c0_0, .slice A0_1 l0_1.length c0_1] 31 (0, 0)) (kz BK1115) hb); have n4_ := Aside0.mk (below_step (bz1 HB GE1115) hb); clear HO_9; clear HO_11; clear BK1115; clear HB; have HO_9 := n0_; have HO_11 := n1_; have HO1126 := n2_; have BK1115 := n3_; have HB := n4_; clear n0_ n1_ n2_ n3_ n4_; clear hb; (try clear ho0); have hcz23_0 : w22.cell? ⟨gb1115, 0, none⟩ = some (.slice A0_0 l0_0.length c0_0) := (blk_cell BK1115.out 0).trans rfl; have hcz23_1 : w22.cell? ⟨gb1115, 1, none⟩ = some (.slice A0_1 l0_1.length c0_1) := (blk_cell BK1115.out 1).trans rfl; have hfz23_0 := blk_frozen BK1115.out 0; have hfz23_1 := blk_frozen BK1115.out 1; obtain ⟨Ao24, co24, eo24⟩ := Kd.R_slice HO_11.out; subst eo24) | ((with_reducible refine gate_callee (f := 81) rfl ?_); refine goesL_ (some 42) rfl rfl Try.func81 (by kernel_rfl) rfl #[.agg #[.slice A0_0 l0_0.length c0_0, .slice A0_1 l0_1.length c0_1], .slice Ao24 t1120.length co24, .int .i64 a2] rfl az ?_; (with_reducible refine (spec_l2Use.calls kj6 _ _ l0_0 _ _ l0_1 _ _ t1120 a2 t1127 _ ?side1 ?side2 ?side3 ?side4 ?side5 ?side6 A16.out).mono ?_); (case side1 => exact cz HR0_0 HB); (case side2 => exact HC0_0.out); (case side3 => exact cz HR0_1 HB); (case side4 => exact HC0_1.out); (case side5 => exact cz1 (Kd.R_reads' HO_11.out).2.2); (case side6 => exact (Kd.R_reads' HO_11.out).2.1); rintro e w25 ⟨v1128, rfl, ho0, hb⟩; refine ⟨_, rfl, ?_⟩; have n0_ := Aside0.mk (Kd.R_elder' (ozR HO_9) (Kd.R_base ho0) hb); have n1_ := Aside0.mk (Kd.R_elder' (ozR HO_11) (Kd.R_base ho0) hb); have n2_ := Aside0.mk (Kd.R_elder' (ozR HO1126) (Kd.R_base ho0) hb); have n3_ := Aside0.mk (Kd.R_lower (Kd.R_new' (Kd.R_new' (Kd.R_new' ho0 (Kd.R_lt (ozR HO_9))) (Kd.R_lt (ozR HO_11))) (Kd.R_lt (ozR HO1126))) (below_size (bz1 HB GE1115))); have n4_ := Aside0.mk (blk_below (g := gb1115) (o := .cells #[.slice A0_0 l0_0.length c0_0, .slice A0_1 l0_1.length c0_1] 31 (0, 0)) (kz BK1115) hb); have n5_ := Aside0.mk (below_step (bz1 HB GE1115) hb); clear HO_9; clear HO_11; clear HO1126; clear BK1115; clear HB; have HO_9 := n0_; have HO_11 := n1_; have HO1126 := n2_; have HO1129 := n3_; have BK1115 := n4_; have HB := n5_; clear n0_ n1_ n2_ n3_ n4_ n5_; clear hb; (try clear ho0); obtain ⟨Ao26, co26, eo26⟩ := Kd.R_slice HO1126.out; subst eo26; obtain ⟨Ao27, co27, eo27⟩ := Kd.R_slice HO1129.out; subst eo27) | (go_at_call 83; (with_reducible refine (spec_l2Same.calls kj6 _ _ t1124 _ _ t1127 t1130 _ ?side1 ?side2 ?side3 ?side4 A19.out).mono ?_); (case side1 => exact cz1 (Kd.R_reads' HO1126.out).2.2); (case side2 => exact (Kd.R_reads' HO1126.out).2.1); (case side3 => exact cz1 (Kd.R_reads' HO1129.out).2.2); (case side4 => exact (Kd.R_reads' HO1129.out).2.1); rintro e w' ⟨rfl, ⟨nd, rfl⟩⟩))
   go_ret
   exact ⟨rz, bz1 HB GE1115⟩
end Go.Proofs.Ytoofhjflfpccdaa.PA
end
