/- Walks of Go functions: each is shown to answer as the Lean function beside it tells, under the conditions that its theorem names. -/
import Derived.Test.YtoofhjflfpccdaaProg
import Derived.Below
import Derived.Deep.Draws
import Derived.Deep.AppendLies
import Derived.Maps.AppendAt
import Derived.OwnWalk
import Derived.Laws.BytesArg
import Derived.Laws.MakeOwn
import Derived.Laws.OwnMore
import Derived.Deep.OwnRows
import Derived.Tactics
import Derived.Lib.ConvBytes
import Derived.Laws.Slices
import Derived.WalkKit
import Derived.KernelRfl
import Derived.RowKit3
import Derived.Deep.LoopGhost
import Derived.Deep.QuietTactic
import Derived.BigQuiet
import Derived.WideLaws
import Derived.Deep.DeepCutAuto
import Derived.Deep.CutBlock
import Derived.Deep.RegionHeld3
import Derived.Laws.Rows
import Derived.Lib.AppendStr
import Derived.ArgAppend
import Derived.Laws.IdiomCopy
import Derived.OrdersHeld
import Derived.Laws.BitsLemmas
import Derived.RowKit
import Derived.Laws.StructEq
import Derived.Lib.SliceRun
import Derived.WalkSpells
import Derived.ChangeArms
import Derived.ChangeSlices
import Derived.Deep.Slices
import Derived.Test.YtoofhjflfpccdaaKP838831e28b
import Derived.Test.YtoofhjflfpccdaaKDb220d306dd
section
namespace Go.Proofs.Ytoofhjflfpccdaa.PA
open Go.RowKit Go.Proofs.YtoofhjflfpccdaaW.PrintWords Go.Proofs.YtoofhjflfpccdaaW.PrintLast Go.Proofs.YtoofhjflfpccdaaW.PrintMore
attribute [local go_sem] max2_int min2_int max_two min_two max_three min_three max_four min_four   -- for this text's walks alone
set_option linter.unusedVariables false
set_option linter.unusedSimpArgs false
set_option maxHeartbeats 8000000 in
set_option maxRecDepth 100000 in
theorem spec_l2In.calls (k : Nat) (A0_0 : Option Addr) (c0_0 : Nat) (l0_0 : List (IVar)) (A0_1 : Option Addr) (c0_1 : Nat) (l0_1 : List (IRule)) (A1 : Option Addr) (c1 : Nat) (l1 : List Int) (r : Bool) (w : World) (hr0_0 : Kd.C k62 w A0_0 l0_0.length l0_0) (hc0_0 : l0_0.length ≤ c0_0) (hr0_1 : Kd.C k81 w A0_1 l0_1.length l0_1) (hc0_1 : l0_1.length ≤ c0_1) (hr1 : Kd.C (Kd.int .i64) w A1 l1.length l1) (hc1 : l1.length ≤ c1) (h : spec_l2In.f k l0_0 l0_1 l1 = some r) :
  Calls Try.prog 72 #[.agg #[.slice A0_0 l0_0.length c0_0, .slice A0_1 l0_1.length c0_1], .slice A1 l1.length c1] w fun e w' => e = .returned (.bool r) ∧ Below w.heap.size w w' := by
 have hu31 := Try.underlying31
 have HR0_0 := Aside0.mk hr0_0
 have HC0_0 := Aside0.mk hc0_0
 clear hr0_0 hc0_0
 have HR0_1 := Aside0.mk hr0_1
 have HC0_1 := Aside0.mk hc0_1
 clear hr0_1 hc0_1
 have HR1 := Aside0.mk hr1
 have HC1 := Aside0.mk hc1
 clear hr1 hc1
 have HB := Aside0.mk (Below.refl w.heap.size w)
 have H : (if (l1.length : Int) = (l0_0.length : Int) then (spec_l2In.l0 k l1 0 l0_0 l0_1) else (some false)) = some r := h
 clear h
 by_cases c3 : (l1.length : Int) = (l0_0.length : Int)
 case neg =>
  rw [if_neg c3] at H
  have c3b0 : ((l1.length : Int) == (l0_0.length : Int)) = false := beq_eq_false_iff_ne.mpr c3
  have c3b1 : ((l1.length : Int) != (l0_0.length : Int)) = true := bne_iff_ne.mpr c3
  have c3b2 : (l1.length == l0_0.length) = false := by first | simpa using c3 | (simp at c3 ⊢; omega)
  obtain rfl := Option.some.inj H
  go_enter Try.func72, Try.ntmps72
  go_wp2_with (first | ((with_reducible refine gate_dst (N := 2) rfl ?_); refine box_event ?hg (N := 2) ?hd (cs := #[.slice A0_0 l0_0.length c0_0, .slice A0_1 l0_1.length c0_1]) (t := 31) ?hr ?_; (case hd => rfl); (case hg => rfl); (case hr => first | (go_simp; done) | (go_simp; rfl)); intro gb435 hg w13 hbox hb; have n0_ := Aside0.mk (below_step (bz HB) hb); have n1_ := Aside0.mk (hbox); have n2_ := Aside0.mk ((by rw [hg]; exact (below_size (bz HB)) : w.heap.size ≤ gb435)); have n3_ := Aside0.mk ((by rw [hg]; exact (below_size (bz HB)) : w.heap.size ≤ gb435)); clear HB; have HB := n0_; have BK435 := n1_; have GW435 := n2_; have GE435 := n3_; clear n0_ n1_ n2_ n3_; clear hb hbox hg; have hcz14_0 : w13.cell? ⟨gb435, 0, none⟩ = some (.slice A0_0 l0_0.length c0_0) := (blk_cell BK435.out 0).trans rfl; have hcz14_1 : w13.cell? ⟨gb435, 1, none⟩ = some (.slice A0_1 l0_1.length c0_1) := (blk_cell BK435.out 1).trans rfl; have hfz14_0 := blk_frozen BK435.out 0; have hfz14_1 := blk_frozen BK435.out 1))
  repeat (go_quiet (first | ((with_reducible refine gate_dst (N := 2) rfl ?_); refine box_event ?hg (N := 2) ?hd (cs := #[.slice A0_0 l0_0.length c0_0, .slice A0_1 l0_1.length c0_1]) (t := 31) ?hr ?_; (case hd => rfl); (case hg => rfl); (case hr => first | (go_simp; done) | (go_simp; rfl)); intro gb435 hg w13 hbox hb; have n0_ := Aside0.mk (below_step (bz HB) hb); have n1_ := Aside0.mk (hbox); have n2_ := Aside0.mk ((by rw [hg]; exact (below_size (bz HB)) : w.heap.size ≤ gb435)); have n3_ := Aside0.mk ((by rw [hg]; exact (below_size (bz HB)) : w.heap.size ≤ gb435)); clear HB; have HB := n0_; have BK435 := n1_; have GW435 := n2_; have GE435 := n3_; clear n0_ n1_ n2_ n3_; clear hb hbox hg; have hcz14_0 : w13.cell? ⟨gb435, 0, none⟩ = some (.slice A0_0 l0_0.length c0_0) := (blk_cell BK435.out 0).trans rfl; have hcz14_1 : w13.cell? ⟨gb435, 1, none⟩ = some (.slice A0_1 l0_1.length c0_1) := (blk_cell BK435.out 1).trans rfl; have hfz14_0 := blk_frozen BK435.out 0; have hfz14_1 := blk_frozen BK435.out 1)); try go_wp2_with (first | ((with_reducible refine gate_dst (N := 2) rfl ?_); refine box_event ?hg (N := 2) ?hd (cs := #[.slice A0_0 l0_0.length c0_0, .slice A0_1 l0_1.length c0_1]) (t := 31) ?hr ?_; (case hd => rfl); (case hg => rfl); (case hr => first | (go_simp; done) | (go_simp; rfl)); intro gb435 hg w13 hbox hb; have n0_ := Aside0.mk (below_step (bz HB) hb); have n1_ := Aside0.mk (hbox); have n2_ := Aside0.mk ((by rw [hg]; exact (below_size (bz HB)) : w.heap.size ≤ gb435)); have n3_ := Aside0.mk ((by rw [hg]; exact (below_size (bz HB)) : w.heap.size ≤ gb435)); clear HB; have HB := n0_; have BK435 := n1_; have GW435 := n2_; have GE435 := n3_; clear n0_ n1_ n2_ n3_; clear hb hbox hg; have hcz14_0 : w13.cell? ⟨gb435, 0, none⟩ = some (.slice A0_0 l0_0.length c0_0) := (blk_cell BK435.out 0).trans rfl; have hcz14_1 : w13.cell? ⟨gb435, 1, none⟩ = some (.slice A0_1 l0_1.length c0_1) := (blk_cell BK435.out 1).trans rfl; have hfz14_0 := blk_frozen BK435.out 0; have hfz14_1 := blk_frozen BK435.out 1)))
  go_ret
  exact ⟨rz, bz1 HB GE435⟩
 rw [if_pos c3] at H
 have c3b0 : ((l1.length : Int) == (l0_0.length : Int)) = true := beq_iff_eq.mpr c3
 have c3b1 : ((l1.length : Int) != (l0_0.length : Int)) = false := bne_eq_false_iff_eq.mpr c3
 have c3b2 : (l1.length == l0_0.length) = true := by first | simpa using c3 | (simp at c3 ⊢; omega)
 clear c3
 have H' := Aside0.mk H
 clear H
 go_enter Try.func72, Try.ntmps72
 go_wp2_with (first | ((with_reducible refine gate_dst (N := 2) rfl ?_); refine box_event ?hg (N := 2) ?hd (cs := #[.slice A0_0 l0_0.length c0_0, .slice A0_1 l0_1.length c0_1]) (t := 31) ?hr ?_; (case hd => rfl); (case hg => rfl); (case hr => first | (go_simp; done) | (go_simp; rfl)); intro gb435 hg w4 hbox hb; have n0_ := Aside0.mk (below_step (bz HB) hb); have n1_ := Aside0.mk (hbox); have n2_ := Aside0.mk ((by rw [hg]; exact (below_size (bz HB)) : w.heap.size ≤ gb435)); have n3_ := Aside0.mk ((by rw [hg]; exact (below_size (bz HB)) : w.heap.size ≤ gb435)); clear HB; have HB := n0_; have BK435 := n1_; have GW435 := n2_; have GE435 := n3_; clear n0_ n1_ n2_ n3_; clear hb hbox hg; have hcz5_0 : w4.cell? ⟨gb435, 0, none⟩ = some (.slice A0_0 l0_0.length c0_0) := (blk_cell BK435.out 0).trans rfl; have hcz5_1 : w4.cell? ⟨gb435, 1, none⟩ = some (.slice A0_1 l0_1.length c0_1) := (blk_cell BK435.out 1).trans rfl; have hfz5_0 := blk_frozen BK435.out 0; have hfz5_1 := blk_frozen BK435.out 1))
 repeat (go_quiet (first | ((with_reducible refine gate_dst (N := 2) rfl ?_); refine box_event ?hg (N := 2) ?hd (cs := #[.slice A0_0 l0_0.length c0_0, .slice A0_1 l0_1.length c0_1]) (t := 31) ?hr ?_; (case hd => rfl); (case hg => rfl); (case hr => first | (go_simp; done) | (go_simp; rfl)); intro gb435 hg w4 hbox hb; have n0_ := Aside0.mk (below_step (bz HB) hb); have n1_ := Aside0.mk (hbox); have n2_ := Aside0.mk ((by rw [hg]; exact (below_size (bz HB)) : w.heap.size ≤ gb435)); have n3_ := Aside0.mk ((by rw [hg]; exact (below_size (bz HB)) : w.heap.size ≤ gb435)); clear HB; have HB := n0_; have BK435 := n1_; have GW435 := n2_; have GE435 := n3_; clear n0_ n1_ n2_ n3_; clear hb hbox hg; have hcz5_0 : w4.cell? ⟨gb435, 0, none⟩ = some (.slice A0_0 l0_0.length c0_0) := (blk_cell BK435.out 0).trans rfl; have hcz5_1 : w4.cell? ⟨gb435, 1, none⟩ = some (.slice A0_1 l0_1.length c0_1) := (blk_cell BK435.out 1).trans rfl; have hfz5_0 := blk_frozen BK435.out 0; have hfz5_1 := blk_frozen BK435.out 1)); try go_wp2_with (first | ((with_reducible refine gate_dst (N := 2) rfl ?_); refine box_event ?hg (N := 2) ?hd (cs := #[.slice A0_0 l0_0.length c0_0, .slice A0_1 l0_1.length c0_1]) (t := 31) ?hr ?_; (case hd => rfl); (case hg => rfl); (case hr => first | (go_simp; done) | (go_simp; rfl)); intro gb435 hg w4 hbox hb; have n0_ := Aside0.mk (below_step (bz HB) hb); have n1_ := Aside0.mk (hbox); have n2_ := Aside0.mk ((by rw [hg]; exact (below_size (bz HB)) : w.heap.size ≤ gb435)); have n3_ := Aside0.mk ((by rw [hg]; exact (below_size (bz HB)) : w.heap.size ≤ gb435)); clear HB; have HB := n0_; have BK435 := n1_; have GW435 := n2_; have GE435 := n3_; clear n0_ n1_ n2_ n3_; clear hb hbox hg; have hcz5_0 : w4.cell? ⟨gb435, 0, none⟩ = some (.slice A0_0 l0_0.length c0_0) := (blk_cell BK435.out 0).trans rfl; have hcz5_1 : w4.cell? ⟨gb435, 1, none⟩ = some (.slice A0_1 l0_1.length c0_1) := (blk_cell BK435.out 1).trans rfl; have hfz5_0 := blk_frozen BK435.out 0; have hfz5_1 := blk_frozen BK435.out 1)))
 go_loopg [5] k (fun kq v5 w' => ∃ (x5_1 : Int), v5 = .int .i64 x5_1 ∧ Aside0 (spec_l2In.l0 kq l1 x5_1 l0_0 l0_1 = some r) ∧ Aside0 (kq ≤ k) ∧ Aside0 (w'.heap[gb435]? = some (.cells #[(.slice A0_0 l0_0.length c0_0), (.slice A0_1 l0_1.length c0_1)] 31 (0, 0))) ∧ Aside0 (Below w.heap.size w w'))
 case atStart => exact ⟨(0), rq, H', ⟨Nat.le_refl _⟩, ⟨kz BK435⟩, ⟨bz1 HB GE435⟩⟩
 case round =>
  clear H'
  try clear c1
  try clear p2
  try clear c3
  try clear c3b0
  try clear c3b1
  try clear c3b2
  try clear hcz5_0
  try clear hcz5_1
  try clear hfz5_0
  try clear hfz5_1
  obtain ⟨x5_1, rfl, HA, HK1, BK435, HB⟩ := hrel
  cases gk with
  | zero => exact absurd HA.out (by simp [spec_l2In.l0])
  | succ k1 =>
   have H := HA.out
   clear HA
   simp only [spec_l2In.l0] at H
   by_cases c6 : x5_1 < (l1.length : Int)
   case neg =>
    rw [if_neg c6] at H
    have c6b0 : decide (x5_1 < (l1.length : Int)) = false := decide_eq_false c6
    clear c6
    obtain rfl := Option.some.inj H
    go_wp2
    repeat (go_quiet (fail); try go_wp2)
    go_ret
    exact ⟨rz, bz1 HB GE435⟩
   rw [if_pos c6] at H
   have c6b0 : decide (x5_1 < (l1.length : Int)) = true := decide_eq_true c6
   clear c6
   by_cases c7 : 0 ≤ x5_1
   case neg =>
    rw [if_neg c7] at H
    exact absurd H (by simp)
   rw [if_pos c7] at H
   have c7b0 : decide (0 ≤ x5_1) = true := decide_eq_true c7
   clear c7
   by_cases c8 : x5_1 < (l0_0.length : Int)
   case neg =>
    rw [if_neg c8] at H
    exact absurd H (by simp)
   rw [if_pos c8] at H
   have c8b0 : decide (x5_1 < (l0_0.length : Int)) = true := decide_eq_true c8
   clear c8
   replace H := Option.bind_eq_some_iff.mp H
   obtain ⟨t439, A90, H⟩ := H
   have A9 := Aside0.mk A90
   clear A90
   by_cases c10 : t439 = true
   case neg =>
    replace c10 := Bool.eq_false_iff.mpr c10
    subst c10
    rw [if_neg nt_] at H
    obtain rfl := Option.some.inj H
    have p436 : 0 ≤ (x5_1 : Int) := dz
    have q436 : x5_1 < (l1.length : Int) := dz
    obtain ⟨ad436, e436, hx436_0⟩ := Kd.at_int HR1.out x5_1 p436 q436
    cases e436
    replace hx436_0 := xz HB hx436_0
    replace p436 := eq_true p436
    replace q436 := eq_true q436
    have hcz12_0 : wr.cell? ⟨gb435, 0, none⟩ = some (.slice A0_0 l0_0.length c0_0) := (blk_cell BK435.out 0).trans rfl
    have hcz12_1 : wr.cell? ⟨gb435, 1, none⟩ = some (.slice A0_1 l0_1.length c0_1) := (blk_cell BK435.out 1).trans rfl
    have hfz12_0 := blk_frozen BK435.out 0
    have hfz12_1 := blk_frozen BK435.out 1
    have p437 : 0 ≤ (x5_1 : Int) := dz
    have q437 : x5_1 < (l0_0.length : Int) := dz
    obtain ⟨ad437, e437, hx437_0, hx437_1, hx437_2⟩ := at_IVar HR0_0.out x5_1 p437 q437
    cases e437
    replace hx437_0 := xz HB hx437_0
    replace hx437_1 := xz HB hx437_1
    replace hx437_2 := xz HB hx437_2
    replace p437 := eq_true p437
    replace q437 := eq_true q437
    have p438 : 0 ≤ (x5_1 : Int) := dz
    have q438 : x5_1 < (l0_0.length : Int) := dz
    obtain ⟨ad438, e438, hx438_0, hx438_1, hx438_2⟩ := at_IVar HR0_0.out x5_1 p438 q438
    obtain rfl : ad437 = ad438 := (by injection e438)
    replace hx438_0 := xz HB hx438_0
    replace hx438_1 := xz HB hx438_1
    replace hx438_2 := xz HB hx438_2
    replace p438 := eq_true p438
    replace q438 := eq_true q438
    go_wp2_with (first | (go_at_call 66; (with_reducible refine (spec_l1In.calls (rd l1 x5_1) ((rd_IVar l0_0 x5_1).f0) ((rd_IVar l0_0 x5_1).f1) false _ A9.out).mono ?_); rintro e w' ⟨rfl, ⟨nd, rfl⟩⟩; (try first | exact ⟨rfl, _, World.drewN_drewN _ _ _⟩ | exact ⟨rfl, _, Eq.trans (World.drewN_drewN _ _ _) (congrArg (World.drewN _) (Nat.add_assoc _ _ _))⟩)))
    repeat (go_quiet (first | (go_at_call 66; (with_reducible refine (spec_l1In.calls (rd l1 x5_1) ((rd_IVar l0_0 x5_1).f0) ((rd_IVar l0_0 x5_1).f1) false _ A9.out).mono ?_); rintro e w' ⟨rfl, ⟨nd, rfl⟩⟩; (try first | exact ⟨rfl, _, World.drewN_drewN _ _ _⟩ | exact ⟨rfl, _, Eq.trans (World.drewN_drewN _ _ _) (congrArg (World.drewN _) (Nat.add_assoc _ _ _))⟩))); try go_wp2_with (first | (go_at_call 66; (with_reducible refine (spec_l1In.calls (rd l1 x5_1) ((rd_IVar l0_0 x5_1).f0) ((rd_IVar l0_0 x5_1).f1) false _ A9.out).mono ?_); rintro e w' ⟨rfl, ⟨nd, rfl⟩⟩; (try first | exact ⟨rfl, _, World.drewN_drewN _ _ _⟩ | exact ⟨rfl, _, Eq.trans (World.drewN_drewN _ _ _) (congrArg (World.drewN _) (Nat.add_assoc _ _ _))⟩))))
    go_ret
    exact ⟨rz, bz1 HB GE435⟩
   subst c10
   rw [if_pos rfl] at H
   have H' := Aside0.mk H
   clear H
   have p436 : 0 ≤ (x5_1 : Int) := dz
   have q436 : x5_1 < (l1.length : Int) := dz
   obtain ⟨ad436, e436, hx436_0⟩ := Kd.at_int HR1.out x5_1 p436 q436
   cases e436
   replace hx436_0 := xz HB hx436_0
   replace p436 := eq_true p436
   replace q436 := eq_true q436
   have hcz11_0 : wr.cell? ⟨gb435, 0, none⟩ = some (.slice A0_0 l0_0.length c0_0) := (blk_cell BK435.out 0).trans rfl
   have hcz11_1 : wr.cell? ⟨gb435, 1, none⟩ = some (.slice A0_1 l0_1.length c0_1) := (blk_cell BK435.out 1).trans rfl
   have hfz11_0 := blk_frozen BK435.out 0
   have hfz11_1 := blk_frozen BK435.out 1
   have p437 : 0 ≤ (x5_1 : Int) := dz
   have q437 : x5_1 < (l0_0.length : Int) := dz
   obtain ⟨ad437, e437, hx437_0, hx437_1, hx437_2⟩ := at_IVar HR0_0.out x5_1 p437 q437
   cases e437
   replace hx437_0 := xz HB hx437_0
   replace hx437_1 := xz HB hx437_1
   replace hx437_2 := xz HB hx437_2
   replace p437 := eq_true p437
   replace q437 := eq_true q437
   have p438 : 0 ≤ (x5_1 : Int) := dz
   have q438 : x5_1 < (l0_0.length : Int) := dz
   obtain ⟨ad438, e438, hx438_0, hx438_1, hx438_2⟩ := at_IVar HR0_0.out x5_1 p438 q438
   obtain rfl : ad437 = ad438 := (by injection e438)
   replace hx438_0 := xz HB hx438_0
   replace hx438_1 := xz HB hx438_1
   replace hx438_2 := xz HB hx438_2
   replace p438 := eq_true p438
   replace q438 := eq_true q438
   go_wp2_with (first | (go_at_call 66; (with_reducible refine (spec_l1In.calls (rd l1 x5_1) ((rd_IVar l0_0 x5_1).f0) ((rd_IVar l0_0 x5_1).f1) true _ A9.out).mono ?_); rintro e w' ⟨rfl, ⟨nd, rfl⟩⟩; (try first | exact ⟨rfl, _, World.drewN_drewN _ _ _⟩ | exact ⟨rfl, _, Eq.trans (World.drewN_drewN _ _ _) (congrArg (World.drewN _) (Nat.add_assoc _ _ _))⟩)))
   repeat (go_quiet (first | (go_at_call 66; (with_reducible refine (spec_l1In.calls (rd l1 x5_1) ((rd_IVar l0_0 x5_1).f0) ((rd_IVar l0_0 x5_1).f1) true _ A9.out).mono ?_); rintro e w' ⟨rfl, ⟨nd, rfl⟩⟩; (try first | exact ⟨rfl, _, World.drewN_drewN _ _ _⟩ | exact ⟨rfl, _, Eq.trans (World.drewN_drewN _ _ _) (congrArg (World.drewN _) (Nat.add_assoc _ _ _))⟩))); try go_wp2_with (first | (go_at_call 66; (with_reducible refine (spec_l1In.calls (rd l1 x5_1) ((rd_IVar l0_0 x5_1).f0) ((rd_IVar l0_0 x5_1).f1) true _ A9.out).mono ?_); rintro e w' ⟨rfl, ⟨nd, rfl⟩⟩; (try first | exact ⟨rfl, _, World.drewN_drewN _ _ _⟩ | exact ⟨rfl, _, Eq.trans (World.drewN_drewN _ _ _) (congrArg (World.drewN _) (Nat.add_assoc _ _ _))⟩))))
   go_roundg k1
   case measure => have := HK1.out; omega
   case rel => exact ⟨(wrap64 (x5_1 + 1)), rq, H', ⟨by have := HK1.out; omega⟩, ⟨kz BK435⟩, ⟨bz1 HB GE435⟩⟩
end Go.Proofs.Ytoofhjflfpccdaa.PA
end
section
namespace Go.Proofs.Ytoofhjflfpccdaa.PA
open Go.RowKit Go.Proofs.YtoofhjflfpccdaaW.PrintWords Go.Proofs.YtoofhjflfpccdaaW.PrintLast Go.Proofs.YtoofhjflfpccdaaW.PrintMore
attribute [local go_sem] max2_int min2_int max_two min_two max_three min_three max_four min_four   -- for this text's walks alone
set_option linter.unusedVariables false
set_option linter.unusedSimpArgs false
set_option maxHeartbeats 8000000 in
set_option maxRecDepth 100000 in
theorem spec_InRange.calls (k : Nat) (A0_0 : Option Addr) (c0_0 : Nat) (l0_0 : List (IVar)) (A0_1 : Option Addr) (c0_1 : Nat) (l0_1 : List (IRule)) (A1 : Option Addr) (c1 : Nat) (l1 : List Int) (r : Bool) (w : World) (hr0_0 : Kd.C k62 w A0_0 l0_0.length l0_0) (hc0_0 : l0_0.length ≤ c0_0) (hr0_1 : Kd.C k81 w A0_1 l0_1.length l0_1) (hc0_1 : l0_1.length ≤ c0_1) (hr1 : Kd.C (Kd.int .i64) w A1 l1.length l1) (hc1 : l1.length ≤ c1) (h : spec_InRange.f k l0_0 l0_1 l1 = some r) :
  Calls Try.prog 61 #[.agg #[.slice A0_0 l0_0.length c0_0, .slice A0_1 l0_1.length c0_1], .slice A1 l1.length c1] w fun e w' => e = .returned (.bool r) ∧ Below w.heap.size w w' := by
 have hu31 := Try.underlying31
 have HR0_0 := Aside0.mk hr0_0
 have HC0_0 := Aside0.mk hc0_0
 clear hr0_0 hc0_0
 have HR0_1 := Aside0.mk hr0_1
 have HC0_1 := Aside0.mk hc0_1
 clear hr0_1 hc0_1
 have HR1 := Aside0.mk hr1
 have HC1 := Aside0.mk hc1
 clear hr1 hc1
 have HB := Aside0.mk (Below.refl w.heap.size w)
 have H : ((spec_SystemValid.f k l0_0 l0_1).bind fun t441 => (if t441 = true then ((spec_l2In.f k l0_0 l0_1 l1).bind fun t442 => (some t442)) else (some false))) = some r := h
 clear h
 replace H := Option.bind_eq_some_iff.mp H
 obtain ⟨t441, A30, H⟩ := H
 have A3 := Aside0.mk A30
 clear A30
 by_cases c4 : t441 = true
 case neg =>
  replace c4 := Bool.eq_false_iff.mpr c4
  subst c4
  rw [if_neg nt_] at H
  obtain rfl := Option.some.inj H
  go_enter Try.func61, Try.ntmps61
  go_wp2_with (first | ((with_reducible refine gate_dst (N := 2) rfl ?_); refine box_event ?hg (N := 2) ?hd (cs := #[.slice A0_0 l0_0.length c0_0, .slice A0_1 l0_1.length c0_1]) (t := 31) ?hr ?_; (case hd => rfl); (case hg => rfl); (case hr => first | (go_simp; done) | (go_simp; rfl)); intro gb440 hg w11 hbox hb; have n0_ := Aside0.mk (below_step (bz HB) hb); have n1_ := Aside0.mk (hbox); have n2_ := Aside0.mk ((by rw [hg]; exact (below_size (bz HB)) : w.heap.size ≤ gb440)); have n3_ := Aside0.mk ((by rw [hg]; exact (below_size (bz HB)) : w.heap.size ≤ gb440)); clear HB; have HB := n0_; have BK440 := n1_; have GW440 := n2_; have GE440 := n3_; clear n0_ n1_ n2_ n3_; clear hb hbox hg; have hcz12_0 : w11.cell? ⟨gb440, 0, none⟩ = some (.slice A0_0 l0_0.length c0_0) := (blk_cell BK440.out 0).trans rfl; have hcz12_1 : w11.cell? ⟨gb440, 1, none⟩ = some (.slice A0_1 l0_1.length c0_1) := (blk_cell BK440.out 1).trans rfl; have hfz12_0 := blk_frozen BK440.out 0; have hfz12_1 := blk_frozen BK440.out 1) | ((with_reducible refine gate_callee (f := 49) rfl ?_); refine goesL_ (some 6) rfl rfl Try.func49 (by kernel_rfl) rfl #[.agg #[.slice A0_0 l0_0.length c0_0, .slice A0_1 l0_1.length c0_1]] rfl az ?_; (with_reducible refine (spec_SystemValid.calls k _ _ l0_0 _ _ l0_1 false _ ?side1 HC0_0.out ?side3 HC0_1.out A3.out).mono ?_); (case side1 => exact cz HR0_0 HB); (case side3 => exact cz HR0_1 HB); rintro e w13 ⟨rfl, hb⟩; refine ⟨_, rfl, ?_⟩; replace BK440 := Aside0.mk (blk_below (g := gb440) (o := .cells #[.slice A0_0 l0_0.length c0_0, .slice A0_1 l0_1.length c0_1] 31 (0, 0)) (kz BK440) hb); replace HB := Aside0.mk (below_step (bz1 HB GE440) hb); clear hb))
  go_ret
  exact ⟨rz, bz1 HB GE440⟩
 subst c4
 rw [if_pos rfl] at H
 replace H := Option.bind_eq_some_iff.mp H
 obtain ⟨t442, A50, H⟩ := H
 have A5 := Aside0.mk A50
 clear A50
 obtain rfl := Option.some.inj H
 go_enter Try.func61, Try.ntmps61
 go_wp2_with (first | ((with_reducible refine gate_dst (N := 2) rfl ?_); refine box_event ?hg (N := 2) ?hd (cs := #[.slice A0_0 l0_0.length c0_0, .slice A0_1 l0_1.length c0_1]) (t := 31) ?hr ?_; (case hd => rfl); (case hg => rfl); (case hr => first | (go_simp; done) | (go_simp; rfl)); intro gb440 hg w6 hbox hb; have n0_ := Aside0.mk (below_step (bz HB) hb); have n1_ := Aside0.mk (hbox); have n2_ := Aside0.mk ((by rw [hg]; exact (below_size (bz HB)) : w.heap.size ≤ gb440)); have n3_ := Aside0.mk ((by rw [hg]; exact (below_size (bz HB)) : w.heap.size ≤ gb440)); clear HB; have HB := n0_; have BK440 := n1_; have GW440 := n2_; have GE440 := n3_; clear n0_ n1_ n2_ n3_; clear hb hbox hg; have hcz7_0 : w6.cell? ⟨gb440, 0, none⟩ = some (.slice A0_0 l0_0.length c0_0) := (blk_cell BK440.out 0).trans rfl; have hcz7_1 : w6.cell? ⟨gb440, 1, none⟩ = some (.slice A0_1 l0_1.length c0_1) := (blk_cell BK440.out 1).trans rfl; have hfz7_0 := blk_frozen BK440.out 0; have hfz7_1 := blk_frozen BK440.out 1) | ((with_reducible refine gate_callee (f := 49) rfl ?_); refine goesL_ (some 6) rfl rfl Try.func49 (by kernel_rfl) rfl #[.agg #[.slice A0_0 l0_0.length c0_0, .slice A0_1 l0_1.length c0_1]] rfl az ?_; (with_reducible refine (spec_SystemValid.calls k _ _ l0_0 _ _ l0_1 true _ ?side1 ?side2 ?side3 ?side4 A3.out).mono ?_); (case side1 => exact cz HR0_0 HB); (case side2 => exact HC0_0.out); (case side3 => exact cz HR0_1 HB); (case side4 => exact HC0_1.out); rintro e w8 ⟨rfl, hb⟩; refine ⟨_, rfl, ?_⟩; replace BK440 := Aside0.mk (blk_below (g := gb440) (o := .cells #[.slice A0_0 l0_0.length c0_0, .slice A0_1 l0_1.length c0_1] 31 (0, 0)) (kz BK440) hb); replace HB := Aside0.mk (below_step (bz1 HB GE440) hb); clear hb; have hcz9_0 : w8.cell? ⟨gb440, 0, none⟩ = some (.slice A0_0 l0_0.length c0_0) := (blk_cell BK440.out 0).trans rfl; have hcz9_1 : w8.cell? ⟨gb440, 1, none⟩ = some (.slice A0_1 l0_1.length c0_1) := (blk_cell BK440.out 1).trans rfl; have hfz9_0 := blk_frozen BK440.out 0; have hfz9_1 := blk_frozen BK440.out 1) | (go_at_call 72; (with_reducible refine (spec_l2In.calls k _ _ l0_0 _ _ l0_1 _ _ l1 t442 _ ?side1 ?side2 ?side3 ?side4 ?side5 HC1.out A5.out).mono ?_); (case side1 => exact cz HR0_0 HB); (case side2 => exact HC0_0.out); (case side3 => exact cz HR0_1 HB); (case side4 => exact HC0_1.out); (case side5 => exact cz HR1 HB); rintro e w10 ⟨rfl, hb⟩; replace BK440 := Aside0.mk (blk_below (g := gb440) (o := .cells #[.slice A0_0 l0_0.length c0_0, .slice A0_1 l0_1.length c0_1] 31 (0, 0)) (kz BK440) hb); replace HB := Aside0.mk (below_step (bz1 HB GE440) hb); clear hb))
 go_ret
 exact ⟨rz, bz1 HB GE440⟩
end Go.Proofs.Ytoofhjflfpccdaa.PA
end
section
namespace Go.Proofs.Ytoofhjflfpccdaa.PA
open Go.RowKit Go.Proofs.YtoofhjflfpccdaaW.PrintWords Go.Proofs.YtoofhjflfpccdaaW.PrintLast Go.Proofs.YtoofhjflfpccdaaW.PrintMore
attribute [local go_sem] max2_int min2_int max_two min_two max_three min_three max_four min_four   -- for this text's walks alone
set_option linter.unusedVariables false
set_option linter.unusedSimpArgs false
set_option maxHeartbeats 8000000 in
set_option maxRecDepth 100000 in
theorem spec_l6Many.calls (k : Nat) (a0 : Int) (r : Int) (w : World) (h : spec_l6Many.f k a0 = some r) :
  Calls Try.prog 88 #[.int .i64 a0] w fun e w' => e = .returned (.int .i64 r) ∧ Drawn0 w w' := by
 have H : (spec_l6Many.l0 k a0 0 1) = some r := h
 clear h
 have H' := Aside0.mk H
 clear H
 go_enter Try.func88, Try.ntmps88
 go_wp2
 go_loopg [3, 4] k (fun kq v3 v4 w' => ∃ (x3_1 : Int) (x4_1 : Int), v3 = .int .i64 x3_1 ∧ v4 = .int .i64 x4_1 ∧ Aside0 (spec_l6Many.l0 kq a0 x3_1 x4_1 = some r) ∧ Aside0 (kq ≤ k) ∧ Drawn0 w w')
 case atStart => exact ⟨(0), (1), rq, rq, H', ⟨Nat.le_refl _⟩, by repeat (first | exact Drawn0.refl _ | apply Drawn0.step)⟩
 case round =>
  clear H'
  obtain ⟨x3_1, x4_1, rfl, rfl, HA, HK1, ⟨m1, rfl⟩⟩ := hrel
  cases gk with
  | zero => exact absurd HA.out (by simp [spec_l6Many.l0])
  | succ k1 =>
   have H := HA.out
   clear HA
   simp only [spec_l6Many.l0] at H
   by_cases c2 : x4_1 < a0
   case neg =>
    rw [if_neg c2] at H
    have c2b0 : decide (x4_1 < a0) = false := decide_eq_false c2
    clear c2
    obtain rfl := Option.some.inj H
    go_wp2
    go_ret
    exact ⟨by first | rfl | (simp; done) | (simp [*]; done), by repeat (first | exact Drawn0.refl _ | apply Drawn0.step)⟩
   rw [if_pos c2] at H
   have c2b0 : decide (x4_1 < a0) = true := decide_eq_true c2
   clear c2
   have H' := Aside0.mk H
   clear H
   go_wp2
   go_roundg k1
   case measure => have := HK1.out; omega
   case rel => exact ⟨(wrap64 (x3_1 + 1)), (wrap64 (x4_1 * 2)), rq, rq, H', ⟨by have := HK1.out; omega⟩, by repeat (first | exact Drawn0.refl _ | apply Drawn0.step)⟩
end Go.Proofs.Ytoofhjflfpccdaa.PA
end
section
namespace Go.Proofs.Ytoofhjflfpccdaa.PA
open Go.RowKit Go.Proofs.YtoofhjflfpccdaaW.PrintWords Go.Proofs.YtoofhjflfpccdaaW.PrintLast Go.Proofs.YtoofhjflfpccdaaW.PrintMore
attribute [local go_sem] max2_int min2_int max_two min_two max_three min_three max_four min_four   -- for this text's walks alone
set_option linter.unusedVariables false
set_option linter.unusedSimpArgs false
def spec_l6Widths.T5 : Bool × List (List Nat × List Nat) := (true, [([], []), ([], []), ([1], [1]), ([], []), ([2, 3], [2, 3]), ([4], [4]), ([5], [5]), ([], []), ([7], [7]), ([], []), ([8, 9], [8, 9]), ([10], [10]), ([11], [11]), ([6, 12], [6, 12]), ([13], [13]), ([14], [14]), ([15], [15]), ([0, 16, 15], [0, 16]), ([17, 17, 0, 1, 2, 3, 4, 5, 6, 7, 8, 9, 10, 11, 12, 13, 14, 15, 16, 17], [0, 17])])
def spec_l6Widths.B5 : List Nat := [0, 0, 2, 0, 14, 30, 62, 0, 128, 0, 896, 1920, 3968, 8190, 16382, 32766, 65534, 131071, 262143]
theorem spec_l6Widths.tab5 : rtab .any (opsOf Try.f51 5) = spec_l6Widths.T5 := by kernel_rfl
theorem spec_l6Widths.bits5 : waitsOk spec_l6Widths.T5.2 spec_l6Widths.B5 = true := by kernel_rfl
set_option maxHeartbeats 8000000 in
set_option maxRecDepth 100000 in
theorem spec_l6Widths.calls (k : Nat) (A0_0 : Option Addr) (c0_0 : Nat) (l0_0 : List (IVar)) (A0_1 : Option Addr) (c0_1 : Nat) (l0_1 : List (IRule)) (r : List Int) (w : World) (hr0_0 : Kd.C k62 w A0_0 l0_0.length l0_0) (hc0_0 : l0_0.length ≤ c0_0) (hr0_1 : Kd.C k81 w A0_1 l0_1.length l0_1) (hc0_1 : l0_1.length ≤ c0_1) (h : spec_l6Widths.f k l0_0 l0_1 = some r) :
  Calls Try.prog 51 #[.agg #[.slice A0_0 l0_0.length c0_0, .slice A0_1 l0_1.length c0_1]] w fun e w' => ∃ v0_ : Value, e = .returned (v0_) ∧ Kd.R (Kd.int .i64) 3 w' w.heap.size (fun _ => True) v0_ r ∧ Below w.heap.size w w' := by
 have hu31 := Try.underlying31
 have HR0_0 := Aside0.mk hr0_0
 have HC0_0 := Aside0.mk hc0_0
 clear hr0_0 hc0_0
 have HR0_1 := Aside0.mk hr0_1
 have HC0_1 := Aside0.mk hc0_1
 clear hr0_1 hc0_1
 have HB := Aside0.mk (Below.refl w.heap.size w)
 have H : (spec_l6Widths.l0 k (([] : List Int)) 0 l0_0 l0_1) = some r := h
 clear h
 obtain ⟨y159, hy159⟩ : ∃ y_ : List Int, y_ = (([] : List Int)) := ⟨_, rfl⟩
 replace H : (spec_l6Widths.l0 k y159 0 l0_0 l0_1) = some r := by first | (rw [hy159]; with_reducible exact H) | (have H2_ := (Option.bind_some _ _).symm.trans H; rw [hy159]; with_reducible exact H2_) | (have H2_ := (Option.bind_some _ _).symm.trans H; with_reducible exact H2_) | with_reducible exact H | (rw [hy159]; exact H) | exact H
 have Ny159 := Aside0.mk hy159
 clear hy159
 have H' := Aside0.mk H
 clear H
 go_enter Try.func51, Try.ntmps51
 go_wp2_with (first | ((with_reducible refine gate_dst (N := 1) rfl ?_); refine box_event ?hg (N := 1) ?hd (cs := #[.slice A0_0 l0_0.length c0_0, .slice A0_1 l0_1.length c0_1]) (t := 31) ?hr ?_; (case hd => rfl); (case hg => rfl); (case hr => first | (go_simp; done) | (go_simp; rfl)); intro gb158 hg w2 hbox hb; have n0_ := Aside0.mk (below_step (bz HB) hb); have n1_ := Aside0.mk (hbox); have n2_ := Aside0.mk ((by rw [hg]; exact (below_size (bz HB)) : w.heap.size ≤ gb158)); have n3_ := Aside0.mk ((by rw [hg]; exact (below_size (bz HB)) : w.heap.size ≤ gb158)); clear HB; have HB := n0_; have BK158 := n1_; have GW158 := n2_; have GE158 := n3_; clear n0_ n1_ n2_ n3_; clear hb hbox hg) | ((with_reducible refine gate_dst (N := 5) rfl ?_); refine Kd.R_lit (Kd.int .i64) _ 3 ?hg (N := 5) ?hd (xs := ([] : List Int)) (inner := []) (ok := fun _ => True) (okp := fun _ => True) ?hr ?hp (fun _ hk => hk) trivial (Below.refl _ _) (Nat.le_refl _) (by simp) ?_; (case hd => rfl); (case hg => rfl); (case hr => first | (go_simp; done) | (go_simp; rfl)); (case hp => exact (Reps.none _ _)); intro v160 w3 ho4 hb hg_ hnew_; clear hg_ hnew_; (first | rw [← Ny159.out] at ho4 | (simp only [Int.reduceToNat] at ho4; rw [← Ny159.out] at ho4)); have HO161 := Aside0.mk (Kd.R_lower ho4 (below_size (bz1 HB GE158))); replace BK158 := Aside0.mk (blk_below (g := gb158) (o := .cells #[.slice A0_0 l0_0.length c0_0, .slice A0_1 l0_1.length c0_1] 31 (0, 0)) (kz BK158) hb); replace HB := Aside0.mk (below_step (bz1 HB GE158) hb); clear hb ho4))
 go_loopg [3, 4] k (fun kq v3 v4 w' => ∃ (x3_1 : List Int) (x4_1 : Int), v4 = .int .i64 x4_1 ∧ Aside0 (spec_l6Widths.l0 kq x3_1 x4_1 l0_0 l0_1 = some r) ∧ Aside0 (kq ≤ k) ∧ Aside0 (Kd.R (Kd.int .i64) 3 w' w.heap.size (fun _ => True) v3 x3_1) ∧ Aside0 (w'.heap[gb158]? = some (.cells #[(.slice A0_0 l0_0.length c0_0), (.slice A0_1 l0_1.length c0_1)] 31 (0, 0))) ∧ Aside0 (Below w.heap.size w w'))
 case atStart => exact ⟨(y159), (0), rq, H', ⟨Nat.le_refl _⟩, ⟨ozR HO161⟩, ⟨kz BK158⟩, ⟨bz1 HB GE158⟩⟩
 case round =>
  clear H'
  try clear p2
  obtain ⟨x3_1, x4_1, rfl, HA, HK1, HO_3, BK158, HB⟩ := hrel
  cases gk with
  | zero => exact absurd HA.out (by simp [spec_l6Widths.l0])
  | succ k1 =>
   have H := HA.out
   clear HA
   simp only [spec_l6Widths.l0] at H
   by_cases c5 : x4_1 < (l0_0.length : Int)
   case neg =>
    rw [if_neg c5] at H
    have c5b0 : decide (x4_1 < (l0_0.length : Int)) = false := decide_eq_false c5
    clear c5
    obtain rfl := Option.some.inj H
    have hcz12_0 : wr.cell? ⟨gb158, 0, none⟩ = some (.slice A0_0 l0_0.length c0_0) := (blk_cell BK158.out 0).trans rfl
    have hcz12_1 : wr.cell? ⟨gb158, 1, none⟩ = some (.slice A0_1 l0_1.length c0_1) := (blk_cell BK158.out 1).trans rfl
    have hfz12_0 := blk_frozen BK158.out 0
    have hfz12_1 := blk_frozen BK158.out 1
    go_wp2
    go_ret
    exact ⟨_, rz, ozR HO_3, bz1 HB GE158⟩
   rw [if_pos c5] at H
   have c5b0 : decide (x4_1 < (l0_0.length : Int)) = true := decide_eq_true c5
   clear c5
   by_cases c6 : 0 ≤ x4_1
   case neg =>
    rw [if_neg c6] at H
    exact absurd H (by simp)
   rw [if_pos c6] at H
   have c6b0 : decide (0 ≤ x4_1) = true := decide_eq_true c6
   clear c6
   replace H := Option.bind_eq_some_iff.mp H
   obtain ⟨t164, A70, H⟩ := H
   have A7 := Aside0.mk A70
   clear A70
   by_cases c8 : x3_1.length < 17592186044416
   case neg =>
    rw [if_neg c8] at H
    exact absurd H (by simp)
   rw [if_pos c8] at H
   have LMc8 := Aside0.mk c8
   clear c8
   obtain ⟨y165, hy165⟩ : ∃ y_ : List Int, y_ = (x3_1 ++ [t164]) := ⟨_, rfl⟩
   replace H : (spec_l6Widths.l0 k1 y165 (wrap64 (x4_1 + 1)) l0_0 l0_1) = some r := by first | (rw [hy165]; with_reducible exact H) | (have H2_ := (Option.bind_some _ _).symm.trans H; rw [hy165]; with_reducible exact H2_) | (have H2_ := (Option.bind_some _ _).symm.trans H; with_reducible exact H2_) | with_reducible exact H | (rw [hy165]; exact H) | exact H
   have Ny165 := Aside0.mk hy165
   clear hy165
   have H' := Aside0.mk H
   clear H
   have hcz9_0 : wr.cell? ⟨gb158, 0, none⟩ = some (.slice A0_0 l0_0.length c0_0) := (blk_cell BK158.out 0).trans rfl
   have hcz9_1 : wr.cell? ⟨gb158, 1, none⟩ = some (.slice A0_1 l0_1.length c0_1) := (blk_cell BK158.out 1).trans rfl
   have hfz9_0 := blk_frozen BK158.out 0
   have hfz9_1 := blk_frozen BK158.out 1
   try go_wp2
   have n0_ := Aside0.mk (Kd.R_drew HO_3.out)
   have n1_ := Aside0.mk (blk_drew BK158.out)
   have n2_ := Aside0.mk (below_drew1 HB.out)
   clear HO_3
   clear BK158
   clear HB
   have HO_3 := n0_
   have BK158 := n1_
   have HB := n2_
   clear n0_ n1_ n2_
   have p162 : 0 ≤ (x4_1 : Int) := dz
   have q162 : x4_1 < (l0_0.length : Int) := dz
   obtain ⟨ad162, e162, hx162_0, hx162_1, hx162_2⟩ := at_IVar HR0_0.out x4_1 p162 q162
   have hw162_2 := hx162_2
   have hw162_1 := hx162_1
   have hw162_0 := hx162_0
   cases e162
   replace hx162_0 := xz HB hx162_0
   replace hx162_1 := xz HB hx162_1
   replace hx162_2 := xz HB hx162_2
   replace p162 := eq_true p162
   replace q162 := eq_true q162
   have p163 : 0 ≤ (x4_1 : Int) := dz
   have q163 : x4_1 < (l0_0.length : Int) := dz
   obtain ⟨ad163, e163, hx163_0, hx163_1, hx163_2⟩ := at_IVar HR0_0.out x4_1 p163 q163
   have hw163_2 := hx163_2
   have hw163_1 := hx163_1
   have hw163_0 := hx163_0
   obtain rfl : ad162 = ad163 := (by injection e163)
   replace hx163_0 := xz HB hx163_0
   replace hx163_1 := xz HB hx163_1
   replace hx163_2 := xz HB hx163_2
   replace p163 := eq_true p163
   replace q163 := eq_true q163
   refine start_ (n := 19) (S := fun w' => w'.cell? ⟨gb158, 0, none⟩ = some (.slice (some ad162) l0_0.length c0_0) ∧ w'.cell? ⟨gb158, 1, none⟩ = some (.slice A0_1 l0_1.length c0_1) ∧ w'.cell? (ad162.add ((x4_1).toNat * 3)) = some (.int .i64 ((rd_IVar l0_0 x4_1).f0)) ∧ w'.cell? ⟨(ad162.add ((x4_1).toNat * 3)).block, (ad162.add ((x4_1).toNat * 3)).off + 1, none⟩ = some (.int .i64 ((rd_IVar l0_0 x4_1).f1)) ∧ w'.cell? ⟨(ad162.add ((x4_1).toNat * 3)).block, (ad162.add ((x4_1).toNat * 3)).off + 2, none⟩ = some (.int .i64 ((rd_IVar l0_0 x4_1).f2)) ∧ w'.cell? (ad162.add ((x4_1).toNat * 3)) = some (.int .i64 ((rd_IVar l0_0 x4_1).f0)) ∧ w'.cell? ⟨(ad162.add ((x4_1).toNat * 3)).block, (ad162.add ((x4_1).toNat * 3)).off + 1, none⟩ = some (.int .i64 ((rd_IVar l0_0 x4_1).f1)) ∧ w'.cell? ⟨(ad162.add ((x4_1).toNat * 3)).block, (ad162.add ((x4_1).toNat * 3)).off + 2, none⟩ = some (.int .i64 ((rd_IVar l0_0 x4_1).f2))) (ds := []) #[false, false, false, false, false, false, false, false, false, false, false, false, false, false, false, false, false, false, false] (by kernel_rfl) rfl rfl ⟨(blk_cell BK158.out 0).trans rfl, (blk_cell BK158.out 1).trans rfl, ((HB.out.cell (World.block_lt_of_cell? w _ hw162_0)).trans hw162_0), ((HB.out.cell (World.block_lt_of_cell? w _ hw162_1)).trans hw162_1), ((HB.out.cell (World.block_lt_of_cell? w _ hw162_2)).trans hw162_2), ((HB.out.cell (World.block_lt_of_cell? w _ hw163_0)).trans hw163_0), ((HB.out.cell (World.block_lt_of_cell? w _ hw163_1)).trans hw163_1), ((HB.out.cell (World.block_lt_of_cell? w _ hw163_2)).trans hw163_2)⟩ (fun hHeld => ?_); refine with_tabW spec_l6Widths.tab5 spec_l6Widths.bits5 (fun HT_ HW_ => ?_)
   generalize wr.drew = w10 at HO_3 BK158 HB hx162_0 hx162_1 hx162_2 hx163_0 hx163_1 hx163_2 hHeld ⊢
   refine pure_ (i := 0) (N := some 13) (v := ?_) (a' := ?_) #[true, false, false, false, false, false, false, false, false, false, false, false, false, false, false, false, false, false, false] rfl rfl (any_of HT_.out (by kernel_rfl)) (fun _ _ _ h => h) (Or.inl ⟨by rfl, ?_⟩) ?_ ?_
   rotate_left
   ·
    intro w'
    go_simp
    with_reducible rfl
   rotate_left
   ·
    simp only [Act.put, sb_, sc0_, sc1_, i64_w, i32_w]
    rfl
   refine pure_ (i := 1) (N := some 14) (v := ?_) (a' := ?_) #[true, true, false, false, false, false, false, false, false, false, false, false, false, false, false, false, false, false, false] rfl rfl (any_of HT_.out (by kernel_rfl)) (fun _ _ _ h => h) (Or.inl ⟨by rfl, ?_⟩) ?_ ?_
   rotate_left
   ·
    intro w'
    go_simp
    with_reducible rfl
   rotate_left
   ·
    simp only [Act.put, sb_, sc0_, sc1_, i64_w, i32_w]
    rfl
   refine pure_ (i := 3) (N := some 16) (v := ?_) (a' := ?_) #[true, true, false, true, false, false, false, false, false, false, false, false, false, false, false, false, false, false, false] rfl rfl (any_of HT_.out (by kernel_rfl)) (fun _ _ _ h => h) (Or.inl ⟨by rfl, ?_⟩) ?_ ?_
   rotate_left
   ·
    intro w'
    go_simp
    with_reducible rfl
   rotate_left
   ·
    simp only [Act.put, sb_, sc0_, sc1_, i64_w, i32_w]
    rfl
   refine pure_ (i := 7) (N := some 20) (v := ?_) (a' := ?_) #[true, true, false, true, false, false, false, true, false, false, false, false, false, false, false, false, false, false, false] rfl rfl (any_of HT_.out (by kernel_rfl)) (fun _ _ _ h => h) (Or.inl ⟨by rfl, ?_⟩) ?_ ?_
   rotate_left
   ·
    intro w'
    go_simp
    with_reducible rfl
   rotate_left
   ·
    simp only [Act.put, sb_, sc0_, sc1_, i64_w, i32_w]
    rfl
   refine pure_ (i := 9) (N := some 22) (v := ?_) (a' := ?_) #[true, true, false, true, false, false, false, true, false, true, false, false, false, false, false, false, false, false, false] rfl rfl (any_of HT_.out (by kernel_rfl)) (fun _ _ _ h => h) (Or.inl ⟨by rfl, ?_⟩) ?_ ?_
   rotate_left
   ·
    intro w'
    go_simp
    with_reducible rfl
   rotate_left
   ·
    simp only [Act.put, sb_, sc0_, sc1_, i64_w, i32_w]
    rfl
   refine take_ (i := 2) (N := some 15) (v := ?_) (a' := ?_) #[true, true, true, true, false, false, false, true, false, true, false, false, false, false, false, false, false, false, false] rfl rfl (take_ofW HT_.out HW_.out (by kernel_rfl)) (fun _ _ _ h => h) (Or.inl ⟨by rfl, ?_⟩) hHeld ?_ ?_
   rotate_left
   ·
    rintro w' ⟨s0, s1, s2, s3, s4, s5, s6, s7⟩
    go_simp
    with_reducible rfl
   rotate_left
   ·
    simp only [Act.put, sb_, sc0_, sc1_, i64_w, i32_w]
    rfl
   refine pure_ (i := 4) (N := some 17) (v := ?_) (a' := ?_) #[true, true, true, true, true, false, false, true, false, true, false, false, false, false, false, false, false, false, false] rfl rfl (any_of HT_.out (by kernel_rfl)) (fun _ _ _ h => h) (Or.inl ⟨by rfl, ?_⟩) ?_ ?_
   rotate_left
   ·
    intro w'
    go_simp
    with_reducible rfl
   rotate_left
   ·
    simp only [Act.put, sb_, sc0_, sc1_, i64_w, i32_w]
    rfl
   refine pure_ (i := 5) (N := some 18) (v := ?_) (a' := ?_) #[true, true, true, true, true, true, false, true, false, true, false, false, false, false, false, false, false, false, false] rfl rfl (any_of HT_.out (by kernel_rfl)) (fun _ _ _ h => h) (Or.inl ⟨by rfl, ?_⟩) ?_ ?_
   rotate_left
   ·
    intro w'
    go_simp
    with_reducible rfl
   rotate_left
   ·
    simp only [Act.put, sb_, sc0_, sc1_, i64_w, i32_w]
    rfl
   refine take_ (i := 6) (N := some 19) (v := ?_) (a' := ?_) #[true, true, true, true, true, true, true, true, false, true, false, false, false, false, false, false, false, false, false] rfl rfl (take_ofW HT_.out HW_.out (by kernel_rfl)) (fun _ _ _ h => h) (Or.inl ⟨by rfl, ?_⟩) hHeld ?_ ?_
   rotate_left
   ·
    rintro w' ⟨s0, s1, s2, s3, s4, s5, s6, s7⟩
    go_simp
    with_reducible rfl
   rotate_left
   ·
    simp only [Act.put, sb_, sc0_, sc1_, i64_w, i32_w]
    rfl
   refine take_ (i := 8) (N := some 21) (v := ?_) (a' := ?_) #[true, true, true, true, true, true, true, true, true, true, false, false, false, false, false, false, false, false, false] rfl rfl (take_ofW HT_.out HW_.out (by kernel_rfl)) (fun _ _ _ h => h) (Or.inl ⟨by rfl, ?_⟩) hHeld ?_ ?_
   rotate_left
   ·
    rintro w' ⟨s0, s1, s2, s3, s4, s5, s6, s7⟩
    go_simp
    with_reducible rfl
   rotate_left
   ·
    simp only [Act.put, sb_, sc0_, sc1_, i64_w, i32_w]
    rfl
   refine pure_ (i := 10) (N := some 23) (v := ?_) (a' := ?_) #[true, true, true, true, true, true, true, true, true, true, true, false, false, false, false, false, false, false, false] rfl rfl (any_of HT_.out (by kernel_rfl)) (fun _ _ _ h => h) (Or.inl ⟨by rfl, ?_⟩) ?_ ?_
   rotate_left
   ·
    intro w'
    go_simp
    with_reducible rfl
   rotate_left
   ·
    simp only [Act.put, sb_, sc0_, sc1_, i64_w, i32_w]
    rfl
   refine pure_ (i := 11) (N := some 24) (v := ?_) (a' := ?_) #[true, true, true, true, true, true, true, true, true, true, true, true, false, false, false, false, false, false, false] rfl rfl (any_of HT_.out (by kernel_rfl)) (fun _ _ _ h => h) (Or.inl ⟨by rfl, ?_⟩) ?_ ?_
   rotate_left
   ·
    intro w'
    go_simp
    with_reducible rfl
   rotate_left
   ·
    simp only [Act.put, sb_, sc0_, sc1_, i64_w, i32_w]
    rfl
   refine take_ (i := 12) (N := some 25) (v := ?_) (a' := ?_) #[true, true, true, true, true, true, true, true, true, true, true, true, true, false, false, false, false, false, false] rfl rfl (take_ofW HT_.out HW_.out (by kernel_rfl)) (fun _ _ _ h => h) (Or.inl ⟨by rfl, ?_⟩) hHeld ?_ ?_
   rotate_left
   ·
    rintro w' ⟨s0, s1, s2, s3, s4, s5, s6, s7⟩
    go_simp
    with_reducible rfl
   rotate_left
   ·
    simp only [Act.put, sb_, sc0_, sc1_, i64_w, i32_w]
    rfl
   refine pure_ (i := 13) (N := some 26) (v := ?_) (a' := ?_) #[true, true, true, true, true, true, true, true, true, true, true, true, true, true, false, false, false, false, false] rfl rfl (any_of HT_.out (by kernel_rfl)) (fun _ _ _ h => h) (Or.inl ⟨by rfl, ?_⟩) ?_ ?_
   rotate_left
   ·
    intro w'
    go_simp
    with_reducible rfl
   rotate_left
   ·
    simp only [Act.put, sb_, sc0_, sc1_, i64_w, i32_w]
    rfl
   refine pure_ (i := 14) (N := some 27) (v := ?_) (a' := ?_) #[true, true, true, true, true, true, true, true, true, true, true, true, true, true, true, false, false, false, false] rfl rfl (any_of HT_.out (by kernel_rfl)) (fun _ _ _ h => h) (Or.inl ⟨by rfl, ?_⟩) ?_ ?_
   rotate_left
   ·
    intro w'
    go_simp
    with_reducible rfl
   rotate_left
   ·
    simp only [Act.put, sb_, sc0_, sc1_, i64_w, i32_w]
    rfl
   refine one_ (i := 15) (N := some 28) #[true, true, true, true, true, true, true, true, true, true, true, true, true, true, true, true, false, false, false] rfl rfl (one_of HT_.out (by kernel_rfl)) (by decide) (fun K hK => ?_)
   refine goes_ Try.func88 (by kernel_rfl) rfl #[.int .i64 (wrap64 ((wrap64 (((rd_IVar l0_0 x4_1).f1) - ((rd_IVar l0_0 x4_1).f0))) + 1))] (by rfl) rfl rfl az ?_
   with_reducible refine (spec_l6Many.calls k1 (wrap64 ((wrap64 (((rd_IVar l0_0 x4_1).f1) - ((rd_IVar l0_0 x4_1).f0))) + 1)) t164 _ A7.out).mono ?_
   rintro e w' ⟨rfl, ⟨nd, rfl⟩⟩
   refine ⟨_, rfl, ?_⟩
   refine hK.out _ _ ⟨(blk_cell BK158.out 0).trans rfl, (blk_cell BK158.out 1).trans rfl, ((HB.out.cell (World.block_lt_of_cell? w _ hw162_0)).trans hw162_0), ((HB.out.cell (World.block_lt_of_cell? w _ hw162_1)).trans hw162_1), ((HB.out.cell (World.block_lt_of_cell? w _ hw162_2)).trans hw162_2), ((HB.out.cell (World.block_lt_of_cell? w _ hw163_0)).trans hw163_0), ((HB.out.cell (World.block_lt_of_cell? w _ hw163_1)).trans hw163_1), ((HB.out.cell (World.block_lt_of_cell? w _ hw163_2)).trans hw163_2)⟩ (fun hHeld => ?_)
   clear hK K
   refine norm_ (a' := ?_) ?_ ?_
   rotate_left
   ·
    show Act.put _ (some 28) _ = _
    simp only [Act.put, sb_, sc0_, sc1_, i64_w, i32_w]
    rfl
   refine one_ (i := 16) (N := some 29) #[true, true, true, true, true, true, true, true, true, true, true, true, true, true, true, true, true, false, false] rfl rfl (one_of HT_.out (by kernel_rfl)) (by decide) (fun K hK => ?_)
   refine value_ (w1 := ?_) (v := ?_) (by rfl) rfl ?_ ?_
   rotate_left 2
   ·
    go_simp
    constructor
    ·
     rfl
    ·
     rfl
   refine hK.out _ _ ⟨(blk_cell (blk_alloc BK158.out _) 0).trans rfl, (blk_cell (blk_alloc BK158.out _) 1).trans rfl, (World.cell?_alloc_lt _ _ _ (World.block_lt_of_cell? _ _ (((HB.out.cell (World.block_lt_of_cell? w _ hw162_0)).trans hw162_0)))).trans (((HB.out.cell (World.block_lt_of_cell? w _ hw162_0)).trans hw162_0)), (World.cell?_alloc_lt _ _ _ (World.block_lt_of_cell? _ _ (((HB.out.cell (World.block_lt_of_cell? w _ hw162_1)).trans hw162_1)))).trans (((HB.out.cell (World.block_lt_of_cell? w _ hw162_1)).trans hw162_1)), (World.cell?_alloc_lt _ _ _ (World.block_lt_of_cell? _ _ (((HB.out.cell (World.block_lt_of_cell? w _ hw162_2)).trans hw162_2)))).trans (((HB.out.cell (World.block_lt_of_cell? w _ hw162_2)).trans hw162_2)), (World.cell?_alloc_lt _ _ _ (World.block_lt_of_cell? _ _ (((HB.out.cell (World.block_lt_of_cell? w _ hw163_0)).trans hw163_0)))).trans (((HB.out.cell (World.block_lt_of_cell? w _ hw163_0)).trans hw163_0)), (World.cell?_alloc_lt _ _ _ (World.block_lt_of_cell? _ _ (((HB.out.cell (World.block_lt_of_cell? w _ hw163_1)).trans hw163_1)))).trans (((HB.out.cell (World.block_lt_of_cell? w _ hw163_1)).trans hw163_1)), (World.cell?_alloc_lt _ _ _ (World.block_lt_of_cell? _ _ (((HB.out.cell (World.block_lt_of_cell? w _ hw163_2)).trans hw163_2)))).trans (((HB.out.cell (World.block_lt_of_cell? w _ hw163_2)).trans hw163_2))⟩ (fun hHeld => ?_)
   clear hK K
   refine norm_ (a' := ?_) ?_ ?_
   rotate_left
   ·
    show Act.put _ (some 29) _ = _
    simp only [Act.put, sb_, sc0_, sc1_, i64_w, i32_w]
    rfl
   refine one_ (i := 17) (N := some 30) #[true, true, true, true, true, true, true, true, true, true, true, true, true, true, true, true, true, true, false] rfl rfl (one_of HT_.out (by kernel_rfl)) (by decide) (fun K hK => ?_)
   refine Kd.R_append_step (Kd.int .i64) (w0 := w) w.heap.size (by rfl) (.tmp 13) (.tmp 29) 35 3 (.int .i64 0) 8 rfl Try.underlying35 info3 rfl (by decide) (by omega) u3 x3_1 t164 [.int .i64 t164] (fun _ => True) (fun _ => False) rfl rfl ?aP (fun _ hk => hk.elim) ?aF ?aO ?aB ?aS ?aL ?_
   (case aP => exact rfl)
   (case aB => exact (bz1 HB GE158))
   (case aF => exact (fun _ _ => trivial))
   (case aO => exact (ozR HO_3))
   (case aS => exact (below_size (bz1 HB GE158)))
   (case aL => have := LMc8.out; omega)
   intro v166 w11 ho hb hg hat
   rw [← Ny165.out] at ho
   have n0_ := Aside0.mk (blk_grown (g := gb158) (o := .cells #[.slice (some ad162) l0_0.length c0_0, .slice A0_1 l0_1.length c0_1] 31 (0, 0)) (kz BK158) hg (Kd.R_ne HO_3.out BK158.out (by decide)))
   have n1_ := Aside0.mk (hb)
   have n2_ := Aside0.mk (ho)
   clear BK158
   clear HB
   clear HO_3
   have BK158 := n0_
   have HB := n1_
   have HO167 := n2_
   clear n0_ n1_ n2_
   clear ho hb hg hat
   refine hK.out _ _ ⟨(blk_cell BK158.out 0).trans rfl, (blk_cell BK158.out 1).trans rfl, ((HB.out.cell (World.block_lt_of_cell? w _ hw162_0)).trans hw162_0), ((HB.out.cell (World.block_lt_of_cell? w _ hw162_1)).trans hw162_1), ((HB.out.cell (World.block_lt_of_cell? w _ hw162_2)).trans hw162_2), ((HB.out.cell (World.block_lt_of_cell? w _ hw163_0)).trans hw163_0), ((HB.out.cell (World.block_lt_of_cell? w _ hw163_1)).trans hw163_1), ((HB.out.cell (World.block_lt_of_cell? w _ hw163_2)).trans hw163_2)⟩ (fun hHeld => ?_)
   clear hK K
   refine norm_ (a' := ?_) ?_ ?_
   rotate_left
   ·
    show Act.put _ (some 30) _ = _
    simp only [Act.put, sb_, sc0_, sc1_, i64_w, i32_w]
    rfl
   refine pure_ (i := 18) (N := some 3) (v := ?_) (a' := ?_) #[true, true, true, true, true, true, true, true, true, true, true, true, true, true, true, true, true, true, true] rfl rfl (any_of HT_.out (by kernel_rfl)) (fun _ _ _ h => h) (Or.inl ⟨by rfl, ?_⟩) ?_ ?_
   rotate_left
   ·
    intro w'
    go_simp
    with_reducible rfl
   rotate_left
   ·
    simp only [Act.put, sb_, sc0_, sc1_, i64_w, i32_w]
    rfl
   refine done_ (done_of HT_.out (by kernel_rfl)) ?_
   try go_wp2
   go_roundg k1
   case measure => have := HK1.out; omega
   case rel => exact ⟨(y165), (wrap64 (x4_1 + 1)), rq, H', ⟨by have := HK1.out; omega⟩, ⟨ozR HO167⟩, ⟨kz BK158⟩, ⟨bz1 HB GE158⟩⟩
end Go.Proofs.Ytoofhjflfpccdaa.PA
end
section
namespace Go.Proofs.Ytoofhjflfpccdaa.PA
open Go.RowKit Go.Proofs.YtoofhjflfpccdaaW.PrintWords Go.Proofs.YtoofhjflfpccdaaW.PrintLast Go.Proofs.YtoofhjflfpccdaaW.PrintMore
attribute [local go_sem] max2_int min2_int max_two min_two max_three min_three max_four min_four   -- for this text's walks alone
set_option linter.unusedVariables false
set_option linter.unusedSimpArgs false
set_option maxHeartbeats 8000000 in
set_option maxRecDepth 100000 in
theorem spec_l6Value.calls (k : Nat) (a0 : Int) (a1 : Int) (r : List Int) (w : World) (h : spec_l6Value.f k a0 a1 = some r) :
  Calls Try.prog 106 #[.int .i64 a0, .int .i64 a1] w fun e w' => ∃ v0_ : Value, e = .returned (v0_) ∧ Kd.R (Kd.int .i64) 3 w' w.heap.size (fun _ => True) v0_ r ∧ Below w.heap.size w w' := by
 have HB := Aside0.mk (Below.refl w.heap.size w)
 have H : (spec_l6Value.l0 k a0 (([] : List Int)) (wrap64 (a1 - 1))) = some r := h
 clear h
 obtain ⟨y612, hy612⟩ : ∃ y_ : List Int, y_ = (([] : List Int)) := ⟨_, rfl⟩
 replace H : (spec_l6Value.l0 k a0 y612 (wrap64 (a1 - 1))) = some r := by first | (rw [hy612]; with_reducible exact H) | (have H2_ := (Option.bind_some _ _).symm.trans H; rw [hy612]; with_reducible exact H2_) | (have H2_ := (Option.bind_some _ _).symm.trans H; with_reducible exact H2_) | with_reducible exact H | (rw [hy612]; exact H) | exact H
 have Ny612 := Aside0.mk hy612
 clear hy612
 have H' := Aside0.mk H
 clear H
 go_enter Try.func106, Try.ntmps106
 go_wp2_with (first | ((with_reducible refine gate_dst (N := 7) rfl ?_); refine Kd.R_lit (Kd.int .i64) _ 3 ?hg (N := 7) ?hd (xs := ([] : List Int)) (inner := []) (ok := fun _ => True) (okp := fun _ => True) ?hr ?hp (fun _ hk => hk) trivial (Below.refl _ _) (Nat.le_refl _) (by simp) ?_; (case hd => rfl); (case hg => rfl); (case hr => first | (go_simp; done) | (go_simp; rfl)); (case hp => exact (Reps.none _ _)); intro v613 w3 ho4 hb hg_ hnew_; clear hg_ hnew_; (first | rw [← Ny612.out] at ho4 | (simp only [Int.reduceToNat] at ho4; rw [← Ny612.out] at ho4)); have HO614 := Aside0.mk (Kd.R_lower ho4 (below_size (bz HB))); replace HB := Aside0.mk (below_step (bz HB) hb); clear hb ho4))
 go_loopg [5, 6] k (fun kq v5 v6 w' => ∃ (x5_1 : List Int) (x6_1 : Int), v6 = .int .i64 x6_1 ∧ Aside0 (spec_l6Value.l0 kq a0 x5_1 x6_1 = some r) ∧ Aside0 (kq ≤ k) ∧ Aside0 (Kd.R (Kd.int .i64) 3 w' w.heap.size (fun _ => True) v5 x5_1) ∧ Aside0 (Below w.heap.size w w'))
 case atStart => exact ⟨(y612), (wrap64 (a1 - 1)), rq, H', ⟨Nat.le_refl _⟩, ⟨ozR HO614⟩, ⟨bz HB⟩⟩
 case round =>
  clear H'
  try clear c1
  try clear p2
  obtain ⟨x5_1, x6_1, rfl, HA, HK1, HO_5, HB⟩ := hrel
  cases gk with
  | zero => exact absurd HA.out (by simp [spec_l6Value.l0])
  | succ k1 =>
   have H := HA.out
   clear HA
   simp only [spec_l6Value.l0] at H
   by_cases c5 : x6_1 ≥ 0
   case neg =>
    rw [if_neg c5] at H
    have c5b0 : decide (0 ≤ x6_1) = false := decide_eq_false c5
    clear c5
    obtain rfl := Option.some.inj H
    go_wp2
    go_ret
    exact ⟨_, rz, ozR HO_5, bz HB⟩
   rw [if_pos c5] at H
   have c5b0 : decide (0 ≤ x6_1) = true := decide_eq_true c5
   clear c5
   by_cases c6 : 0 ≤ x6_1
   case neg =>
    rw [if_neg c6] at H
    exact absurd H (by simp)
   rw [if_pos c6] at H
   have c6b0 := eq_true c6
   have c6b1 : decide (0 ≤ x6_1) = true := decide_eq_true c6
   clear c6
   obtain ⟨ji7, hji7⟩ : ∃ j_ : Int, (shr .i64 a0 x6_1) = j_ := ⟨_, rfl⟩
   replace H : (if x5_1.length < 17592186044416 then (spec_l6Value.l0 k1 a0 (x5_1 ++ [Int.tmod (ji7) 2]) (wrap64 (x6_1 - 1))) else (none)) = some r := by first | (rw [hji7] at H; exact H) | (simp only [hji7] at H ⊢; exact H)
   have hji7_ : (a0 / 2 ^ min x6_1.toNat 64) = ji7 := hji7
   have hji7z : x6_1 ≤ 64 → (a0 / 2 ^ x6_1.toNat) = ji7 := shr_small hji7
   by_cases c8 : x5_1.length < 17592186044416
   case neg =>
    rw [if_neg c8] at H
    exact absurd H (by simp)
   rw [if_pos c8] at H
   have LMc8 := Aside0.mk c8
   clear c8
   obtain ⟨y615, hy615⟩ : ∃ y_ : List Int, y_ = (x5_1 ++ [Int.tmod (ji7) 2]) := ⟨_, rfl⟩
   replace H : (spec_l6Value.l0 k1 a0 y615 (wrap64 (x6_1 - 1))) = some r := by first | (rw [hy615]; with_reducible exact H) | (have H2_ := (Option.bind_some _ _).symm.trans H; rw [hy615]; with_reducible exact H2_) | (have H2_ := (Option.bind_some _ _).symm.trans H; with_reducible exact H2_) | with_reducible exact H | (rw [hy615]; exact H) | exact H
   have Ny615 := Aside0.mk hy615
   clear hy615
   have H' := Aside0.mk H
   clear H
   go_wp2_with (first | ((with_reducible refine gate_builtin (b := .append) (xs := #[.tmp 14, .tmp 19]) rfl ?_); at_builtin; refine Kd.R_append (Kd.int .i64) (w0 := w) w.heap.size rfl (.tmp 14) (.tmp 19) 35 3 (.int .i64 0) 8 rfl Try.underlying35 info3 rfl (by decide) (by omega) u5 x5_1 (Int.tmod (ji7) 2) [.int .i64 (Int.tmod (ji7) 2)] (fun _ => True) (fun _ => False) rfl rfl ?aP (fun _ hk => hk.elim) ?aF ?aO ?aB ?aS ?aL ?_; (case aP => exact rfl); (case aB => exact (bz HB)); (case aF => exact (fun _ _ => trivial)); (case aO => exact (ozR HO_5)); (case aS => exact (below_size (bz HB))); (case aL => have := LMc8.out; omega); intro v616 w9 ho hb hg hat; rw [← Ny615.out] at ho; replace HB := Aside0.mk (hb); have HO617 := Aside0.mk (ho); clear HO_5; clear ho hb hg hat))
   go_roundg k1
   case measure => have := HK1.out; omega
   case rel => exact ⟨(y615), (wrap64 (x6_1 - 1)), rq, H', ⟨by have := HK1.out; omega⟩, ⟨ozR HO617⟩, ⟨bz HB⟩⟩
end Go.Proofs.Ytoofhjflfpccdaa.PA
end
section
namespace Go.Proofs.Ytoofhjflfpccdaa.PA
open Go.RowKit Go.Proofs.YtoofhjflfpccdaaW.PrintWords Go.Proofs.YtoofhjflfpccdaaW.PrintLast Go.Proofs.YtoofhjflfpccdaaW.PrintMore
attribute [local go_sem] max2_int min2_int max_two min_two max_three min_three max_four min_four   -- for this text's walks alone
set_option linter.unusedVariables false
set_option linter.unusedSimpArgs false
def spec_l6State.T6 : Bool × List (List Nat × List Nat) := (true, [([], []), ([], []), ([0, 1], [0, 1]), ([2], [2]), ([], []), ([4], [4]), ([], []), ([5, 6], [5, 6]), ([7], [7]), ([8], [8]), ([3, 9], [3, 9]), ([], []), ([], []), ([11, 12], [11, 12]), ([13], [13]), ([10, 14], [10, 14]), ([15, 15, 0, 1, 2, 3, 4, 5, 6, 7, 8, 9, 10, 11, 12, 13, 14, 15], [15])])
def spec_l6State.B6 : List Nat := [0, 0, 3, 7, 0, 16, 0, 112, 240, 496, 1023, 0, 0, 6144, 14336, 32767, 65535]
theorem spec_l6State.tab6 : rtab .any (opsOf Try.f73 6) = spec_l6State.T6 := by kernel_rfl
theorem spec_l6State.bits6 : waitsOk spec_l6State.T6.2 spec_l6State.B6 = true := by kernel_rfl
set_option maxHeartbeats 8000000 in
set_option maxRecDepth 100000 in
theorem spec_l6State.calls (k : Nat) (A0_0 : Option Addr) (c0_0 : Nat) (l0_0 : List (IVar)) (A0_1 : Option Addr) (c0_1 : Nat) (l0_1 : List (IRule)) (A1 : Option Addr) (c1 : Nat) (l1 : List Int) (r : List Int) (w : World) (hr0_0 : Kd.C k62 w A0_0 l0_0.length l0_0) (hc0_0 : l0_0.length ≤ c0_0) (hr0_1 : Kd.C k81 w A0_1 l0_1.length l0_1) (hc0_1 : l0_1.length ≤ c0_1) (hr1 : Kd.C (Kd.int .i64) w A1 l1.length l1) (hc1 : l1.length ≤ c1) (h : spec_l6State.f k l0_0 l0_1 l1 = some r) :
  Calls Try.prog 73 #[.agg #[.slice A0_0 l0_0.length c0_0, .slice A0_1 l0_1.length c0_1], .slice A1 l1.length c1] w fun e w' => ∃ v0_ : Value, e = .returned (v0_) ∧ Kd.R (Kd.int .i64) 3 w' w.heap.size (fun _ => True) v0_ r ∧ Below w.heap.size w w' := by
 have hu31 := Try.underlying31
 have HR0_0 := Aside0.mk hr0_0
 have HC0_0 := Aside0.mk hc0_0
 clear hr0_0 hc0_0
 have HR0_1 := Aside0.mk hr0_1
 have HC0_1 := Aside0.mk hc0_1
 clear hr0_1 hc0_1
 have HR1 := Aside0.mk hr1
 have HC1 := Aside0.mk hc1
 clear hr1 hc1
 have HB := Aside0.mk (Below.refl w.heap.size w)
 have H : ((spec_l6Widths.f k l0_0 l0_1).bind fun t622 => (spec_l6State.l0 k l1 (([] : List Int)) t622 0 l0_0 l0_1)) = some r := h
 clear h
 obtain ⟨y619, hy619⟩ : ∃ y_ : List Int, y_ = (([] : List Int)) := ⟨_, rfl⟩
 replace H : ((spec_l6Widths.f k l0_0 l0_1).bind fun t622 => (spec_l6State.l0 k l1 y619 t622 0 l0_0 l0_1)) = some r := by first | (rw [hy619]; with_reducible exact H) | (have H2_ := (Option.bind_some _ _).symm.trans H; rw [hy619]; with_reducible exact H2_) | (have H2_ := (Option.bind_some _ _).symm.trans H; with_reducible exact H2_) | with_reducible exact H | (rw [hy619]; exact H) | exact H
 have Ny619 := Aside0.mk hy619
 clear hy619
 replace H := Option.bind_eq_some_iff.mp H
 obtain ⟨t622, A30, H⟩ := H
 have A3 := Aside0.mk A30
 clear A30
 have H' := Aside0.mk H
 clear H
 go_enter Try.func73, Try.ntmps73
 go_wp2_with (first | ((with_reducible refine gate_dst (N := 2) rfl ?_); refine box_event ?hg (N := 2) ?hd (cs := #[.slice A0_0 l0_0.length c0_0, .slice A0_1 l0_1.length c0_1]) (t := 31) ?hr ?_; (case hd => rfl); (case hg => rfl); (case hr => first | (go_simp; done) | (go_simp; rfl)); intro gb618 hg w4 hbox hb; have n0_ := Aside0.mk (below_step (bz HB) hb); have n1_ := Aside0.mk (hbox); have n2_ := Aside0.mk ((by rw [hg]; exact (below_size (bz HB)) : w.heap.size ≤ gb618)); have n3_ := Aside0.mk ((by rw [hg]; exact (below_size (bz HB)) : w.heap.size ≤ gb618)); clear HB; have HB := n0_; have BK618 := n1_; have GW618 := n2_; have GE618 := n3_; clear n0_ n1_ n2_ n3_; clear hb hbox hg) | ((with_reducible refine gate_dst (N := 10) rfl ?_); refine Kd.R_lit (Kd.int .i64) _ 3 ?hg (N := 10) ?hd (xs := ([] : List Int)) (inner := []) (ok := fun _ => True) (okp := fun _ => True) ?hr ?hp (fun _ hk => hk) trivial (Below.refl _ _) (Nat.le_refl _) (by simp) ?_; (case hd => rfl); (case hg => rfl); (case hr => first | (go_simp; done) | (go_simp; rfl)); (case hp => exact (Reps.none _ _)); intro v620 w5 ho6 hb hg_ hnew_; clear hg_ hnew_; (first | rw [← Ny619.out] at ho6 | (simp only [Int.reduceToNat] at ho6; rw [← Ny619.out] at ho6)); have HO621 := Aside0.mk (Kd.R_lower ho6 (below_size (bz1 HB GE618))); replace BK618 := Aside0.mk (blk_below (g := gb618) (o := .cells #[.slice A0_0 l0_0.length c0_0, .slice A0_1 l0_1.length c0_1] 31 (0, 0)) (kz BK618) hb); replace HB := Aside0.mk (below_step (bz1 HB GE618) hb); clear hb ho6; have hcz7_0 : w5.cell? ⟨gb618, 0, none⟩ = some (.slice A0_0 l0_0.length c0_0) := (blk_cell BK618.out 0).trans rfl; have hcz7_1 : w5.cell? ⟨gb618, 1, none⟩ = some (.slice A0_1 l0_1.length c0_1) := (blk_cell BK618.out 1).trans rfl; have hfz7_0 := blk_frozen BK618.out 0; have hfz7_1 := blk_frozen BK618.out 1) | ((with_reducible refine gate_callee (f := 51) rfl ?_); refine goesL_ (some 12) rfl rfl Try.func51 (by kernel_rfl) rfl #[.agg #[.slice A0_0 l0_0.length c0_0, .slice A0_1 l0_1.length c0_1]] rfl az ?_; (with_reducible refine (spec_l6Widths.calls k _ _ l0_0 _ _ l0_1 t622 _ ?side1 HC0_0.out ?side3 HC0_1.out A3.out).mono ?_); (case side1 => exact cz HR0_0 HB); (case side3 => exact cz HR0_1 HB); rintro e w8 ⟨v623, rfl, ho0, hb⟩; refine ⟨_, rfl, ?_⟩; have n0_ := Aside0.mk (Kd.R_elder' (ozR HO621) (Kd.R_base ho0) hb); have n1_ := Aside0.mk (Kd.R_lower (Kd.R_new' ho0 (Kd.R_lt (ozR HO621))) (below_size (bz1 HB GE618))); have n2_ := Aside0.mk (blk_below (g := gb618) (o := .cells #[.slice A0_0 l0_0.length c0_0, .slice A0_1 l0_1.length c0_1] 31 (0, 0)) (kz BK618) hb); have n3_ := Aside0.mk (below_step (bz1 HB GE618) hb); clear HO621; clear BK618; clear HB; have HO621 := n0_; have HO624 := n1_; have BK618 := n2_; have HB := n3_; clear n0_ n1_ n2_ n3_; clear hb; (try clear ho0)))
 go_loopg [5, 7] k (fun kq v5 v7 w' => ∃ (x5_1 : List Int) (x7_1 : Int), v7 = .int .i64 x7_1 ∧ Aside0 (spec_l6State.l0 kq l1 x5_1 t622 x7_1 l0_0 l0_1 = some r) ∧ Aside0 (kq ≤ k) ∧ Aside0 (Kd.R (Kd.int .i64) 3 w' w.heap.size (fun k_ => some k_ ≠ (v623 : Value).ownBlock) v5 x5_1) ∧ Aside0 (Kd.R (Kd.int .i64) 3 w' w.heap.size (fun k_ => some k_ ≠ (v5 : Value).ownBlock) v623 t622) ∧ Aside0 (w'.heap[gb618]? = some (.cells #[(.slice A0_0 l0_0.length c0_0), (.slice A0_1 l0_1.length c0_1)] 31 (0, 0))) ∧ Aside0 (Below w.heap.size w w'))
 case atStart => exact ⟨(y619), (0), rq, H', ⟨Nat.le_refl _⟩, ⟨by (with_reducible repeat (first | apply Kd.R_alloc | apply Kd.R_drewN | apply Kd.R_drew)); exact Kd.R_mono HO621.out (fun _ hk => hk.2)⟩, ⟨by (with_reducible repeat (first | apply Kd.R_alloc | apply Kd.R_drewN | apply Kd.R_drew)); exact Kd.R_mono HO624.out (fun _ hk => hk.2)⟩, ⟨kz BK618⟩, ⟨bz1 HB GE618⟩⟩
 case round =>
  clear H'
  try clear c1
  try clear p2
  try clear c5
  try clear c7
  try clear hcz7_0
  try clear hcz7_1
  try clear hfz7_0
  try clear hfz7_1
  obtain ⟨x5_1, x7_1, rfl, HA, HK1, HO_5, HO_6, BK618, HB⟩ := hrel
  cases gk with
  | zero => exact absurd HA.out (by simp [spec_l6State.l0])
  | succ k1 =>
   have H := HA.out
   clear HA
   simp only [spec_l6State.l0] at H
   by_cases c9 : x7_1 < (l1.length : Int)
   case neg =>
    rw [if_neg c9] at H
    have c9b0 : decide (x7_1 < (l1.length : Int)) = false := decide_eq_false c9
    clear c9
    obtain rfl := Option.some.inj H
    go_wp2
    go_ret
    exact ⟨_, rz, by (with_reducible repeat (first | apply Kd.R_alloc | apply Kd.R_drewN | apply Kd.R_drew)); exact Kd.R_mono HO_5.out (fun _ hk => trivial), bz1 HB GE618⟩
   rw [if_pos c9] at H
   have c9b0 : decide (x7_1 < (l1.length : Int)) = true := decide_eq_true c9
   clear c9
   by_cases c10 : 0 ≤ x7_1
   case neg =>
    rw [if_neg c10] at H
    exact absurd H (by simp)
   rw [if_pos c10] at H
   have c10b0 : decide (0 ≤ x7_1) = true := decide_eq_true c10
   clear c10
   by_cases c11 : x7_1 < (l0_0.length : Int)
   case neg =>
    rw [if_neg c11] at H
    exact absurd H (by simp)
   rw [if_pos c11] at H
   have c11b0 : decide (x7_1 < (l0_0.length : Int)) = true := decide_eq_true c11
   clear c11
   by_cases c12 : x7_1 < (t622.length : Int)
   case neg =>
    rw [if_neg c12] at H
    exact absurd H (by simp)
   rw [if_pos c12] at H
   have c12b0 : decide (x7_1 < (t622.length : Int)) = true := decide_eq_true c12
   clear c12
   replace H := Option.bind_eq_some_iff.mp H
   obtain ⟨t628, A130, H⟩ := H
   have A13 := Aside0.mk A130
   clear A130
   have H' := Aside0.mk H
   clear H
   try go_wp2
   have n0_ := Aside0.mk (Kd.R_drew HO_5.out)
   have n1_ := Aside0.mk (Kd.R_drew HO_6.out)
   have n2_ := Aside0.mk (blk_drew BK618.out)
   have n3_ := Aside0.mk (below_drew1 HB.out)
   clear HO_5
   clear HO_6
   clear BK618
   clear HB
   have HO_5 := n0_
   have HO_6 := n1_
   have BK618 := n2_
   have HB := n3_
   clear n0_ n1_ n2_ n3_
   have p625 : 0 ≤ (x7_1 : Int) := dz
   have q625 : x7_1 < (l1.length : Int) := dz
   obtain ⟨ad625, e625, hx625_0⟩ := Kd.at_int HR1.out x7_1 p625 q625
   have hw625_0 := hx625_0
   cases e625
   replace hx625_0 := xz HB hx625_0
   replace p625 := eq_true p625
   replace q625 := eq_true q625
   have p626 : 0 ≤ (x7_1 : Int) := dz
   have q626 : x7_1 < (l0_0.length : Int) := dz
   obtain ⟨ad626, e626, hx626_0, hx626_1, hx626_2⟩ := at_IVar HR0_0.out x7_1 p626 q626
   have hw626_2 := hx626_2
   have hw626_1 := hx626_1
   have hw626_0 := hx626_0
   cases e626
   replace hx626_0 := xz HB hx626_0
   replace hx626_1 := xz HB hx626_1
   replace hx626_2 := xz HB hx626_2
   replace p626 := eq_true p626
   replace q626 := eq_true q626
   obtain ⟨Ao15, co15, eo15⟩ := Kd.R_slice HO_6.out
   (first | subst eo15 | (injection eo15 with f1_ f2_ f3_; have f4_ := f1_.symm; have f5_ := f3_.symm; clear f1_ f2_ f3_; subst f4_; subst f5_))
   have p627 : 0 ≤ (x7_1 : Int) := dz
   have q627 : x7_1 < (t622.length : Int) := dz
   obtain ⟨ad627, e627, hx627_0⟩ := Kd.at_int (Kd.R_reads' HO_6.out).2.2 x7_1 p627 q627
   cases e627
   replace p627 := eq_true p627
   replace q627 := eq_true q627
   refine start_ (n := 17) (S := fun w' => w'.cell? ⟨gb618, 0, none⟩ = some (.slice (some ad626) l0_0.length c0_0) ∧ w'.cell? ⟨gb618, 1, none⟩ = some (.slice A0_1 l0_1.length c0_1) ∧ w'.cell? (ad625.add (x7_1).toNat) = some (.int .i64 (rd l1 x7_1)) ∧ w'.cell? (ad626.add ((x7_1).toNat * 3)) = some (.int .i64 ((rd_IVar l0_0 x7_1).f0)) ∧ w'.cell? ⟨(ad626.add ((x7_1).toNat * 3)).block, (ad626.add ((x7_1).toNat * 3)).off + 1, none⟩ = some (.int .i64 ((rd_IVar l0_0 x7_1).f1)) ∧ w'.cell? ⟨(ad626.add ((x7_1).toNat * 3)).block, (ad626.add ((x7_1).toNat * 3)).off + 2, none⟩ = some (.int .i64 ((rd_IVar l0_0 x7_1).f2)) ∧ w'.cell? (ad627.add (x7_1).toNat) = some (.int .i64 (rd t622 x7_1))) (ds := []) #[false, false, false, false, false, false, false, false, false, false, false, false, false, false, false, false, false] (by kernel_rfl) rfl rfl ⟨(blk_cell BK618.out 0).trans rfl, (blk_cell BK618.out 1).trans rfl, ((HB.out.cell (World.block_lt_of_cell? w _ hw625_0)).trans hw625_0), ((HB.out.cell (World.block_lt_of_cell? w _ hw626_0)).trans hw626_0), ((HB.out.cell (World.block_lt_of_cell? w _ hw626_1)).trans hw626_1), ((HB.out.cell (World.block_lt_of_cell? w _ hw626_2)).trans hw626_2), hx627_0⟩ (fun hHeld => ?_); refine with_tabW spec_l6State.tab6 spec_l6State.bits6 (fun HT_ HW_ => ?_)
   generalize wr.drew = w14 at HO_5 HO_6 BK618 HB hx625_0 hx626_0 hx626_1 hx626_2 hx627_0 hHeld ⊢
   refine pure_ (i := 0) (N := some 19) (v := ?_) (a' := ?_) #[true, false, false, false, false, false, false, false, false, false, false, false, false, false, false, false, false] rfl rfl (any_of HT_.out (by kernel_rfl)) (fun _ _ _ h => h) (Or.inl ⟨by rfl, ?_⟩) ?_ ?_
   rotate_left
   ·
    intro w'
    go_simp
    with_reducible rfl
   rotate_left
   ·
    simp only [Act.put, sb_, sc0_, sc1_, i64_w, i32_w]
    rfl
   refine pure_ (i := 1) (N := some 20) (v := ?_) (a' := ?_) #[true, true, false, false, false, false, false, false, false, false, false, false, false, false, false, false, false] rfl rfl (any_of HT_.out (by kernel_rfl)) (fun _ _ _ h => h) (Or.inl ⟨by rfl, ?_⟩) ?_ ?_
   rotate_left
   ·
    intro w'
    go_simp
    with_reducible rfl
   rotate_left
   ·
    simp only [Act.put, sb_, sc0_, sc1_, i64_w, i32_w]
    rfl
   refine pure_ (i := 2) (N := some 21) (v := ?_) (a' := ?_) #[true, true, true, false, false, false, false, false, false, false, false, false, false, false, false, false, false] rfl rfl (any_of HT_.out (by kernel_rfl)) (fun _ _ _ h => h) (Or.inl ⟨by rfl, ?_⟩) ?_ ?_
   rotate_left
   ·
    intro w'
    go_simp
    with_reducible rfl
   rotate_left
   ·
    simp only [Act.put, sb_, sc0_, sc1_, i64_w, i32_w]
    rfl
   refine pure_ (i := 4) (N := some 23) (v := ?_) (a' := ?_) #[true, true, true, false, true, false, false, false, false, false, false, false, false, false, false, false, false] rfl rfl (any_of HT_.out (by kernel_rfl)) (fun _ _ _ h => h) (Or.inl ⟨by rfl, ?_⟩) ?_ ?_
   rotate_left
   ·
    intro w'
    go_simp
    with_reducible rfl
   rotate_left
   ·
    simp only [Act.put, sb_, sc0_, sc1_, i64_w, i32_w]
    rfl
   refine pure_ (i := 6) (N := some 25) (v := ?_) (a' := ?_) #[true, true, true, false, true, false, true, false, false, false, false, false, false, false, false, false, false] rfl rfl (any_of HT_.out (by kernel_rfl)) (fun _ _ _ h => h) (Or.inl ⟨by rfl, ?_⟩) ?_ ?_
   rotate_left
   ·
    intro w'
    go_simp
    with_reducible rfl
   rotate_left
   ·
    simp only [Act.put, sb_, sc0_, sc1_, i64_w, i32_w]
    rfl
   refine pure_ (i := 11) (N := some 30) (v := ?_) (a' := ?_) #[true, true, true, false, true, false, true, false, false, false, false, true, false, false, false, false, false] rfl rfl (any_of HT_.out (by kernel_rfl)) (fun _ _ _ h => h) (Or.inl ⟨by rfl, ?_⟩) ?_ ?_
   rotate_left
   ·
    intro w'
    go_simp
    with_reducible rfl
   rotate_left
   ·
    simp only [Act.put, sb_, sc0_, sc1_, i64_w, i32_w]
    rfl
   refine pure_ (i := 12) (N := some 31) (v := ?_) (a' := ?_) #[true, true, true, false, true, false, true, false, false, false, false, true, true, false, false, false, false] rfl rfl (any_of HT_.out (by kernel_rfl)) (fun _ _ _ h => h) (Or.inl ⟨by rfl, ?_⟩) ?_ ?_
   rotate_left
   ·
    intro w'
    go_simp
    with_reducible rfl
   rotate_left
   ·
    simp only [Act.put, sb_, sc0_, sc1_, i64_w, i32_w]
    rfl
   refine pure_ (i := 13) (N := some 32) (v := ?_) (a' := ?_) #[true, true, true, false, true, false, true, false, false, false, false, true, true, true, false, false, false] rfl rfl (any_of HT_.out (by kernel_rfl)) (fun _ _ _ h => h) (Or.inl ⟨by rfl, ?_⟩) ?_ ?_
   rotate_left
   ·
    intro w'
    go_simp
    with_reducible rfl
   rotate_left
   ·
    simp only [Act.put, sb_, sc0_, sc1_, i64_w, i32_w]
    rfl
   refine take_ (i := 3) (N := some 22) (v := ?_) (a' := ?_) #[true, true, true, true, true, false, true, false, false, false, false, true, true, true, false, false, false] rfl rfl (take_ofW HT_.out HW_.out (by kernel_rfl)) (fun _ _ _ h => h) (Or.inl ⟨by rfl, ?_⟩) hHeld ?_ ?_
   rotate_left
   ·
    rintro w' ⟨s0, s1, s2, s3, s4, s5, s6⟩
    go_simp
    with_reducible rfl
   rotate_left
   ·
    simp only [Act.put, sb_, sc0_, sc1_, i64_w, i32_w]
    rfl
   refine take_ (i := 5) (N := some 24) (v := ?_) (a' := ?_) #[true, true, true, true, true, true, true, false, false, false, false, true, true, true, false, false, false] rfl rfl (take_ofW HT_.out HW_.out (by kernel_rfl)) (fun _ _ _ h => h) (Or.inl ⟨by rfl, ?_⟩) hHeld ?_ ?_
   rotate_left
   ·
    rintro w' ⟨s0, s1, s2, s3, s4, s5, s6⟩
    go_simp
    with_reducible rfl
   rotate_left
   ·
    simp only [Act.put, sb_, sc0_, sc1_, i64_w, i32_w]
    rfl
   refine pure_ (i := 7) (N := some 26) (v := ?_) (a' := ?_) #[true, true, true, true, true, true, true, true, false, false, false, true, true, true, false, false, false] rfl rfl (any_of HT_.out (by kernel_rfl)) (fun _ _ _ h => h) (Or.inl ⟨by rfl, ?_⟩) ?_ ?_
   rotate_left
   ·
    intro w'
    go_simp
    with_reducible rfl
   rotate_left
   ·
    simp only [Act.put, sb_, sc0_, sc1_, i64_w, i32_w]
    rfl
   refine pure_ (i := 8) (N := some 27) (v := ?_) (a' := ?_) #[true, true, true, true, true, true, true, true, true, false, false, true, true, true, false, false, false] rfl rfl (any_of HT_.out (by kernel_rfl)) (fun _ _ _ h => h) (Or.inl ⟨by rfl, ?_⟩) ?_ ?_
   rotate_left
   ·
    intro w'
    go_simp
    with_reducible rfl
   rotate_left
   ·
    simp only [Act.put, sb_, sc0_, sc1_, i64_w, i32_w]
    rfl
   refine take_ (i := 9) (N := some 28) (v := ?_) (a' := ?_) #[true, true, true, true, true, true, true, true, true, true, false, true, true, true, false, false, false] rfl rfl (take_ofW HT_.out HW_.out (by kernel_rfl)) (fun _ _ _ h => h) (Or.inl ⟨by rfl, ?_⟩) hHeld ?_ ?_
   rotate_left
   ·
    rintro w' ⟨s0, s1, s2, s3, s4, s5, s6⟩
    go_simp
    with_reducible rfl
   rotate_left
   ·
    simp only [Act.put, sb_, sc0_, sc1_, i64_w, i32_w]
    rfl
   refine pure_ (i := 10) (N := some 29) (v := ?_) (a' := ?_) #[true, true, true, true, true, true, true, true, true, true, true, true, true, true, false, false, false] rfl rfl (any_of HT_.out (by kernel_rfl)) (fun _ _ _ h => h) (Or.inl ⟨by rfl, ?_⟩) ?_ ?_
   rotate_left
   ·
    intro w'
    go_simp
    with_reducible rfl
   rotate_left
   ·
    simp only [Act.put, sb_, sc0_, sc1_, i64_w, i32_w]
    rfl
   refine take_ (i := 14) (N := some 33) (v := ?_) (a' := ?_) #[true, true, true, true, true, true, true, true, true, true, true, true, true, true, true, false, false] rfl rfl (take_ofW HT_.out HW_.out (by kernel_rfl)) (fun _ _ _ h => h) (Or.inl ⟨by rfl, ?_⟩) hHeld ?_ ?_
   rotate_left
   ·
    rintro w' ⟨s0, s1, s2, s3, s4, s5, s6⟩
    go_simp
    with_reducible rfl
   rotate_left
   ·
    simp only [Act.put, sb_, sc0_, sc1_, i64_w, i32_w]
    rfl
   refine one_ (i := 15) (N := some 34) #[true, true, true, true, true, true, true, true, true, true, true, true, true, true, true, true, false] rfl rfl (one_of HT_.out (by kernel_rfl)) (by decide) (fun K hK => ?_)
   refine goes_ Try.func106 (by kernel_rfl) rfl #[.int .i64 (wrap64 ((rd l1 x7_1) - ((rd_IVar l0_0 x7_1).f0))), .int .i64 (rd t622 x7_1)] (by rfl) rfl rfl az ?_
   with_reducible refine (spec_l6Value.calls k1 (wrap64 ((rd l1 x7_1) - ((rd_IVar l0_0 x7_1).f0))) (rd t622 x7_1) t628 _ A13.out).mono ?_
   rintro e w16 ⟨v629, rfl, ho0, hb⟩
   have HS6_ := (hb.cell (World.block_lt_of_cell? _ _ (hHeld.2.2.2.2.2.2))).trans (hHeld.2.2.2.2.2.2)
   refine ⟨_, rfl, ?_⟩
   have n0_ := Aside0.mk (Kd.R_elder' (ozR HO_5) (Kd.R_base ho0) hb)
   have n1_ := Aside0.mk (Kd.R_elder' (ozR HO_6) (Kd.R_base ho0) hb)
   have n2_ := Aside0.mk (Kd.R_lower (Kd.R_new' (Kd.R_new' ho0 (Kd.R_lt (ozR HO_5))) (Kd.R_lt (ozR HO_6))) (below_size (bz1 HB GE618)))
   have n3_ := Aside0.mk (blk_below (g := gb618) (o := .cells #[.slice (some ad626) l0_0.length c0_0, .slice A0_1 l0_1.length c0_1] 31 (0, 0)) (kz BK618) hb)
   have n4_ := Aside0.mk (below_step (bz1 HB GE618) hb)
   clear HO_5
   clear HO_6
   clear BK618
   clear HB
   have HO_5 := n0_
   have HO_6 := n1_
   have HO630 := n2_
   have BK618 := n3_
   have HB := n4_
   clear n0_ n1_ n2_ n3_ n4_
   (try clear hb)
   (try clear hb2)
   (try clear hk)
   (try clear hi)
   (try clear ho0)
   refine hK.out _ _ ⟨(blk_cell BK618.out 0).trans rfl, (blk_cell BK618.out 1).trans rfl, ((HB.out.cell (World.block_lt_of_cell? w _ hw625_0)).trans hw625_0), ((HB.out.cell (World.block_lt_of_cell? w _ hw626_0)).trans hw626_0), ((HB.out.cell (World.block_lt_of_cell? w _ hw626_1)).trans hw626_1), ((HB.out.cell (World.block_lt_of_cell? w _ hw626_2)).trans hw626_2), HS6_⟩ (fun hHeld => ?_)
   clear hK K
   refine norm_ (a' := ?_) ?_ ?_
   rotate_left
   ·
    show Act.put _ (some 34) _ = _
    simp only [Act.put, sb_, sc0_, sc1_, i64_w, i32_w]
    rfl
   refine pure_ (i := 16) (N := some 8) (v := ?_) (a' := ?_) #[true, true, true, true, true, true, true, true, true, true, true, true, true, true, true, true, true] rfl rfl (any_of HT_.out (by kernel_rfl)) (fun _ _ _ h => h) (Or.inl ⟨by rfl, ?_⟩) ?_ ?_
   rotate_left
   ·
    intro w'
    go_simp
    with_reducible rfl
   rotate_left
   ·
    simp only [Act.put, sb_, sc0_, sc1_, i64_w, i32_w]
    rfl
   refine done_ (done_of HT_.out (by kernel_rfl)) ?_
   try go_wp2
   go_loopg [5, 9] k1 (fun kq v5 v9 w' => ∃ (x5_2 : List Int) (x9_2 : Int), v9 = .int .i64 x9_2 ∧ Aside0 (spec_l6State.l1 kq l1 x5_2 t622 x7_1 t628 x9_2 l0_0 l0_1 = some r) ∧ Aside0 (kq ≤ k1) ∧ Aside0 (Kd.R (Kd.int .i64) 3 w' w.heap.size (fun k_ => some k_ ≠ ((.slice (some ad627) t622.length co15) : Value).ownBlock ∧ some k_ ≠ (v629 : Value).ownBlock) v5 x5_2) ∧ Aside0 (Kd.R (Kd.int .i64) 3 w' w.heap.size (fun k_ => some k_ ≠ (v5 : Value).ownBlock ∧ some k_ ≠ (v629 : Value).ownBlock) (.slice (some ad627) t622.length co15) t622) ∧ Aside0 (Kd.R (Kd.int .i64) 3 w' w.heap.size (fun k_ => some k_ ≠ (v5 : Value).ownBlock ∧ some k_ ≠ ((.slice (some ad627) t622.length co15) : Value).ownBlock) v629 t628) ∧ Aside0 (w'.heap[gb618]? = some (.cells #[(.slice (some ad626) l0_0.length c0_0), (.slice A0_1 l0_1.length c0_1)] 31 (0, 0))) ∧ Aside0 (Below w.heap.size w w'))
   case atStart => exact ⟨(x5_1), (0), rq, H', ⟨Nat.le_refl _⟩, ⟨ozR HO_5⟩, ⟨ozR HO_6⟩, ⟨by (with_reducible repeat (first | apply Kd.R_alloc | apply Kd.R_drewN | apply Kd.R_drew)); exact Kd.R_mono HO630.out (fun _ hk => ⟨hk.1.2, hk.2⟩)⟩, ⟨kz BK618⟩, ⟨bz1 HB GE618⟩⟩
   case round =>
    clear H'
    try clear c1
    try clear p2
    try clear c5
    try clear p6
    try clear q6
    try clear hx6
    try clear c7
    try clear c9
    try clear c9b0
    try clear c10
    try clear c10b0
    try clear c11
    try clear c11b0
    try clear c12
    try clear c12b0
    try clear hcz7_0
    try clear hcz7_1
    try clear hfz7_0
    try clear hfz7_1
    try clear hx625_0
    try clear hx626_0
    try clear hx626_1
    try clear hx626_2
    try clear hx627_0
    try clear p2
    try clear p625
    try clear p626
    try clear p627
    try clear q625
    try clear q626
    try clear q627
    obtain ⟨x5_2, x9_2, rfl, HA, HK2, HO_5, HO_6, HO_8, BK618, HB⟩ := hrel
    cases gk with
    | zero => exact absurd HA.out (by simp [spec_l6State.l1])
    | succ k2 =>
     have H := HA.out
     clear HA
     simp only [spec_l6State.l1] at H
     by_cases c17 : x9_2 < (t628.length : Int)
     case neg =>
      rw [if_neg c17] at H
      have c17b0 : decide (x9_2 < (t628.length : Int)) = false := decide_eq_false c17
      clear c17
      have H' := Aside0.mk H
      clear H
      obtain ⟨Ao22, co22, eo22⟩ := Kd.R_slice HO_8.out
      subst eo22
      go_wp2
      go_roundg k2
      case measure => have := HK1.out; have := HK2.out; omega
      case rel => exact ⟨(x5_2), (wrap64 (x7_1 + 1)), rq, H', ⟨by have := HK1.out; have := HK2.out; omega⟩, ⟨by (with_reducible repeat (first | apply Kd.R_alloc | apply Kd.R_drewN | apply Kd.R_drew)); exact Kd.R_mono HO_5.out (fun _ hk => hk.1)⟩, ⟨by (with_reducible repeat (first | apply Kd.R_alloc | apply Kd.R_drewN | apply Kd.R_drew)); exact Kd.R_mono HO_6.out (fun _ hk => hk.1)⟩, ⟨kz BK618⟩, ⟨bz1 HB GE618⟩⟩
     rw [if_pos c17] at H
     have c17b0 : decide (x9_2 < (t628.length : Int)) = true := decide_eq_true c17
     clear c17
     by_cases c18 : 0 ≤ x9_2
     case neg =>
      rw [if_neg c18] at H
      exact absurd H (by simp)
     rw [if_pos c18] at H
     have c18b0 : decide (0 ≤ x9_2) = true := decide_eq_true c18
     clear c18
     by_cases c19 : x5_2.length < 17592186044416
     case neg =>
      rw [if_neg c19] at H
      exact absurd H (by simp)
     rw [if_pos c19] at H
     have LMc19 := Aside0.mk c19
     clear c19
     obtain ⟨y632, hy632⟩ : ∃ y_ : List Int, y_ = (x5_2 ++ [rd t628 x9_2]) := ⟨_, rfl⟩
     replace H : (spec_l6State.l1 k2 l1 y632 t622 x7_1 t628 (wrap64 (x9_2 + 1)) l0_0 l0_1) = some r := by first | (rw [hy632]; with_reducible exact H) | (have H2_ := (Option.bind_some _ _).symm.trans H; rw [hy632]; with_reducible exact H2_) | (have H2_ := (Option.bind_some _ _).symm.trans H; with_reducible exact H2_) | with_reducible exact H | (rw [hy632]; exact H) | exact H
     have Ny632 := Aside0.mk hy632
     clear hy632
     have H' := Aside0.mk H
     clear H
     obtain ⟨Ao20, co20, eo20⟩ := Kd.R_slice HO_8.out
     subst eo20
     have p631 : 0 ≤ (x9_2 : Int) := dz
     have q631 : x9_2 < (t628.length : Int) := dz
     obtain ⟨ad631, e631, hx631_0⟩ := Kd.at_int (Kd.R_reads' HO_8.out).2.2 x9_2 p631 q631
     cases e631
     replace p631 := eq_true p631
     replace q631 := eq_true q631
     go_wp2_with (first | ((with_reducible refine gate_builtin (b := .append) (xs := #[.tmp 41, .tmp 46]) rfl ?_); at_builtin; refine Kd.R_append (Kd.int .i64) (w0 := w) w.heap.size rfl (.tmp 41) (.tmp 46) 35 3 (.int .i64 0) 8 rfl Try.underlying35 info3 rfl (by decide) (by omega) u5 x5_2 (rd t628 x9_2) [.int .i64 (rd t628 x9_2)] (fun k_ => some k_ ≠ (.slice (some ad627) t622.length co15 : Value).ownBlock ∧ some k_ ≠ (.slice (some ad631) t628.length co20 : Value).ownBlock) (fun _ => False) rfl rfl ?aP (fun _ hk => hk.elim) ?aF ?aO ?aB ?aS ?aL ?_; (case aP => exact rfl); (case aB => exact (bz1 HB GE618)); (case aF => exact (fun k_ hk => ⟨Kd.fresh' (Kd.R_lt (ozR HO_6)) k_ hk, Kd.fresh' (Kd.R_lt (ozR HO_8)) k_ hk⟩)); (case aO => exact (ozR HO_5)); (case aS => exact (below_size (bz1 HB GE618))); (case aL => have := LMc19.out; omega); intro v633 w21 ho hb hg hat; rw [← Ny632.out] at ho; replace HO_6 := Aside0.mk (Kd.R_after (ok := (fun k_ => some k_ ≠ (.slice (some ad631) t628.length co20 : Value).ownBlock)) (by (with_reducible repeat (first | apply Kd.R_alloc | apply Kd.R_drewN | apply Kd.R_drew)); exact Kd.R_mono HO_6.out (fun _ hk => ⟨hk.2, hk.1⟩)) hg hat); replace HO_8 := Aside0.mk (Kd.R_after (ok := (fun k_ => some k_ ≠ (.slice (some ad627) t622.length co15 : Value).ownBlock)) (by (with_reducible repeat (first | apply Kd.R_alloc | apply Kd.R_drewN | apply Kd.R_drew)); exact Kd.R_mono HO_8.out (fun _ hk => ⟨hk.2, hk.1⟩)) hg hat); replace BK618 := Aside0.mk (blk_grown (g := gb618) (o := .cells #[.slice (some ad626) l0_0.length c0_0, .slice A0_1 l0_1.length c0_1] 31 (0, 0)) (kz BK618) hg (Kd.R_ne HO_5.out BK618.out (by decide))); replace HB := Aside0.mk (hb); have HO634 := Aside0.mk (ho); clear HO_5; clear ho hb hg hat))
     go_roundg k2
     case measure => have := HK1.out; have := HK2.out; omega
     case rel => exact ⟨(y632), (wrap64 (x9_2 + 1)), rq, H', ⟨by have := HK1.out; have := HK2.out; omega⟩, ⟨ozR HO634⟩, ⟨by (with_reducible repeat (first | apply Kd.R_alloc | apply Kd.R_drewN | apply Kd.R_drew)); exact Kd.R_mono HO_6.out (fun _ hk => ⟨hk.2, hk.1⟩)⟩, ⟨by (with_reducible repeat (first | apply Kd.R_alloc | apply Kd.R_drewN | apply Kd.R_drew)); exact Kd.R_mono HO_8.out (fun _ hk => ⟨hk.2, hk.1⟩)⟩, ⟨kz BK618⟩, ⟨bz1 HB GE618⟩⟩
end Go.Proofs.Ytoofhjflfpccdaa.PA
end
section
namespace Go.Proofs.Ytoofhjflfpccdaa.PA
open Go.RowKit Go.Proofs.YtoofhjflfpccdaaW.PrintWords Go.Proofs.YtoofhjflfpccdaaW.PrintLast Go.Proofs.YtoofhjflfpccdaaW.PrintMore
attribute [local go_sem] max2_int min2_int max_two min_two max_three min_three max_four min_four   -- for this text's walks alone
set_option linter.unusedVariables false
set_option linter.unusedSimpArgs false
set_option maxHeartbeats 8000000 in
set_option maxRecDepth 100000 in
theorem spec_ApartBits.calls (k : Nat) (A0_0 : Option Addr) (c0_0 : Nat) (l0_0 : List (IVar)) (A0_1 : Option Addr) (c0_1 : Nat) (l0_1 : List (IRule)) (A1 : Option Addr) (c1 : Nat) (l1 : List Int) (A2 : Option Addr) (c2 : Nat) (l2 : List Int) (r : Int) (w : World) (hr0_0 : Kd.C k62 w A0_0 l0_0.length l0_0) (hc0_0 : l0_0.length ≤ c0_0) (hr0_1 : Kd.C k81 w A0_1 l0_1.length l0_1) (hc0_1 : l0_1.length ≤ c0_1) (hr1 : Kd.C (Kd.int .i64) w A1 l1.length l1) (hc1 : l1.length ≤ c1) (hr2 : Kd.C (Kd.int .i64) w A2 l2.length l2) (hc2 : l2.length ≤ c2) (h : spec_ApartBits.f k l0_0 l0_1 l1 l2 = some r) :
  Calls Try.prog 33 #[.agg #[.slice A0_0 l0_0.length c0_0, .slice A0_1 l0_1.length c0_1], .slice A1 l1.length c1, .slice A2 l2.length c2] w fun e w' => e = .returned (.int .i64 r) ∧ Below w.heap.size w w' := by
 have hu31 := Try.underlying31
 have HR0_0 := Aside0.mk hr0_0
 have HC0_0 := Aside0.mk hc0_0
 clear hr0_0 hc0_0
 have HR0_1 := Aside0.mk hr0_1
 have HC0_1 := Aside0.mk hc0_1
 clear hr0_1 hc0_1
 have HR1 := Aside0.mk hr1
 have HC1 := Aside0.mk hc1
 clear hr1 hc1
 have HR2 := Aside0.mk hr2
 have HC2 := Aside0.mk hc2
 clear hr2 hc2
 have HB := Aside0.mk (Below.refl w.heap.size w)
 have H : ((spec_InRange.f k l0_0 l0_1 l1).bind fun t636 => (if t636 = true then ((spec_l2In.f k l0_0 l0_1 l2).bind fun t637 => (spec_ApartBits.j0 k l1 l2 (!t637) l0_0 l0_1)) else (spec_ApartBits.j0 k l1 l2 true l0_0 l0_1))) = some r := h
 clear h
 have HC4 := Aside0.mk H
 clear H
 go_enter Try.func33, Try.ntmps33
 go_upto_region 1 with (first | ((with_reducible refine gate_dst (N := 3) rfl ?_); refine box_event ?hg (N := 3) ?hd (cs := #[.slice A0_0 l0_0.length c0_0, .slice A0_1 l0_1.length c0_1]) (t := 31) ?hr ?_; (case hd => rfl); (case hg => rfl); (case hr => first | (go_simp; done) | (go_simp; rfl)); intro gb635 hg w5 hbox hb; have n0_ := Aside0.mk (below_step (bz HB) hb); have n1_ := Aside0.mk (hbox); have n2_ := Aside0.mk ((by rw [hg]; exact (below_size (bz HB)) : w.heap.size ≤ gb635)); have n3_ := Aside0.mk ((by rw [hg]; exact (below_size (bz HB)) : w.heap.size ≤ gb635)); clear HB; have HB := n0_; have BK635 := n1_; have GW635 := n2_; have GE635 := n3_; clear n0_ n1_ n2_ n3_; clear hb hbox hg))
 repeat (go_quiet (first | ((with_reducible refine gate_dst (N := 3) rfl ?_); refine box_event ?hg (N := 3) ?hd (cs := #[.slice A0_0 l0_0.length c0_0, .slice A0_1 l0_1.length c0_1]) (t := 31) ?hr ?_; (case hd => rfl); (case hg => rfl); (case hr => first | (go_simp; done) | (go_simp; rfl)); intro gb635 hg w5 hbox hb; have n0_ := Aside0.mk (below_step (bz HB) hb); have n1_ := Aside0.mk (hbox); have n2_ := Aside0.mk ((by rw [hg]; exact (below_size (bz HB)) : w.heap.size ≤ gb635)); have n3_ := Aside0.mk ((by rw [hg]; exact (below_size (bz HB)) : w.heap.size ≤ gb635)); clear HB; have HB := n0_; have BK635 := n1_; have GW635 := n2_; have GE635 := n3_; clear n0_ n1_ n2_ n3_; clear hb hbox hg)); go_upto_region 1 with (first | ((with_reducible refine gate_dst (N := 3) rfl ?_); refine box_event ?hg (N := 3) ?hd (cs := #[.slice A0_0 l0_0.length c0_0, .slice A0_1 l0_1.length c0_1]) (t := 31) ?hr ?_; (case hd => rfl); (case hg => rfl); (case hr => first | (go_simp; done) | (go_simp; rfl)); intro gb635 hg w5 hbox hb; have n0_ := Aside0.mk (below_step (bz HB) hb); have n1_ := Aside0.mk (hbox); have n2_ := Aside0.mk ((by rw [hg]; exact (below_size (bz HB)) : w.heap.size ≤ gb635)); have n3_ := Aside0.mk ((by rw [hg]; exact (below_size (bz HB)) : w.heap.size ≤ gb635)); clear HB; have HB := n0_; have BK635 := n1_; have GW635 := n2_; have GE635 := n3_; clear n0_ n1_ n2_ n3_; clear hb hbox hg)))
 (try simp only [Act.put, sb_, sc0_, sc1_])
 go_cut [20] (fun v20 wc => ∃ (kq : Nat) (x20_3 : Bool), v20 = .bool x20_3 ∧ Aside0 (spec_ApartBits.j0 kq l1 l2 x20_3 l0_0 l0_1 = some r) ∧ Aside0 (kq ≤ k) ∧ Aside0 (wc.heap[gb635]? = some (.cells #[(.slice A0_0 l0_0.length c0_0), (.slice A0_1 l0_1.length c0_1)] 31 (0, 0))) ∧ Aside0 (Below w.heap.size w wc))
 case first =>
  have H := HC4.out
  clear HC4
  replace H := Option.bind_eq_some_iff.mp H
  obtain ⟨t636, A60, H⟩ := H
  have A6 := Aside0.mk A60
  clear A60
  by_cases c7 : t636 = true
  case neg =>
   replace c7 := Bool.eq_false_iff.mpr c7
   subst c7
   rw [if_neg nt_] at H
   have H' := Aside0.mk H
   clear H
   have hcz13_0 : w5.cell? ⟨gb635, 0, none⟩ = some (.slice A0_0 l0_0.length c0_0) := (blk_cell BK635.out 0).trans rfl
   have hcz13_1 : w5.cell? ⟨gb635, 1, none⟩ = some (.slice A0_1 l0_1.length c0_1) := (blk_cell BK635.out 1).trans rfl
   have hfz13_0 := blk_frozen BK635.out 0
   have hfz13_1 := blk_frozen BK635.out 1
   go_wp2_with (first | (go_at_call 61; (with_reducible refine (spec_InRange.calls k _ _ l0_0 _ _ l0_1 _ _ l1 false _ ?side1 HC0_0.out ?side3 HC0_1.out ?side5 HC1.out A6.out).mono ?_); (case side1 => exact cz HR0_0 HB); (case side3 => exact cz HR0_1 HB); (case side5 => exact cz HR1 HB); rintro e w14 ⟨rfl, hb⟩; replace BK635 := Aside0.mk (blk_below (g := gb635) (o := .cells #[.slice A0_0 l0_0.length c0_0, .slice A0_1 l0_1.length c0_1] 31 (0, 0)) (kz BK635) hb); replace HB := Aside0.mk (below_step (bz1 HB GE635) hb); clear hb))
   repeat (go_quiet (first | (go_at_call 61; (with_reducible refine (spec_InRange.calls k _ _ l0_0 _ _ l0_1 _ _ l1 false _ ?side1 ?side2 ?side3 ?side4 ?side5 ?side6 A6.out).mono ?_); (case side1 => exact cz HR0_0 HB); (case side2 => exact HC0_0.out); (case side3 => exact cz HR0_1 HB); (case side4 => exact HC0_1.out); (case side5 => exact cz HR1 HB); (case side6 => exact HC1.out); rintro e w14 ⟨rfl, hb⟩; replace BK635 := Aside0.mk (blk_below (g := gb635) (o := .cells #[.slice A0_0 l0_0.length c0_0, .slice A0_1 l0_1.length c0_1] 31 (0, 0)) (kz BK635) hb); replace HB := Aside0.mk (below_step (bz1 HB GE635) hb); clear hb)); try go_wp2_with (first | (go_at_call 61; (with_reducible refine (spec_InRange.calls k _ _ l0_0 _ _ l0_1 _ _ l1 false _ ?side1 ?side2 ?side3 ?side4 ?side5 ?side6 A6.out).mono ?_); (case side1 => exact cz HR0_0 HB); (case side2 => exact HC0_0.out); (case side3 => exact cz HR0_1 HB); (case side4 => exact HC0_1.out); (case side5 => exact cz HR1 HB); (case side6 => exact HC1.out); rintro e w14 ⟨rfl, hb⟩; replace BK635 := Aside0.mk (blk_below (g := gb635) (o := .cells #[.slice A0_0 l0_0.length c0_0, .slice A0_1 l0_1.length c0_1] 31 (0, 0)) (kz BK635) hb); replace HB := Aside0.mk (below_step (bz1 HB GE635) hb); clear hb)))
   go_meet
   case rel => exact ⟨_, (true), rq, H', ⟨by first | omega | exact Nat.le_refl _⟩, ⟨kz BK635⟩, ⟨bz1 HB GE635⟩⟩
  subst c7
  rw [if_pos rfl] at H
  replace H := Option.bind_eq_some_iff.mp H
  obtain ⟨t637, A80, H⟩ := H
  have A8 := Aside0.mk A80
  clear A80
  have H' := Aside0.mk H
  clear H
  have hcz9_0 : w5.cell? ⟨gb635, 0, none⟩ = some (.slice A0_0 l0_0.length c0_0) := (blk_cell BK635.out 0).trans rfl
  have hcz9_1 : w5.cell? ⟨gb635, 1, none⟩ = some (.slice A0_1 l0_1.length c0_1) := (blk_cell BK635.out 1).trans rfl
  have hfz9_0 := blk_frozen BK635.out 0
  have hfz9_1 := blk_frozen BK635.out 1
  go_wp2_with (first | (go_at_call 61; (with_reducible refine (spec_InRange.calls k _ _ l0_0 _ _ l0_1 _ _ l1 true _ ?side1 ?side2 ?side3 ?side4 ?side5 ?side6 A6.out).mono ?_); (case side1 => exact cz HR0_0 HB); (case side2 => exact HC0_0.out); (case side3 => exact cz HR0_1 HB); (case side4 => exact HC0_1.out); (case side5 => exact cz HR1 HB); (case side6 => exact HC1.out); rintro e w10 ⟨rfl, hb⟩; replace BK635 := Aside0.mk (blk_below (g := gb635) (o := .cells #[.slice A0_0 l0_0.length c0_0, .slice A0_1 l0_1.length c0_1] 31 (0, 0)) (kz BK635) hb); replace HB := Aside0.mk (below_step (bz1 HB GE635) hb); clear hb; have hcz11_0 : w10.cell? ⟨gb635, 0, none⟩ = some (.slice A0_0 l0_0.length c0_0) := (blk_cell BK635.out 0).trans rfl; have hcz11_1 : w10.cell? ⟨gb635, 1, none⟩ = some (.slice A0_1 l0_1.length c0_1) := (blk_cell BK635.out 1).trans rfl; have hfz11_0 := blk_frozen BK635.out 0; have hfz11_1 := blk_frozen BK635.out 1) | (go_at_call 72; (with_reducible refine (spec_l2In.calls k _ _ l0_0 _ _ l0_1 _ _ l2 t637 _ ?side1 ?side2 ?side3 ?side4 ?side5 ?side6 A8.out).mono ?_); (case side1 => exact cz HR0_0 HB); (case side2 => exact HC0_0.out); (case side3 => exact cz HR0_1 HB); (case side4 => exact HC0_1.out); (case side5 => exact cz HR2 HB); (case side6 => exact HC2.out); rintro e w12 ⟨rfl, hb⟩; replace BK635 := Aside0.mk (blk_below (g := gb635) (o := .cells #[.slice A0_0 l0_0.length c0_0, .slice A0_1 l0_1.length c0_1] 31 (0, 0)) (kz BK635) hb); replace HB := Aside0.mk (below_step (bz1 HB GE635) hb); clear hb))
  repeat (go_quiet (first | (go_at_call 61; (with_reducible refine (spec_InRange.calls k _ _ l0_0 _ _ l0_1 _ _ l1 true _ ?side1 ?side2 ?side3 ?side4 ?side5 ?side6 A6.out).mono ?_); (case side1 => exact cz HR0_0 HB); (case side2 => exact HC0_0.out); (case side3 => exact cz HR0_1 HB); (case side4 => exact HC0_1.out); (case side5 => exact cz HR1 HB); (case side6 => exact HC1.out); rintro e w10 ⟨rfl, hb⟩; replace BK635 := Aside0.mk (blk_below (g := gb635) (o := .cells #[.slice A0_0 l0_0.length c0_0, .slice A0_1 l0_1.length c0_1] 31 (0, 0)) (kz BK635) hb); replace HB := Aside0.mk (below_step (bz1 HB GE635) hb); clear hb; have hcz11_0 : w10.cell? ⟨gb635, 0, none⟩ = some (.slice A0_0 l0_0.length c0_0) := (blk_cell BK635.out 0).trans rfl; have hcz11_1 : w10.cell? ⟨gb635, 1, none⟩ = some (.slice A0_1 l0_1.length c0_1) := (blk_cell BK635.out 1).trans rfl; have hfz11_0 := blk_frozen BK635.out 0; have hfz11_1 := blk_frozen BK635.out 1) | (go_at_call 72; (with_reducible refine (spec_l2In.calls k _ _ l0_0 _ _ l0_1 _ _ l2 t637 _ ?side1 ?side2 ?side3 ?side4 ?side5 ?side6 A8.out).mono ?_); (case side1 => exact cz HR0_0 HB); (case side2 => exact HC0_0.out); (case side3 => exact cz HR0_1 HB); (case side4 => exact HC0_1.out); (case side5 => exact cz HR2 HB); (case side6 => exact HC2.out); rintro e w12 ⟨rfl, hb⟩; replace BK635 := Aside0.mk (blk_below (g := gb635) (o := .cells #[.slice A0_0 l0_0.length c0_0, .slice A0_1 l0_1.length c0_1] 31 (0, 0)) (kz BK635) hb); replace HB := Aside0.mk (below_step (bz1 HB GE635) hb); clear hb)); try go_wp2_with (first | (go_at_call 61; (with_reducible refine (spec_InRange.calls k _ _ l0_0 _ _ l0_1 _ _ l1 true _ ?side1 ?side2 ?side3 ?side4 ?side5 ?side6 A6.out).mono ?_); (case side1 => exact cz HR0_0 HB); (case side2 => exact HC0_0.out); (case side3 => exact cz HR0_1 HB); (case side4 => exact HC0_1.out); (case side5 => exact cz HR1 HB); (case side6 => exact HC1.out); rintro e w10 ⟨rfl, hb⟩; replace BK635 := Aside0.mk (blk_below (g := gb635) (o := .cells #[.slice A0_0 l0_0.length c0_0, .slice A0_1 l0_1.length c0_1] 31 (0, 0)) (kz BK635) hb); replace HB := Aside0.mk (below_step (bz1 HB GE635) hb); clear hb; have hcz11_0 : w10.cell? ⟨gb635, 0, none⟩ = some (.slice A0_0 l0_0.length c0_0) := (blk_cell BK635.out 0).trans rfl; have hcz11_1 : w10.cell? ⟨gb635, 1, none⟩ = some (.slice A0_1 l0_1.length c0_1) := (blk_cell BK635.out 1).trans rfl; have hfz11_0 := blk_frozen BK635.out 0; have hfz11_1 := blk_frozen BK635.out 1) | (go_at_call 72; (with_reducible refine (spec_l2In.calls k _ _ l0_0 _ _ l0_1 _ _ l2 t637 _ ?side1 ?side2 ?side3 ?side4 ?side5 ?side6 A8.out).mono ?_); (case side1 => exact cz HR0_0 HB); (case side2 => exact HC0_0.out); (case side3 => exact cz HR0_1 HB); (case side4 => exact HC0_1.out); (case side5 => exact cz HR2 HB); (case side6 => exact HC2.out); rintro e w12 ⟨rfl, hb⟩; replace BK635 := Aside0.mk (blk_below (g := gb635) (o := .cells #[.slice A0_0 l0_0.length c0_0, .slice A0_1 l0_1.length c0_1] 31 (0, 0)) (kz BK635) hb); replace HB := Aside0.mk (below_step (bz1 HB GE635) hb); clear hb)))
  go_meet
  case rel => exact ⟨_, (!t637), rq, H', ⟨by first | omega | exact Nat.le_refl _⟩, ⟨kz BK635⟩, ⟨bz1 HB GE635⟩⟩
 case rest =>
  clear HC4
  try clear c1
  try clear c2
  try clear p2
  try clear c3
  try clear c7
  try clear hcz11_0
  try clear hcz11_1
  try clear hcz13_0
  try clear hcz13_1
  try clear hcz9_0
  try clear hcz9_1
  try clear hfz11_0
  try clear hfz11_1
  try clear hfz13_0
  try clear hfz13_1
  try clear hfz9_0
  try clear hfz9_1
  obtain ⟨kq, x20_3, rfl, HA, HJ3, BK635, HB⟩ := hcut
  cases kq with
  | zero => exact absurd HA.out (by simp [spec_ApartBits.j0])
  | succ kj3 =>
   have H := HA.out
   clear HA
   simp only [spec_ApartBits.j0] at H
   by_cases c15 : x20_3 = true
   case pos =>
    subst c15
    rw [if_pos rfl] at H
    obtain rfl := Option.some.inj H
    go_wp2
    repeat (go_quiet (fail); try go_wp2)
    go_ret
    exact ⟨rz, bz1 HB GE635⟩
   replace c15 := Bool.eq_false_iff.mpr c15
   subst c15
   rw [if_neg nt_] at H
   replace H := Option.bind_eq_some_iff.mp H
   obtain ⟨t638, A160, H⟩ := H
   have A16 := Aside0.mk A160
   clear A160
   replace H := Option.bind_eq_some_iff.mp H
   obtain ⟨t641, A170, H⟩ := H
   have A17 := Aside0.mk A170
   clear A170
   have H' := Aside0.mk H
   clear H
   have hcz18_0 : wc.cell? ⟨gb635, 0, none⟩ = some (.slice A0_0 l0_0.length c0_0) := (blk_cell BK635.out 0).trans rfl
   have hcz18_1 : wc.cell? ⟨gb635, 1, none⟩ = some (.slice A0_1 l0_1.length c0_1) := (blk_cell BK635.out 1).trans rfl
   have hfz18_0 := blk_frozen BK635.out 0
   have hfz18_1 := blk_frozen BK635.out 1
   go_wp2_with (first | (go_at_call 73; (with_reducible refine (spec_l6State.calls kj3 _ _ l0_0 _ _ l0_1 _ _ l1 t638 _ ?side1 ?side2 ?side3 ?side4 ?side5 ?side6 A16.out).mono ?_); (case side1 => exact cz HR0_0 HB); (case side2 => exact HC0_0.out); (case side3 => exact cz HR0_1 HB); (case side4 => exact HC0_1.out); (case side5 => exact cz HR1 HB); (case side6 => exact HC1.out); rintro e w19 ⟨v639, rfl, ho0, hb⟩; have HO640 := Aside0.mk (Kd.R_lower ho0 (below_size (bz1 HB GE635))); replace BK635 := Aside0.mk (blk_below (g := gb635) (o := .cells #[.slice A0_0 l0_0.length c0_0, .slice A0_1 l0_1.length c0_1] 31 (0, 0)) (kz BK635) hb); replace HB := Aside0.mk (below_step (bz1 HB GE635) hb); clear hb; (try clear ho0); have hcz20_0 : w19.cell? ⟨gb635, 0, none⟩ = some (.slice A0_0 l0_0.length c0_0) := (blk_cell BK635.out 0).trans rfl; have hcz20_1 : w19.cell? ⟨gb635, 1, none⟩ = some (.slice A0_1 l0_1.length c0_1) := (blk_cell BK635.out 1).trans rfl; have hfz20_0 := blk_frozen BK635.out 0; have hfz20_1 := blk_frozen BK635.out 1) | (go_at_call 73; (with_reducible refine (spec_l6State.calls kj3 _ _ l0_0 _ _ l0_1 _ _ l2 t641 _ ?side1 ?side2 ?side3 ?side4 ?side5 ?side6 A17.out).mono ?_); (case side1 => exact cz HR0_0 HB); (case side2 => exact HC0_0.out); (case side3 => exact cz HR0_1 HB); (case side4 => exact HC0_1.out); (case side5 => exact cz HR2 HB); (case side6 => exact HC2.out); rintro e w21 ⟨v642, rfl, ho0, hb⟩; have n0_ := Aside0.mk (Kd.R_elder' (ozR HO640) (Kd.R_base ho0) hb); have n1_ := Aside0.mk (Kd.R_lower (Kd.R_new' ho0 (Kd.R_lt (ozR HO640))) (below_size (bz1 HB GE635))); have n2_ := Aside0.mk (blk_below (g := gb635) (o := .cells #[.slice A0_0 l0_0.length c0_0, .slice A0_1 l0_1.length c0_1] 31 (0, 0)) (kz BK635) hb); have n3_ := Aside0.mk (below_step (bz1 HB GE635) hb); clear HO640; clear BK635; clear HB; have HO640 := n0_; have HO643 := n1_; have BK635 := n2_; have HB := n3_; clear n0_ n1_ n2_ n3_; clear hb; (try clear ho0)))
   repeat (go_quiet (first | (go_at_call 73; (with_reducible refine (spec_l6State.calls kj3 _ _ l0_0 _ _ l0_1 _ _ l1 t638 _ ?side1 ?side2 ?side3 ?side4 ?side5 ?side6 A16.out).mono ?_); (case side1 => exact cz HR0_0 HB); (case side2 => exact HC0_0.out); (case side3 => exact cz HR0_1 HB); (case side4 => exact HC0_1.out); (case side5 => exact cz HR1 HB); (case side6 => exact HC1.out); rintro e w19 ⟨v639, rfl, ho0, hb⟩; have HO640 := Aside0.mk (Kd.R_lower ho0 (below_size (bz1 HB GE635))); replace BK635 := Aside0.mk (blk_below (g := gb635) (o := .cells #[.slice A0_0 l0_0.length c0_0, .slice A0_1 l0_1.length c0_1] 31 (0, 0)) (kz BK635) hb); replace HB := Aside0.mk (below_step (bz1 HB GE635) hb); clear hb; (try clear ho0); have hcz20_0 : w19.cell? ⟨gb635, 0, none⟩ = some (.slice A0_0 l0_0.length c0_0) := (blk_cell BK635.out 0).trans rfl; have hcz20_1 : w19.cell? ⟨gb635, 1, none⟩ = some (.slice A0_1 l0_1.length c0_1) := (blk_cell BK635.out 1).trans rfl; have hfz20_0 := blk_frozen BK635.out 0; have hfz20_1 := blk_frozen BK635.out 1) | (go_at_call 73; (with_reducible refine (spec_l6State.calls kj3 _ _ l0_0 _ _ l0_1 _ _ l2 t641 _ ?side1 ?side2 ?side3 ?side4 ?side5 ?side6 A17.out).mono ?_); (case side1 => exact cz HR0_0 HB); (case side2 => exact HC0_0.out); (case side3 => exact cz HR0_1 HB); (case side4 => exact HC0_1.out); (case side5 => exact cz HR2 HB); (case side6 => exact HC2.out); rintro e w21 ⟨v642, rfl, ho0, hb⟩; have n0_ := Aside0.mk (Kd.R_elder' (ozR HO640) (Kd.R_base ho0) hb); have n1_ := Aside0.mk (Kd.R_lower (Kd.R_new' ho0 (Kd.R_lt (ozR HO640))) (below_size (bz1 HB GE635))); have n2_ := Aside0.mk (blk_below (g := gb635) (o := .cells #[.slice A0_0 l0_0.length c0_0, .slice A0_1 l0_1.length c0_1] 31 (0, 0)) (kz BK635) hb); have n3_ := Aside0.mk (below_step (bz1 HB GE635) hb); clear HO640; clear BK635; clear HB; have HO640 := n0_; have HO643 := n1_; have BK635 := n2_; have HB := n3_; clear n0_ n1_ n2_ n3_; clear hb; (try clear ho0))); try go_wp2_with (first | (go_at_call 73; (with_reducible refine (spec_l6State.calls kj3 _ _ l0_0 _ _ l0_1 _ _ l1 t638 _ ?side1 ?side2 ?side3 ?side4 ?side5 ?side6 A16.out).mono ?_); (case side1 => exact cz HR0_0 HB); (case side2 => exact HC0_0.out); (case side3 => exact cz HR0_1 HB); (case side4 => exact HC0_1.out); (case side5 => exact cz HR1 HB); (case side6 => exact HC1.out); rintro e w19 ⟨v639, rfl, ho0, hb⟩; have HO640 := Aside0.mk (Kd.R_lower ho0 (below_size (bz1 HB GE635))); replace BK635 := Aside0.mk (blk_below (g := gb635) (o := .cells #[.slice A0_0 l0_0.length c0_0, .slice A0_1 l0_1.length c0_1] 31 (0, 0)) (kz BK635) hb); replace HB := Aside0.mk (below_step (bz1 HB GE635) hb); clear hb; (try clear ho0); have hcz20_0 : w19.cell? ⟨gb635, 0, none⟩ = some (.slice A0_0 l0_0.length c0_0) := (blk_cell BK635.out 0).trans rfl; have hcz20_1 : w19.cell? ⟨gb635, 1, none⟩ = some (.slice A0_1 l0_1.length c0_1) := (blk_cell BK635.out 1).trans rfl; have hfz20_0 := blk_frozen BK635.out 0; have hfz20_1 := blk_frozen BK635.out 1) | (go_at_call 73; (with_reducible refine (spec_l6State.calls kj3 _ _ l0_0 _ _ l0_1 _ _ l2 t641 _ ?side1 ?side2 ?side3 ?side4 ?side5 ?side6 A17.out).mono ?_); (case side1 => exact cz HR0_0 HB); (case side2 => exact HC0_0.out); (case side3 => exact cz HR0_1 HB); (case side4 => exact HC0_1.out); (case side5 => exact cz HR2 HB); (case side6 => exact HC2.out); rintro e w21 ⟨v642, rfl, ho0, hb⟩; have n0_ := Aside0.mk (Kd.R_elder' (ozR HO640) (Kd.R_base ho0) hb); have n1_ := Aside0.mk (Kd.R_lower (Kd.R_new' ho0 (Kd.R_lt (ozR HO640))) (below_size (bz1 HB GE635))); have n2_ := Aside0.mk (blk_below (g := gb635) (o := .cells #[.slice A0_0 l0_0.length c0_0, .slice A0_1 l0_1.length c0_1] 31 (0, 0)) (kz BK635) hb); have n3_ := Aside0.mk (below_step (bz1 HB GE635) hb); clear HO640; clear BK635; clear HB; have HO640 := n0_; have HO643 := n1_; have BK635 := n2_; have HB := n3_; clear n0_ n1_ n2_ n3_; clear hb; (try clear ho0))))
   go_loopg [9, 10] kj3 (fun kq v9 v10 w' => ∃ (x9_2 : Int) (x10_2 : Int), v9 = .int .i64 x9_2 ∧ v10 = .int .i64 x10_2 ∧ Aside0 (spec_ApartBits.l0 kq t638 t641 x9_2 x10_2 = some r) ∧ Aside0 (kq ≤ kj3) ∧ Aside0 (Kd.R (Kd.int .i64) 3 w' w.heap.size (fun k_ => some k_ ≠ (v642 : Value).ownBlock) v639 t638) ∧ Aside0 (Kd.R (Kd.int .i64) 3 w' w.heap.size (fun k_ => some k_ ≠ (v639 : Value).ownBlock) v642 t641) ∧ Aside0 (w'.heap[gb635]? = some (.cells #[(.slice A0_0 l0_0.length c0_0), (.slice A0_1 l0_1.length c0_1)] 31 (0, 0))) ∧ Aside0 (Below w.heap.size w w'))
   case atStart => exact ⟨(0), (0), rq, rq, H', ⟨Nat.le_refl _⟩, ⟨by (with_reducible repeat (first | apply Kd.R_alloc | apply Kd.R_drewN | apply Kd.R_drew)); exact Kd.R_mono HO640.out (fun _ hk => hk.2)⟩, ⟨by (with_reducible repeat (first | apply Kd.R_alloc | apply Kd.R_drewN | apply Kd.R_drew)); exact Kd.R_mono HO643.out (fun _ hk => hk.2)⟩, ⟨kz BK635⟩, ⟨bz1 HB GE635⟩⟩
   case round =>
    clear H'
    try clear c1
    try clear c2
    try clear p2
    try clear c3
    try clear c7
    try clear c15
    try clear hcz11_0
    try clear hcz11_1
    try clear hcz13_0
    try clear hcz13_1
    try clear hcz18_0
    try clear hcz18_1
    try clear hcz20_0
    try clear hcz20_1
    try clear hcz9_0
    try clear hcz9_1
    try clear hfz11_0
    try clear hfz11_1
    try clear hfz13_0
    try clear hfz13_1
    try clear hfz18_0
    try clear hfz18_1
    try clear hfz20_0
    try clear hfz20_1
    try clear hfz9_0
    try clear hfz9_1
    try clear p2
    obtain ⟨x9_2, x10_2, rfl, rfl, HA, HK2, HO_7, HO_8, BK635, HB⟩ := hrel
    cases gk with
    | zero => exact absurd HA.out (by simp [spec_ApartBits.l0])
    | succ k2 =>
     have H := HA.out
     clear HA
     simp only [spec_ApartBits.l0] at H
     by_cases c22 : x10_2 < (t638.length : Int)
     case neg =>
      rw [if_neg c22] at H
      have c22b0 : decide (x10_2 < (t638.length : Int)) = false := decide_eq_false c22
      clear c22
      obtain rfl := Option.some.inj H
      obtain ⟨Ao30, co30, eo30⟩ := Kd.R_slice HO_7.out
      subst eo30
      go_wp2
      repeat (go_quiet (fail); try go_wp2)
      go_ret
      exact ⟨rz, bz1 HB GE635⟩
     rw [if_pos c22] at H
     have c22b0 : decide (x10_2 < (t638.length : Int)) = true := decide_eq_true c22
     clear c22
     by_cases c23 : 0 ≤ x10_2
     case neg =>
      rw [if_neg c23] at H
      exact absurd H (by simp)
     rw [if_pos c23] at H
     have c23b0 : decide (0 ≤ x10_2) = true := decide_eq_true c23
     clear c23
     by_cases c24 : x10_2 < (t641.length : Int)
     case neg =>
      rw [if_neg c24] at H
      exact absurd H (by simp)
     rw [if_pos c24] at H
     have c24b0 : decide (x10_2 < (t641.length : Int)) = true := decide_eq_true c24
     clear c24
     by_cases c25 : (rd t638 x10_2) = (rd t641 x10_2)
     case pos =>
      rw [if_pos c25] at H
      have c25b0 : ((rd t638 x10_2) == (rd t641 x10_2)) = true := beq_iff_eq.mpr c25
      have c25b1 : ((rd t638 x10_2) != (rd t641 x10_2)) = false := bne_eq_false_iff_eq.mpr c25
      clear c25
      have H' := Aside0.mk H
      clear H
      obtain ⟨Ao26, co26, eo26⟩ := Kd.R_slice HO_7.out
      subst eo26
      have p644 : 0 ≤ (x10_2 : Int) := dz
      have q644 : x10_2 < (t638.length : Int) := dz
      obtain ⟨ad644, e644, hx644_0⟩ := Kd.at_int (Kd.R_reads' HO_7.out).2.2 x10_2 p644 q644
      cases e644
      replace p644 := eq_true p644
      replace q644 := eq_true q644
      obtain ⟨Ao27, co27, eo27⟩ := Kd.R_slice HO_8.out
      subst eo27
      have p645 : 0 ≤ (x10_2 : Int) := dz
      have q645 : x10_2 < (t641.length : Int) := dz
      obtain ⟨ad645, e645, hx645_0⟩ := Kd.at_int (Kd.R_reads' HO_8.out).2.2 x10_2 p645 q645
      cases e645
      replace p645 := eq_true p645
      replace q645 := eq_true q645
      go_wp2
      repeat (go_quiet (fail); try go_wp2)
      go_roundg k2
      case measure => have := HJ3.out; have := HK2.out; omega
      case rel => exact ⟨(x9_2), (wrap64 (x10_2 + 1)), rq, rq, H', ⟨by have := HJ3.out; have := HK2.out; omega⟩, ⟨ozR HO_7⟩, ⟨ozR HO_8⟩, ⟨kz BK635⟩, ⟨bz1 HB GE635⟩⟩
     rw [if_neg c25] at H
     have c25b0 : ((rd t638 x10_2) == (rd t641 x10_2)) = false := beq_eq_false_iff_ne.mpr c25
     have c25b1 : ((rd t638 x10_2) != (rd t641 x10_2)) = true := bne_iff_ne.mpr c25
     have H' := Aside0.mk H
     clear H
     obtain ⟨Ao28, co28, eo28⟩ := Kd.R_slice HO_7.out
     subst eo28
     have p644 : 0 ≤ (x10_2 : Int) := dz
     have q644 : x10_2 < (t638.length : Int) := dz
     obtain ⟨ad644, e644, hx644_0⟩ := Kd.at_int (Kd.R_reads' HO_7.out).2.2 x10_2 p644 q644
     cases e644
     replace p644 := eq_true p644
     replace q644 := eq_true q644
     obtain ⟨Ao29, co29, eo29⟩ := Kd.R_slice HO_8.out
     subst eo29
     have p645 : 0 ≤ (x10_2 : Int) := dz
     have q645 : x10_2 < (t641.length : Int) := dz
     obtain ⟨ad645, e645, hx645_0⟩ := Kd.at_int (Kd.R_reads' HO_8.out).2.2 x10_2 p645 q645
     cases e645
     replace p645 := eq_true p645
     replace q645 := eq_true q645
     go_wp2
     repeat (go_quiet (fail); try go_wp2)
     go_roundg k2
     case measure => have := HJ3.out; have := HK2.out; omega
     case rel => exact ⟨(wrap64 (x9_2 + 1)), (wrap64 (x10_2 + 1)), rq, rq, H', ⟨by have := HJ3.out; have := HK2.out; omega⟩, ⟨ozR HO_7⟩, ⟨ozR HO_8⟩, ⟨kz BK635⟩, ⟨bz1 HB GE635⟩⟩
end Go.Proofs.Ytoofhjflfpccdaa.PA
end
