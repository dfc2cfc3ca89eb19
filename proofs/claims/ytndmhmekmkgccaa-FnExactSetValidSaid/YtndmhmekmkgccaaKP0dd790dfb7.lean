/- Walks of Go functions: each is shown to answer as the Lean function beside it tells, under the conditions that its theorem names. -/
import Derived.Test.YtndmhmekmkgccaaKPd4c36a10b8
import Derived.Test.YtndmhmekmkgccaaKP190196a8cd
section
namespace Go.Proofs.Ytndmhmekmkgccaa.PFnExactSetValid
open Go.RowKit Go.Proofs.YtndmhmekmkgccaaW.PrintWords Go.Proofs.YtndmhmekmkgccaaW.PrintLast Go.Proofs.YtndmhmekmkgccaaW.PrintMore
attribute [local go_sem] max2_int min2_int max_two min_two max_three min_three max_four min_four   -- for this text's walks alone
set_option linter.unusedVariables false
set_option linter.unusedSimpArgs false
set_option maxHeartbeats 8000000 in
set_option maxRecDepth 100000 in
theorem spec_l1Kind.calls (k : Nat) (a0_0 : Int) (a0_1 : Int) (a0_2 : Int) (a0_3 : Int) (A1 : Option Addr) (c1 : Nat) (l1 : List Int) (a2 : Int) (r : Int) (w : World) (hr1 : Kd.C (Kd.int .i64) w A1 l1.length l1) (hc1 : l1.length ≤ c1) (h : spec_l1Kind.f k a0_0 a0_1 a0_2 a0_3 l1 a2 = some r) :
  Calls Try.prog 167 #[.agg #[.int .i64 a0_0, .int .i64 a0_1, .int .i64 a0_2, .int .i64 a0_3], .slice A1 l1.length c1, .int .i64 a2] w fun e w' => e = .returned (.int .i64 r) ∧ Below w.heap.size w w' := by
 have hu107 := Try.underlying107
 have HR1 := Aside0.mk hr1
 have HC1 := Aside0.mk hc1
 clear hr1 hc1
 have HB := Aside0.mk (Below.refl w.heap.size w)
 have H : (if a0_0 = 0 then ((spec_l1In.f a0_1 (-9999) 9999).bind fun t215 => (if t215 = true then (if a0_2 = 0 then (spec_l1Kind.j0 k l1 a2 (a0_3 == 0) a0_0 a0_1 a0_2 a0_3) else (spec_l1Kind.j0 k l1 a2 false a0_0 a0_1 a0_2 a0_3)) else (spec_l1Kind.j0 k l1 a2 false a0_0 a0_1 a0_2 a0_3))) else (spec_l1Kind.j0 k l1 a2 false a0_0 a0_1 a0_2 a0_3)) = some r := h
 clear h
 have HC4 := Aside0.mk H
 clear H
 go_enter Try.func167, Try.ntmps167
 go_upto_region 1 with (first | ((with_reducible refine gate_dst (N := 3) rfl ?_); (try (refine gate_guard (by rfl) ?_; dsimp only)); refine box_event ?hg (N := 3) ?hd (cs := #[.int .i64 a0_0, .int .i64 a0_1, .int .i64 a0_2, .int .i64 a0_3]) (t := 107) ?hr ?_; (case hd => rfl); (case hg => rfl); (case hr => first | (go_simp; done) | (go_simp; rfl)); intro gb214 hg w5 hbox hb; have n0_ := Aside0.mk (below_step (bz HB) hb); have n1_ := Aside0.mk (hbox); have n2_ := Aside0.mk ((by rw [hg]; exact (below_size (bz HB)) : w.heap.size ≤ gb214)); have n3_ := Aside0.mk ((by rw [hg]; exact (below_size (bz HB)) : w.heap.size ≤ gb214)); clear HB; have HB := n0_; have BK214 := n1_; have GW214 := n2_; have GE214 := n3_; clear n0_ n1_ n2_ n3_; clear hb hbox hg))
 (try simp only [Act.put, sb_, sc0_, sc1_])
 go_cut [25] (fun v25 wc => ∃ (kq : Nat) (x25_3 : Bool), v25 = .bool x25_3 ∧ Aside0 (spec_l1Kind.j0 kq l1 a2 x25_3 a0_0 a0_1 a0_2 a0_3 = some r) ∧ Aside0 (kq ≤ k) ∧ Aside0 (wc.heap[gb214]? = some (.cells #[.int .i64 a0_0, .int .i64 a0_1, .int .i64 a0_2, .int .i64 a0_3] 107 (0, 0))) ∧ Aside0 (Below w.heap.size w wc))
 case first =>
  have H := HC4.out
  clear HC4
  by_cases c6 : a0_0 = 0
  ·
   rw [if_pos c6] at H
   have c6b0 : (a0_0 == 0) = true := beq_iff_eq.mpr c6
   have c6b1 : (a0_0 != 0) = false := bne_eq_false_iff_eq.mpr c6
   clear c6
   (first | rw [c6b0] | (simp only [i64_w, i32_w]; rw [c6b0]) | skip)
   replace H := Option.bind_eq_some_iff.mp H
   obtain ⟨t215, A70, H⟩ := H
   have A7 := Aside0.mk A70
   clear A70
   by_cases c8 : t215 = true
   ·
    subst c8
    rw [if_pos rfl] at H
    by_cases c9 : a0_2 = 0
    ·
     rw [if_pos c9] at H
     have c9b0 : (a0_2 == 0) = true := beq_iff_eq.mpr c9
     have c9b1 : (a0_2 != 0) = false := bne_eq_false_iff_eq.mpr c9
     clear c9
     have H' := Aside0.mk H
     clear H
     have hcz10_0 : w5.cell? ⟨gb214, 0, none⟩ = some (.int .i64 a0_0) := (blk_cell BK214.out 0).trans rfl
     have hcz10_1 : w5.cell? ⟨gb214, 1, none⟩ = some (.int .i64 a0_1) := (blk_cell BK214.out 1).trans rfl
     have hcz10_2 : w5.cell? ⟨gb214, 2, none⟩ = some (.int .i64 a0_2) := (blk_cell BK214.out 2).trans rfl
     have hcz10_3 : w5.cell? ⟨gb214, 3, none⟩ = some (.int .i64 a0_3) := (blk_cell BK214.out 3).trans rfl
     have hfz10_0 := blk_frozen BK214.out 0
     have hfz10_1 := blk_frozen BK214.out 1
     have hfz10_2 := blk_frozen BK214.out 2
     have hfz10_3 := blk_frozen BK214.out 3
     go_wp2_with (first | (go_at_call 92; (with_reducible refine (spec_l1In.calls a0_1 (-9999) 9999 true _ A7.out).mono ?_); rintro e w' ⟨rfl, ⟨nd, rfl⟩⟩))
     go_meet
     case rel => exact ⟨_, ((a0_3 == 0)), rq, H', ⟨by first | omega | exact Nat.le_refl _⟩, ⟨kz BK214⟩, ⟨bz1 HB GE214⟩⟩
    ·
     rw [if_neg c9] at H
     have c9b0 : (a0_2 == 0) = false := beq_eq_false_iff_ne.mpr c9
     have c9b1 : (a0_2 != 0) = true := bne_iff_ne.mpr c9
     have H' := Aside0.mk H
     clear H
     have hcz11_0 : w5.cell? ⟨gb214, 0, none⟩ = some (.int .i64 a0_0) := (blk_cell BK214.out 0).trans rfl
     have hcz11_1 : w5.cell? ⟨gb214, 1, none⟩ = some (.int .i64 a0_1) := (blk_cell BK214.out 1).trans rfl
     have hcz11_2 : w5.cell? ⟨gb214, 2, none⟩ = some (.int .i64 a0_2) := (blk_cell BK214.out 2).trans rfl
     have hcz11_3 : w5.cell? ⟨gb214, 3, none⟩ = some (.int .i64 a0_3) := (blk_cell BK214.out 3).trans rfl
     have hfz11_0 := blk_frozen BK214.out 0
     have hfz11_1 := blk_frozen BK214.out 1
     have hfz11_2 := blk_frozen BK214.out 2
     have hfz11_3 := blk_frozen BK214.out 3
     go_wp2_with (first | (go_at_call 92; (with_reducible refine (spec_l1In.calls a0_1 (-9999) 9999 true _ A7.out).mono ?_); rintro e w' ⟨rfl, ⟨nd, rfl⟩⟩))
     go_meet
     case rel => exact ⟨_, (false), rq, H', ⟨by first | omega | exact Nat.le_refl _⟩, ⟨kz BK214⟩, ⟨bz1 HB GE214⟩⟩
   ·
    replace c8 := Bool.eq_false_iff.mpr c8
    subst c8
    rw [if_neg nt_] at H
    have H' := Aside0.mk H
    clear H
    have hcz12_0 : w5.cell? ⟨gb214, 0, none⟩ = some (.int .i64 a0_0) := (blk_cell BK214.out 0).trans rfl
    have hcz12_1 : w5.cell? ⟨gb214, 1, none⟩ = some (.int .i64 a0_1) := (blk_cell BK214.out 1).trans rfl
    have hcz12_2 : w5.cell? ⟨gb214, 2, none⟩ = some (.int .i64 a0_2) := (blk_cell BK214.out 2).trans rfl
    have hcz12_3 : w5.cell? ⟨gb214, 3, none⟩ = some (.int .i64 a0_3) := (blk_cell BK214.out 3).trans rfl
    have hfz12_0 := blk_frozen BK214.out 0
    have hfz12_1 := blk_frozen BK214.out 1
    have hfz12_2 := blk_frozen BK214.out 2
    have hfz12_3 := blk_frozen BK214.out 3
    go_wp2_with (first | (go_at_call 92; (with_reducible refine (spec_l1In.calls a0_1 (-9999) 9999 false _ A7.out).mono ?_); rintro e w' ⟨rfl, ⟨nd, rfl⟩⟩))
    go_meet
    case rel => exact ⟨_, (false), rq, H', ⟨by first | omega | exact Nat.le_refl _⟩, ⟨kz BK214⟩, ⟨bz1 HB GE214⟩⟩
  ·
   rw [if_neg c6] at H
   have c6b0 : (a0_0 == 0) = false := beq_eq_false_iff_ne.mpr c6
   have c6b1 : (a0_0 != 0) = true := bne_iff_ne.mpr c6
   (first | rw [c6b0] | (simp only [i64_w, i32_w]; rw [c6b0]) | skip)
   have H' := Aside0.mk H
   clear H
   have hcz13_0 : w5.cell? ⟨gb214, 0, none⟩ = some (.int .i64 a0_0) := (blk_cell BK214.out 0).trans rfl
   have hcz13_1 : w5.cell? ⟨gb214, 1, none⟩ = some (.int .i64 a0_1) := (blk_cell BK214.out 1).trans rfl
   have hcz13_2 : w5.cell? ⟨gb214, 2, none⟩ = some (.int .i64 a0_2) := (blk_cell BK214.out 2).trans rfl
   have hcz13_3 : w5.cell? ⟨gb214, 3, none⟩ = some (.int .i64 a0_3) := (blk_cell BK214.out 3).trans rfl
   have hfz13_0 := blk_frozen BK214.out 0
   have hfz13_1 := blk_frozen BK214.out 1
   have hfz13_2 := blk_frozen BK214.out 2
   have hfz13_3 := blk_frozen BK214.out 3
   go_wp2
   go_meet
   case rel => exact ⟨_, (false), rq, H', ⟨by first | omega | exact Nat.le_refl _⟩, ⟨kz BK214⟩, ⟨bz1 HB GE214⟩⟩
 case rest =>
  clear HC4
  try clear c1
  try clear p2
  try clear c6
  try clear c6b0
  try clear c6b1
  try clear c8
  try clear c9
  try clear c9b0
  try clear c9b1
  try clear hcz10_0
  try clear hcz10_1
  try clear hcz10_2
  try clear hcz10_3
  try clear hcz11_0
  try clear hcz11_1
  try clear hcz11_2
  try clear hcz11_3
  try clear hcz12_0
  try clear hcz12_1
  try clear hcz12_2
  try clear hcz12_3
  try clear hcz13_0
  try clear hcz13_1
  try clear hcz13_2
  try clear hcz13_3
  try clear hfz10_0
  try clear hfz10_1
  try clear hfz10_2
  try clear hfz10_3
  try clear hfz11_0
  try clear hfz11_1
  try clear hfz11_2
  try clear hfz11_3
  try clear hfz12_0
  try clear hfz12_1
  try clear hfz12_2
  try clear hfz12_3
  try clear hfz13_0
  try clear hfz13_1
  try clear hfz13_2
  try clear hfz13_3
  obtain ⟨kq, x25_3, rfl, HA, HJ3, BK214, HB⟩ := hcut
  cases kq with
  | zero => exact absurd HA.out (by simp [spec_l1Kind.j0])
  | succ kj3 =>
   have H := HA.out
   clear HA
   simp only [spec_l1Kind.j0] at H
   by_cases c14 : x25_3 = true
   ·
    subst c14
    rw [if_pos rfl] at H
    obtain rfl := Option.some.inj H
    go_wp2
    go_ret
    exact ⟨rz, bz1 HB GE214⟩
   ·
    replace c14 := Bool.eq_false_iff.mpr c14
    subst c14
    rw [if_neg nt_] at H
    have HC15 := Aside0.mk H
    clear H
    go_upto_region 3 with (fail)
    go_cut [45] (fun v45 wc => ∃ (kq : Nat) (x45_14 : Bool), v45 = .bool x45_14 ∧ Aside0 (spec_l1Kind.j1 kq l1 x45_14 a0_0 a0_1 a0_2 a0_3 = some r) ∧ Aside0 (kq ≤ kj3) ∧ Aside0 (wc.heap[gb214]? = some (.cells #[.int .i64 a0_0, .int .i64 a0_1, .int .i64 a0_2, .int .i64 a0_3] 107 (0, 0))) ∧ Aside0 (Below w.heap.size w wc))
    case first =>
     have H := HC15.out
     clear HC15
     by_cases c16 : a0_0 = 1
     ·
      rw [if_pos c16] at H
      have c16b0 : (a0_0 == 1) = true := beq_iff_eq.mpr c16
      have c16b1 : (a0_0 != 1) = false := bne_eq_false_iff_eq.mpr c16
      clear c16
      (first | rw [c16b0] | (simp only [i64_w, i32_w]; rw [c16b0]) | skip)
      replace H := Option.bind_eq_some_iff.mp H
      obtain ⟨t216, A170, H⟩ := H
      have A17 := Aside0.mk A170
      clear A170
      by_cases c18 : t216 = true
      ·
       subst c18
       rw [if_pos rfl] at H
       by_cases c19 : a0_2 = 0
       ·
        rw [if_pos c19] at H
        have c19b0 : (a0_2 == 0) = true := beq_iff_eq.mpr c19
        have c19b1 : (a0_2 != 0) = false := bne_eq_false_iff_eq.mpr c19
        clear c19
        have H' := Aside0.mk H
        clear H
        have hcz20_0 : wc.cell? ⟨gb214, 0, none⟩ = some (.int .i64 a0_0) := (blk_cell BK214.out 0).trans rfl
        have hcz20_1 : wc.cell? ⟨gb214, 1, none⟩ = some (.int .i64 a0_1) := (blk_cell BK214.out 1).trans rfl
        have hcz20_2 : wc.cell? ⟨gb214, 2, none⟩ = some (.int .i64 a0_2) := (blk_cell BK214.out 2).trans rfl
        have hcz20_3 : wc.cell? ⟨gb214, 3, none⟩ = some (.int .i64 a0_3) := (blk_cell BK214.out 3).trans rfl
        have hfz20_0 := blk_frozen BK214.out 0
        have hfz20_1 := blk_frozen BK214.out 1
        have hfz20_2 := blk_frozen BK214.out 2
        have hfz20_3 := blk_frozen BK214.out 3
        go_wp2_with (first | (go_at_call 92; (with_reducible refine (spec_l1In.calls a0_1 0 (wrap64 (a2 - 1)) true _ A17.out).mono ?_); rintro e w' ⟨rfl, ⟨nd, rfl⟩⟩))
        go_meet
        case rel => exact ⟨_, ((a0_3 == 0)), rq, H', ⟨by have := HJ3.out; first | omega | exact Nat.le_refl _⟩, ⟨kz BK214⟩, ⟨bz1 HB GE214⟩⟩
       ·
        rw [if_neg c19] at H
        have c19b0 : (a0_2 == 0) = false := beq_eq_false_iff_ne.mpr c19
        have c19b1 : (a0_2 != 0) = true := bne_iff_ne.mpr c19
        have H' := Aside0.mk H
        clear H
        have hcz21_0 : wc.cell? ⟨gb214, 0, none⟩ = some (.int .i64 a0_0) := (blk_cell BK214.out 0).trans rfl
        have hcz21_1 : wc.cell? ⟨gb214, 1, none⟩ = some (.int .i64 a0_1) := (blk_cell BK214.out 1).trans rfl
        have hcz21_2 : wc.cell? ⟨gb214, 2, none⟩ = some (.int .i64 a0_2) := (blk_cell BK214.out 2).trans rfl
        have hcz21_3 : wc.cell? ⟨gb214, 3, none⟩ = some (.int .i64 a0_3) := (blk_cell BK214.out 3).trans rfl
        have hfz21_0 := blk_frozen BK214.out 0
        have hfz21_1 := blk_frozen BK214.out 1
        have hfz21_2 := blk_frozen BK214.out 2
        have hfz21_3 := blk_frozen BK214.out 3
        go_wp2_with (first | (go_at_call 92; (with_reducible refine (spec_l1In.calls a0_1 0 (wrap64 (a2 - 1)) true _ A17.out).mono ?_); rintro e w' ⟨rfl, ⟨nd, rfl⟩⟩))
        go_meet
        case rel => exact ⟨_, (false), rq, H', ⟨by have := HJ3.out; first | omega | exact Nat.le_refl _⟩, ⟨kz BK214⟩, ⟨bz1 HB GE214⟩⟩
      ·
       replace c18 := Bool.eq_false_iff.mpr c18
       subst c18
       rw [if_neg nt_] at H
       have H' := Aside0.mk H
       clear H
       have hcz22_0 : wc.cell? ⟨gb214, 0, none⟩ = some (.int .i64 a0_0) := (blk_cell BK214.out 0).trans rfl
       have hcz22_1 : wc.cell? ⟨gb214, 1, none⟩ = some (.int .i64 a0_1) := (blk_cell BK214.out 1).trans rfl
       have hcz22_2 : wc.cell? ⟨gb214, 2, none⟩ = some (.int .i64 a0_2) := (blk_cell BK214.out 2).trans rfl
       have hcz22_3 : wc.cell? ⟨gb214, 3, none⟩ = some (.int .i64 a0_3) := (blk_cell BK214.out 3).trans rfl
       have hfz22_0 := blk_frozen BK214.out 0
       have hfz22_1 := blk_frozen BK214.out 1
       have hfz22_2 := blk_frozen BK214.out 2
       have hfz22_3 := blk_frozen BK214.out 3
       go_wp2_with (first | (go_at_call 92; (with_reducible refine (spec_l1In.calls a0_1 0 (wrap64 (a2 - 1)) false _ A17.out).mono ?_); rintro e w' ⟨rfl, ⟨nd, rfl⟩⟩))
       go_meet
       case rel => exact ⟨_, (false), rq, H', ⟨by have := HJ3.out; first | omega | exact Nat.le_refl _⟩, ⟨kz BK214⟩, ⟨bz1 HB GE214⟩⟩
     ·
      rw [if_neg c16] at H
      have c16b0 : (a0_0 == 1) = false := beq_eq_false_iff_ne.mpr c16
      have c16b1 : (a0_0 != 1) = true := bne_iff_ne.mpr c16
      (first | rw [c16b0] | (simp only [i64_w, i32_w]; rw [c16b0]) | skip)
      have H' := Aside0.mk H
      clear H
      have hcz23_0 : wc.cell? ⟨gb214, 0, none⟩ = some (.int .i64 a0_0) := (blk_cell BK214.out 0).trans rfl
      have hcz23_1 : wc.cell? ⟨gb214, 1, none⟩ = some (.int .i64 a0_1) := (blk_cell BK214.out 1).trans rfl
      have hcz23_2 : wc.cell? ⟨gb214, 2, none⟩ = some (.int .i64 a0_2) := (blk_cell BK214.out 2).trans rfl
      have hcz23_3 : wc.cell? ⟨gb214, 3, none⟩ = some (.int .i64 a0_3) := (blk_cell BK214.out 3).trans rfl
      have hfz23_0 := blk_frozen BK214.out 0
      have hfz23_1 := blk_frozen BK214.out 1
      have hfz23_2 := blk_frozen BK214.out 2
      have hfz23_3 := blk_frozen BK214.out 3
      go_wp2
      go_meet
      case rel => exact ⟨_, (false), rq, H', ⟨by have := HJ3.out; first | omega | exact Nat.le_refl _⟩, ⟨kz BK214⟩, ⟨bz1 HB GE214⟩⟩
    case rest =>
     clear HC15
     try clear c1
     try clear p2
     try clear c6
     try clear c6b0
     try clear c6b1
     try clear p6
     try clear c8
     try clear c9
     try clear c9b0
     try clear c9b1
     try clear c14
     try clear c16
     try clear c16b0
     try clear c16b1
     try clear c18
     try clear c19
     try clear c19b0
     try clear c19b1
     try clear hcz10_0
     try clear hcz10_1
     try clear hcz10_2
     try clear hcz10_3
     try clear hcz11_0
     try clear hcz11_1
     try clear hcz11_2
     try clear hcz11_3
     try clear hcz12_0
     try clear hcz12_1
     try clear hcz12_2
     try clear hcz12_3
     try clear hcz13_0
     try clear hcz13_1
     try clear hcz13_2
     try clear hcz13_3
     try clear hcz20_0
     try clear hcz20_1
     try clear hcz20_2
     try clear hcz20_3
     try clear hcz21_0
     try clear hcz21_1
     try clear hcz21_2
     try clear hcz21_3
     try clear hcz22_0
     try clear hcz22_1
     try clear hcz22_2
     try clear hcz22_3
     try clear hcz23_0
     try clear hcz23_1
     try clear hcz23_2
     try clear hcz23_3
     try clear hfz10_0
     try clear hfz10_1
     try clear hfz10_2
     try clear hfz10_3
     try clear hfz11_0
     try clear hfz11_1
     try clear hfz11_2
     try clear hfz11_3
     try clear hfz12_0
     try clear hfz12_1
     try clear hfz12_2
     try clear hfz12_3
     try clear hfz13_0
     try clear hfz13_1
     try clear hfz13_2
     try clear hfz13_3
     try clear hfz20_0
     try clear hfz20_1
     try clear hfz20_2
     try clear hfz20_3
     try clear hfz21_0
     try clear hfz21_1
     try clear hfz21_2
     try clear hfz21_3
     try clear hfz22_0
     try clear hfz22_1
     try clear hfz22_2
     try clear hfz22_3
     try clear hfz23_0
     try clear hfz23_1
     try clear hfz23_2
     try clear hfz23_3
     try clear p2
     obtain ⟨kq, x45_14, rfl, HA, HJ14, BK214, HB⟩ := hcut
     cases kq with
     | zero => exact absurd HA.out (by simp [spec_l1Kind.j1])
     | succ kj14 =>
      have H := HA.out
      clear HA
      simp only [spec_l1Kind.j1] at H
      by_cases c24 : x45_14 = true
      ·
       subst c24
       rw [if_pos rfl] at H
       obtain rfl := Option.some.inj H
       go_wp2
       go_ret
       exact ⟨rz, bz1 HB GE214⟩
      ·
       replace c24 := Bool.eq_false_iff.mpr c24
       subst c24
       rw [if_neg nt_] at H
       have HC25 := Aside0.mk H
       clear H
       go_upto_region 5 with (fail)
       go_cut [72] (fun v72 wc => ∃ (kq : Nat) (x72_24 : Bool), v72 = .bool x72_24 ∧ Aside0 (spec_l1Kind.j2 kq l1 x72_24 a0_0 a0_1 a0_2 a0_3 = some r) ∧ Aside0 (kq ≤ kj14) ∧ Aside0 (wc.heap[gb214]? = some (.cells #[.int .i64 a0_0, .int .i64 a0_1, .int .i64 a0_2, .int .i64 a0_3] 107 (0, 0))) ∧ Aside0 (Below w.heap.size w wc))
       case first =>
        have H := HC25.out
        clear HC25
        replace H := Option.bind_eq_some_iff.mp H
        obtain ⟨t217, A260, H⟩ := H
        have A26 := Aside0.mk A260
        clear A260
        by_cases c27 : t217 = true
        ·
         subst c27
         rw [if_pos rfl] at H
         by_cases c28 : a0_1 = 0
         ·
          rw [if_pos c28] at H
          have c28b0 : (a0_1 == 0) = true := beq_iff_eq.mpr c28
          have c28b1 : (a0_1 != 0) = false := bne_eq_false_iff_eq.mpr c28
          clear c28
          (first | rw [c28b0] | (simp only [i64_w, i32_w]; rw [c28b0]) | skip)
          replace H := Option.bind_eq_some_iff.mp H
          obtain ⟨t218, A290, H⟩ := H
          have A29 := Aside0.mk A290
          clear A290
          by_cases c30 : t218 = true
          ·
           subst c30
           rw [if_pos rfl] at H
           replace H := Option.bind_eq_some_iff.mp H
           obtain ⟨t219, A310, H⟩ := H
           have A31 := Aside0.mk A310
           clear A310
           have H' := Aside0.mk H
           clear H
           have hcz32_0 : wc.cell? ⟨gb214, 0, none⟩ = some (.int .i64 a0_0) := (blk_cell BK214.out 0).trans rfl
           have hcz32_1 : wc.cell? ⟨gb214, 1, none⟩ = some (.int .i64 a0_1) := (blk_cell BK214.out 1).trans rfl
           have hcz32_2 : wc.cell? ⟨gb214, 2, none⟩ = some (.int .i64 a0_2) := (blk_cell BK214.out 2).trans rfl
           have hcz32_3 : wc.cell? ⟨gb214, 3, none⟩ = some (.int .i64 a0_3) := (blk_cell BK214.out 3).trans rfl
           have hfz32_0 := blk_frozen BK214.out 0
           have hfz32_1 := blk_frozen BK214.out 1
           have hfz32_2 := blk_frozen BK214.out 2
           have hfz32_3 := blk_frozen BK214.out 3
           go_wp2_with (first | ((with_reducible refine gate_callee (f := 92) rfl ?_); refine goesL_ (some 48) rfl rfl Try.func92 (by kernel_rfl) rfl #[.int .i64 a0_0, .int .i64 2, .int .i64 9] rfl az ?_; (with_reducible refine (spec_l1In.calls a0_0 2 9 true _ A26.out).mono ?_); rintro e w' ⟨rfl, ⟨nd, rfl⟩⟩; refine ⟨_, rfl, ?_⟩) | (go_at_call 92; (with_reducible refine (spec_l1In.calls a0_2 0 (wrap64 ((l1.length : Int) - 1)) true _ A29.out).mono ?_); rintro e w' ⟨rfl, ⟨nd, rfl⟩⟩) | (go_at_call 92; (with_reducible refine (spec_l1In.calls a0_3 0 (wrap64 ((l1.length : Int) - 1)) t219 _ A31.out).mono ?_); rintro e w' ⟨rfl, ⟨nd, rfl⟩⟩))
           go_meet
           case rel => exact ⟨_, (!t219), rq, H', ⟨by have := HJ3.out; have := HJ14.out; first | omega | exact Nat.le_refl _⟩, ⟨kz BK214⟩, ⟨bz1 HB GE214⟩⟩
          ·
           replace c30 := Bool.eq_false_iff.mpr c30
           subst c30
           rw [if_neg nt_] at H
           have H' := Aside0.mk H
           clear H
           have hcz33_0 : wc.cell? ⟨gb214, 0, none⟩ = some (.int .i64 a0_0) := (blk_cell BK214.out 0).trans rfl
           have hcz33_1 : wc.cell? ⟨gb214, 1, none⟩ = some (.int .i64 a0_1) := (blk_cell BK214.out 1).trans rfl
           have hcz33_2 : wc.cell? ⟨gb214, 2, none⟩ = some (.int .i64 a0_2) := (blk_cell BK214.out 2).trans rfl
           have hcz33_3 : wc.cell? ⟨gb214, 3, none⟩ = some (.int .i64 a0_3) := (blk_cell BK214.out 3).trans rfl
           have hfz33_0 := blk_frozen BK214.out 0
           have hfz33_1 := blk_frozen BK214.out 1
           have hfz33_2 := blk_frozen BK214.out 2
           have hfz33_3 := blk_frozen BK214.out 3
           go_wp2_with (first | ((with_reducible refine gate_callee (f := 92) rfl ?_); refine goesL_ (some 48) rfl rfl Try.func92 (by kernel_rfl) rfl #[.int .i64 a0_0, .int .i64 2, .int .i64 9] rfl az ?_; (with_reducible refine (spec_l1In.calls a0_0 2 9 true _ A26.out).mono ?_); rintro e w' ⟨rfl, ⟨nd, rfl⟩⟩; refine ⟨_, rfl, ?_⟩) | (go_at_call 92; (with_reducible refine (spec_l1In.calls a0_2 0 (wrap64 ((l1.length : Int) - 1)) false _ A29.out).mono ?_); rintro e w' ⟨rfl, ⟨nd, rfl⟩⟩))
           go_meet
           case rel => exact ⟨_, (true), rq, H', ⟨by have := HJ3.out; have := HJ14.out; first | omega | exact Nat.le_refl _⟩, ⟨kz BK214⟩, ⟨bz1 HB GE214⟩⟩
         ·
          rw [if_neg c28] at H
          have c28b0 : (a0_1 == 0) = false := beq_eq_false_iff_ne.mpr c28
          have c28b1 : (a0_1 != 0) = true := bne_iff_ne.mpr c28
          (first | rw [c28b0] | (simp only [i64_w, i32_w]; rw [c28b0]) | skip)
          have H' := Aside0.mk H
          clear H
          have hcz34_0 : wc.cell? ⟨gb214, 0, none⟩ = some (.int .i64 a0_0) := (blk_cell BK214.out 0).trans rfl
          have hcz34_1 : wc.cell? ⟨gb214, 1, none⟩ = some (.int .i64 a0_1) := (blk_cell BK214.out 1).trans rfl
          have hcz34_2 : wc.cell? ⟨gb214, 2, none⟩ = some (.int .i64 a0_2) := (blk_cell BK214.out 2).trans rfl
          have hcz34_3 : wc.cell? ⟨gb214, 3, none⟩ = some (.int .i64 a0_3) := (blk_cell BK214.out 3).trans rfl
          have hfz34_0 := blk_frozen BK214.out 0
          have hfz34_1 := blk_frozen BK214.out 1
          have hfz34_2 := blk_frozen BK214.out 2
          have hfz34_3 := blk_frozen BK214.out 3
          go_wp2_with (first | ((with_reducible refine gate_callee (f := 92) rfl ?_); refine goesL_ (some 48) rfl rfl Try.func92 (by kernel_rfl) rfl #[.int .i64 a0_0, .int .i64 2, .int .i64 9] rfl az ?_; (with_reducible refine (spec_l1In.calls a0_0 2 9 true _ A26.out).mono ?_); rintro e w' ⟨rfl, ⟨nd, rfl⟩⟩; refine ⟨_, rfl, ?_⟩))
          go_meet
          case rel => exact ⟨_, (true), rq, H', ⟨by have := HJ3.out; have := HJ14.out; first | omega | exact Nat.le_refl _⟩, ⟨kz BK214⟩, ⟨bz1 HB GE214⟩⟩
        ·
         replace c27 := Bool.eq_false_iff.mpr c27
         subst c27
         rw [if_neg nt_] at H
         have H' := Aside0.mk H
         clear H
         have hcz35_0 : wc.cell? ⟨gb214, 0, none⟩ = some (.int .i64 a0_0) := (blk_cell BK214.out 0).trans rfl
         have hcz35_1 : wc.cell? ⟨gb214, 1, none⟩ = some (.int .i64 a0_1) := (blk_cell BK214.out 1).trans rfl
         have hcz35_2 : wc.cell? ⟨gb214, 2, none⟩ = some (.int .i64 a0_2) := (blk_cell BK214.out 2).trans rfl
         have hcz35_3 : wc.cell? ⟨gb214, 3, none⟩ = some (.int .i64 a0_3) := (blk_cell BK214.out 3).trans rfl
         have hfz35_0 := blk_frozen BK214.out 0
         have hfz35_1 := blk_frozen BK214.out 1
         have hfz35_2 := blk_frozen BK214.out 2
         have hfz35_3 := blk_frozen BK214.out 3
         go_wp2_with (first | ((with_reducible refine gate_callee (f := 92) rfl ?_); refine goesL_ (some 48) rfl rfl Try.func92 (by kernel_rfl) rfl #[.int .i64 a0_0, .int .i64 2, .int .i64 9] rfl az ?_; (with_reducible refine (spec_l1In.calls a0_0 2 9 false _ A26.out).mono ?_); rintro e w' ⟨rfl, ⟨nd, rfl⟩⟩; refine ⟨_, rfl, ?_⟩))
         go_meet
         case rel => exact ⟨_, (true), rq, H', ⟨by have := HJ3.out; have := HJ14.out; first | omega | exact Nat.le_refl _⟩, ⟨kz BK214⟩, ⟨bz1 HB GE214⟩⟩
       case rest =>
        clear HC25
        try clear c1
        try clear c2
        try clear p2
        try clear c3
        try clear c6
        try clear c6b0
        try clear c6b1
        try clear p6
        try clear c8
        try clear c9
        try clear c9b0
        try clear c9b1
        try clear c14
        try clear c16
        try clear c16b0
        try clear c16b1
        try clear c18
        try clear c19
        try clear c19b0
        try clear c19b1
        try clear c24
        try clear c27
        try clear c28
        try clear c28b0
        try clear c28b1
        try clear c30
        try clear hcz10_0
        try clear hcz10_1
        try clear hcz10_2
        try clear hcz10_3
        try clear hcz11_0
        try clear hcz11_1
        try clear hcz11_2
        try clear hcz11_3
        try clear hcz12_0
        try clear hcz12_1
        try clear hcz12_2
        try clear hcz12_3
        try clear hcz13_0
        try clear hcz13_1
        try clear hcz13_2
        try clear hcz13_3
        try clear hcz20_0
        try clear hcz20_1
        try clear hcz20_2
        try clear hcz20_3
        try clear hcz21_0
        try clear hcz21_1
        try clear hcz21_2
        try clear hcz21_3
        try clear hcz22_0
        try clear hcz22_1
        try clear hcz22_2
        try clear hcz22_3
        try clear hcz23_0
        try clear hcz23_1
        try clear hcz23_2
        try clear hcz23_3
        try clear hcz32_0
        try clear hcz32_1
        try clear hcz32_2
        try clear hcz32_3
        try clear hcz33_0
        try clear hcz33_1
        try clear hcz33_2
        try clear hcz33_3
        try clear hcz34_0
        try clear hcz34_1
        try clear hcz34_2
        try clear hcz34_3
        try clear hcz35_0
        try clear hcz35_1
        try clear hcz35_2
        try clear hcz35_3
        try clear hfz10_0
        try clear hfz10_1
        try clear hfz10_2
        try clear hfz10_3
        try clear hfz11_0
        try clear hfz11_1
        try clear hfz11_2
        try clear hfz11_3
        try clear hfz12_0
        try clear hfz12_1
        try clear hfz12_2
        try clear hfz12_3
        try clear hfz13_0
        try clear hfz13_1
        try clear hfz13_2
        try clear hfz13_3
        try clear hfz20_0
        try clear hfz20_1
        try clear hfz20_2
        try clear hfz20_3
        try clear hfz21_0
        try clear hfz21_1
        try clear hfz21_2
        try clear hfz21_3
        try clear hfz22_0
        try clear hfz22_1
        try clear hfz22_2
        try clear hfz22_3
        try clear hfz23_0
        try clear hfz23_1
        try clear hfz23_2
        try clear hfz23_3
        try clear hfz32_0
        try clear hfz32_1
        try clear hfz32_2
        try clear hfz32_3
        try clear hfz33_0
        try clear hfz33_1
        try clear hfz33_2
        try clear hfz33_3
        try clear hfz34_0
        try clear hfz34_1
        try clear hfz34_2
        try clear hfz34_3
        try clear hfz35_0
        try clear hfz35_1
        try clear hfz35_2
        try clear hfz35_3
        try clear p2
        try clear p6
        obtain ⟨kq, x72_24, rfl, HA, HJ24, BK214, HB⟩ := hcut
        cases kq with
        | zero => exact absurd HA.out (by simp [spec_l1Kind.j2])
        | succ kj24 =>
         have H := HA.out
         clear HA
         simp only [spec_l1Kind.j2] at H
         by_cases c36 : x72_24 = true
         ·
          subst c36
          rw [if_pos rfl] at H
          obtain rfl := Option.some.inj H
          go_wp2
          go_ret
          exact ⟨rz, bz1 HB GE214⟩
         ·
          replace c36 := Bool.eq_false_iff.mpr c36
          subst c36
          rw [if_neg nt_] at H
          have HC37 := Aside0.mk H
          clear H
          have hcz38_0 : wc.cell? ⟨gb214, 0, none⟩ = some (.int .i64 a0_0) := (blk_cell BK214.out 0).trans rfl
          have hcz38_1 : wc.cell? ⟨gb214, 1, none⟩ = some (.int .i64 a0_1) := (blk_cell BK214.out 1).trans rfl
          have hcz38_2 : wc.cell? ⟨gb214, 2, none⟩ = some (.int .i64 a0_2) := (blk_cell BK214.out 2).trans rfl
          have hcz38_3 : wc.cell? ⟨gb214, 3, none⟩ = some (.int .i64 a0_3) := (blk_cell BK214.out 3).trans rfl
          have hfz38_0 := blk_frozen BK214.out 0
          have hfz38_1 := blk_frozen BK214.out 1
          have hfz38_2 := blk_frozen BK214.out 2
          have hfz38_3 := blk_frozen BK214.out 3
          go_upto_if 75 with (fail)
          go_cut [7] (fun v7 wc => ∃ (kq : Nat) (x7_36 : Int), v7 = .int .i64 x7_36 ∧ Aside0 (spec_l1Kind.j3 kq l1 x7_36 a0_0 a0_1 a0_2 a0_3 = some r) ∧ Aside0 (kq ≤ kj24) ∧ Aside0 (wc.heap[gb214]? = some (.cells #[.int .i64 a0_0, .int .i64 a0_1, .int .i64 a0_2, .int .i64 a0_3] 107 (0, 0))) ∧ Aside0 (Below w.heap.size w wc))
          case first =>
           have H := HC37.out
           clear HC37
           by_cases c39 : a0_0 ≥ 7
           ·
            rw [if_pos c39] at H
            have c39b0 : decide (7 ≤ a0_0) = true := decide_eq_true c39
            clear c39
            (first | rw [c39b0] | (simp only [i64_w, i32_w]; rw [c39b0]) | skip)
            have H' := Aside0.mk H
            clear H
            go_wp2
            go_meet
            case rel => exact ⟨_, (2), rq, H', ⟨by have := HJ3.out; have := HJ14.out; have := HJ24.out; first | omega | exact Nat.le_refl _⟩, ⟨kz BK214⟩, ⟨bz1 HB GE214⟩⟩
           ·
            rw [if_neg c39] at H
            have c39b0 : decide (7 ≤ a0_0) = false := decide_eq_false c39
            clear c39
            (first | rw [c39b0] | (simp only [i64_w, i32_w]; rw [c39b0]) | skip)
            have H' := Aside0.mk H
            clear H
            go_wp2
            go_meet
            case rel => exact ⟨_, (1), rq, H', ⟨by have := HJ3.out; have := HJ14.out; have := HJ24.out; first | omega | exact Nat.le_refl _⟩, ⟨kz BK214⟩, ⟨bz1 HB GE214⟩⟩
          case rest =>
           clear HC37
           try clear c1
           try clear c2
           try clear p2
           try clear c3
           try clear c6
           try clear c6b0
           try clear c6b1
           try clear p6
           try clear c8
           try clear c9
           try clear c9b0
           try clear c9b1
           try clear c14
           try clear c16
           try clear c16b0
           try clear c16b1
           try clear c18
           try clear c19
           try clear c19b0
           try clear c19b1
           try clear c24
           try clear c27
           try clear c28
           try clear c28b0
           try clear c28b1
           try clear c30
           try clear c36
           try clear c39
           try clear c39b0
           try clear hcz10_0
           try clear hcz10_1
           try clear hcz10_2
           try clear hcz10_3
           try clear hcz11_0
           try clear hcz11_1
           try clear hcz11_2
           try clear hcz11_3
           try clear hcz12_0
           try clear hcz12_1
           try clear hcz12_2
           try clear hcz12_3
           try clear hcz13_0
           try clear hcz13_1
           try clear hcz13_2
           try clear hcz13_3
           try clear hcz20_0
           try clear hcz20_1
           try clear hcz20_2
           try clear hcz20_3
           try clear hcz21_0
           try clear hcz21_1
           try clear hcz21_2
           try clear hcz21_3
           try clear hcz22_0
           try clear hcz22_1
           try clear hcz22_2
           try clear hcz22_3
           try clear hcz23_0
           try clear hcz23_1
           try clear hcz23_2
           try clear hcz23_3
           try clear hcz32_0
           try clear hcz32_1
           try clear hcz32_2
           try clear hcz32_3
           try clear hcz33_0
           try clear hcz33_1
           try clear hcz33_2
           try clear hcz33_3
           try clear hcz34_0
           try clear hcz34_1
           try clear hcz34_2
           try clear hcz34_3
           try clear hcz35_0
           try clear hcz35_1
           try clear hcz35_2
           try clear hcz35_3
           try clear hcz38_0
           try clear hcz38_1
           try clear hcz38_2
           try clear hcz38_3
           try clear hfz10_0
           try clear hfz10_1
           try clear hfz10_2
           try clear hfz10_3
           try clear hfz11_0
           try clear hfz11_1
           try clear hfz11_2
           try clear hfz11_3
           try clear hfz12_0
           try clear hfz12_1
           try clear hfz12_2
           try clear hfz12_3
           try clear hfz13_0
           try clear hfz13_1
           try clear hfz13_2
           try clear hfz13_3
           try clear hfz20_0
           try clear hfz20_1
           try clear hfz20_2
           try clear hfz20_3
           try clear hfz21_0
           try clear hfz21_1
           try clear hfz21_2
           try clear hfz21_3
           try clear hfz22_0
           try clear hfz22_1
           try clear hfz22_2
           try clear hfz22_3
           try clear hfz23_0
           try clear hfz23_1
           try clear hfz23_2
           try clear hfz23_3
           try clear hfz32_0
           try clear hfz32_1
           try clear hfz32_2
           try clear hfz32_3
           try clear hfz33_0
           try clear hfz33_1
           try clear hfz33_2
           try clear hfz33_3
           try clear hfz34_0
           try clear hfz34_1
           try clear hfz34_2
           try clear hfz34_3
           try clear hfz35_0
           try clear hfz35_1
           try clear hfz35_2
           try clear hfz35_3
           try clear hfz38_0
           try clear hfz38_1
           try clear hfz38_2
           try clear hfz38_3
           try clear p2
           try clear p6
           obtain ⟨kq, x7_36, rfl, HA, HJ36, BK214, HB⟩ := hcut
           cases kq with
           | zero => exact absurd HA.out (by simp [spec_l1Kind.j3])
           | succ kj36 =>
            have H := HA.out
            clear HA
            simp only [spec_l1Kind.j3] at H
            have HC40 := Aside0.mk H
            clear H
            go_upto_region 10 with (fail)
            go_cut [103] (fun v103 wc => ∃ (kq : Nat) (x103_39 : Bool), v103 = .bool x103_39 ∧ Aside0 (spec_l1Kind.j4 kq x103_39 a0_0 a0_1 a0_2 a0_3 = some r) ∧ Aside0 (kq ≤ kj36) ∧ Aside0 (wc.heap[gb214]? = some (.cells #[.int .i64 a0_0, .int .i64 a0_1, .int .i64 a0_2, .int .i64 a0_3] 107 (0, 0))) ∧ Aside0 (Below w.heap.size w wc))
            case first =>
             have H := HC40.out
             clear HC40
             by_cases c41 : 0 ≤ a0_2
             ·
              rw [if_pos c41] at H
              have c41b0 : decide (0 ≤ a0_2) = true := decide_eq_true c41
              clear c41
              (first | rw [c41b0] | (simp only [i64_w, i32_w]; rw [c41b0]) | skip)
              by_cases c42 : a0_2 < (l1.length : Int)
              ·
               rw [if_pos c42] at H
               have c42b0 : decide (a0_2 < (l1.length : Int)) = true := decide_eq_true c42
               clear c42
               by_cases c43 : (rd l1 a0_2) = x7_36
               ·
                rw [if_pos c43] at H
                have c43b0 : ((rd l1 a0_2) == x7_36) = true := beq_iff_eq.mpr c43
                have c43b1 : ((rd l1 a0_2) != x7_36) = false := bne_eq_false_iff_eq.mpr c43
                clear c43
                by_cases c44 : 0 ≤ a0_3
                ·
                 rw [if_pos c44] at H
                 have c44b0 : decide (0 ≤ a0_3) = true := decide_eq_true c44
                 clear c44
                 by_cases c45 : a0_3 < (l1.length : Int)
                 ·
                  rw [if_pos c45] at H
                  have c45b0 : decide (a0_3 < (l1.length : Int)) = true := decide_eq_true c45
                  clear c45
                  by_cases c46 : (rd l1 a0_3) = x7_36
                  ·
                   rw [if_pos c46] at H
                   have c46b0 : ((rd l1 a0_3) == x7_36) = true := beq_iff_eq.mpr c46
                   have c46b1 : ((rd l1 a0_3) != x7_36) = false := bne_eq_false_iff_eq.mpr c46
                   clear c46
                   replace H := Option.bind_eq_some_iff.mp H
                   obtain ⟨t222, A470, H⟩ := H
                   have A47 := Aside0.mk A470
                   clear A470
                   by_cases c48 : t222 = true
                   ·
                    subst c48
                    rw [if_pos rfl] at H
                    have H' := Aside0.mk H
                    clear H
                    have hcz49_0 : wc.cell? ⟨gb214, 0, none⟩ = some (.int .i64 a0_0) := (blk_cell BK214.out 0).trans rfl
                    have hcz49_1 : wc.cell? ⟨gb214, 1, none⟩ = some (.int .i64 a0_1) := (blk_cell BK214.out 1).trans rfl
                    have hcz49_2 : wc.cell? ⟨gb214, 2, none⟩ = some (.int .i64 a0_2) := (blk_cell BK214.out 2).trans rfl
                    have hcz49_3 : wc.cell? ⟨gb214, 3, none⟩ = some (.int .i64 a0_3) := (blk_cell BK214.out 3).trans rfl
                    have hfz49_0 := blk_frozen BK214.out 0
                    have hfz49_1 := blk_frozen BK214.out 1
                    have hfz49_2 := blk_frozen BK214.out 2
                    have hfz49_3 := blk_frozen BK214.out 3
                    have p220 : 0 ≤ (a0_2 : Int) := dz
                    have q220 : a0_2 < (l1.length : Int) := dz
                    obtain ⟨ad220, e220, hx220_0⟩ := Kd.at_int HR1.out a0_2 p220 q220
                    cases e220
                    replace hx220_0 := xz HB hx220_0
                    replace p220 := eq_true p220
                    replace q220 := eq_true q220
                    have p221 : 0 ≤ (a0_3 : Int) := dz
                    have q221 : a0_3 < (l1.length : Int) := dz
                    obtain ⟨ad221, e221, hx221_0⟩ := Kd.at_int HR1.out a0_3 p221 q221
                    obtain rfl : ad220 = ad221 := (by injection e221)
                    replace hx221_0 := xz HB hx221_0
                    replace p221 := eq_true p221
                    replace q221 := eq_true q221
                    go_wp2_with (first | (go_at_call 166; (with_reducible refine (spec_l1One.calls a0_0 true _ A47.out).mono ?_); rintro e w' ⟨rfl, ⟨nd, rfl⟩⟩))
                    go_meet
                    case rel => exact ⟨_, ((a0_3 != a0_2)), rq, H', ⟨by have := HJ3.out; have := HJ14.out; have := HJ24.out; have := HJ36.out; first | omega | exact Nat.le_refl _⟩, ⟨kz BK214⟩, ⟨bz1 HB GE214⟩⟩
                   ·
                    replace c48 := Bool.eq_false_iff.mpr c48
                    subst c48
                    rw [if_neg nt_] at H
                    have H' := Aside0.mk H
                    clear H
                    have hcz50_0 : wc.cell? ⟨gb214, 0, none⟩ = some (.int .i64 a0_0) := (blk_cell BK214.out 0).trans rfl
                    have hcz50_1 : wc.cell? ⟨gb214, 1, none⟩ = some (.int .i64 a0_1) := (blk_cell BK214.out 1).trans rfl
                    have hcz50_2 : wc.cell? ⟨gb214, 2, none⟩ = some (.int .i64 a0_2) := (blk_cell BK214.out 2).trans rfl
                    have hcz50_3 : wc.cell? ⟨gb214, 3, none⟩ = some (.int .i64 a0_3) := (blk_cell BK214.out 3).trans rfl
                    have hfz50_0 := blk_frozen BK214.out 0
                    have hfz50_1 := blk_frozen BK214.out 1
                    have hfz50_2 := blk_frozen BK214.out 2
                    have hfz50_3 := blk_frozen BK214.out 3
                    have p220 : 0 ≤ (a0_2 : Int) := dz
                    have q220 : a0_2 < (l1.length : Int) := dz
                    obtain ⟨ad220, e220, hx220_0⟩ := Kd.at_int HR1.out a0_2 p220 q220
                    cases e220
                    replace hx220_0 := xz HB hx220_0
                    replace p220 := eq_true p220
                    replace q220 := eq_true q220
                    have p221 : 0 ≤ (a0_3 : Int) := dz
                    have q221 : a0_3 < (l1.length : Int) := dz
                    obtain ⟨ad221, e221, hx221_0⟩ := Kd.at_int HR1.out a0_3 p221 q221
                    obtain rfl : ad220 = ad221 := (by injection e221)
                    replace hx221_0 := xz HB hx221_0
                    replace p221 := eq_true p221
                    replace q221 := eq_true q221
                    go_wp2_with (first | (go_at_call 166; (with_reducible refine (spec_l1One.calls a0_0 false _ A47.out).mono ?_); rintro e w' ⟨rfl, ⟨nd, rfl⟩⟩))
                    go_meet
                    case rel => exact ⟨_, (false), rq, H', ⟨by have := HJ3.out; have := HJ14.out; have := HJ24.out; have := HJ36.out; first | omega | exact Nat.le_refl _⟩, ⟨kz BK214⟩, ⟨bz1 HB GE214⟩⟩
                  ·
                   rw [if_neg c46] at H
                   have c46b0 : ((rd l1 a0_3) == x7_36) = false := beq_eq_false_iff_ne.mpr c46
                   have c46b1 : ((rd l1 a0_3) != x7_36) = true := bne_iff_ne.mpr c46
                   have H' := Aside0.mk H
                   clear H
                   have hcz51_0 : wc.cell? ⟨gb214, 0, none⟩ = some (.int .i64 a0_0) := (blk_cell BK214.out 0).trans rfl
                   have hcz51_1 : wc.cell? ⟨gb214, 1, none⟩ = some (.int .i64 a0_1) := (blk_cell BK214.out 1).trans rfl
                   have hcz51_2 : wc.cell? ⟨gb214, 2, none⟩ = some (.int .i64 a0_2) := (blk_cell BK214.out 2).trans rfl
                   have hcz51_3 : wc.cell? ⟨gb214, 3, none⟩ = some (.int .i64 a0_3) := (blk_cell BK214.out 3).trans rfl
                   have hfz51_0 := blk_frozen BK214.out 0
                   have hfz51_1 := blk_frozen BK214.out 1
                   have hfz51_2 := blk_frozen BK214.out 2
                   have hfz51_3 := blk_frozen BK214.out 3
                   have p220 : 0 ≤ (a0_2 : Int) := dz
                   have q220 : a0_2 < (l1.length : Int) := dz
                   obtain ⟨ad220, e220, hx220_0⟩ := Kd.at_int HR1.out a0_2 p220 q220
                   cases e220
                   replace hx220_0 := xz HB hx220_0
                   replace p220 := eq_true p220
                   replace q220 := eq_true q220
                   have p221 : 0 ≤ (a0_3 : Int) := dz
                   have q221 : a0_3 < (l1.length : Int) := dz
                   obtain ⟨ad221, e221, hx221_0⟩ := Kd.at_int HR1.out a0_3 p221 q221
                   obtain rfl : ad220 = ad221 := (by injection e221)
                   replace hx221_0 := xz HB hx221_0
                   replace p221 := eq_true p221
                   replace q221 := eq_true q221
                   go_wp2
                   go_meet
                   case rel => exact ⟨_, (true), rq, H', ⟨by have := HJ3.out; have := HJ14.out; have := HJ24.out; have := HJ36.out; first | omega | exact Nat.le_refl _⟩, ⟨kz BK214⟩, ⟨bz1 HB GE214⟩⟩
                 ·
                  rw [if_neg c45] at H
                  exact absurd H (by simp)
                ·
                 rw [if_neg c44] at H
                 exact absurd H (by simp)
               ·
                rw [if_neg c43] at H
                have c43b0 : ((rd l1 a0_2) == x7_36) = false := beq_eq_false_iff_ne.mpr c43
                have c43b1 : ((rd l1 a0_2) != x7_36) = true := bne_iff_ne.mpr c43
                have H' := Aside0.mk H
                clear H
                have hcz52_0 : wc.cell? ⟨gb214, 0, none⟩ = some (.int .i64 a0_0) := (blk_cell BK214.out 0).trans rfl
                have hcz52_1 : wc.cell? ⟨gb214, 1, none⟩ = some (.int .i64 a0_1) := (blk_cell BK214.out 1).trans rfl
                have hcz52_2 : wc.cell? ⟨gb214, 2, none⟩ = some (.int .i64 a0_2) := (blk_cell BK214.out 2).trans rfl
                have hcz52_3 : wc.cell? ⟨gb214, 3, none⟩ = some (.int .i64 a0_3) := (blk_cell BK214.out 3).trans rfl
                have hfz52_0 := blk_frozen BK214.out 0
                have hfz52_1 := blk_frozen BK214.out 1
                have hfz52_2 := blk_frozen BK214.out 2
                have hfz52_3 := blk_frozen BK214.out 3
                have p220 : 0 ≤ (a0_2 : Int) := dz
                have q220 : a0_2 < (l1.length : Int) := dz
                obtain ⟨ad220, e220, hx220_0⟩ := Kd.at_int HR1.out a0_2 p220 q220
                cases e220
                replace hx220_0 := xz HB hx220_0
                replace p220 := eq_true p220
                replace q220 := eq_true q220
                go_wp2
                go_meet
                case rel => exact ⟨_, (true), rq, H', ⟨by have := HJ3.out; have := HJ14.out; have := HJ24.out; have := HJ36.out; first | omega | exact Nat.le_refl _⟩, ⟨kz BK214⟩, ⟨bz1 HB GE214⟩⟩
              ·
               rw [if_neg c42] at H
               exact absurd H (by simp)
             ·
              rw [if_neg c41] at H
              exact absurd H (by simp)
            case rest =>
             clear HC40
             try clear c1
             try clear c2
             try clear p2
             try clear q2
             try clear hx2
             try clear c3
             try clear c4
             try clear c6
             try clear c6b0
             try clear c6b1
             try clear p6
             try clear c8
             try clear c9
             try clear c9b0
             try clear c9b1
             try clear c14
             try clear c16
             try clear c16b0
             try clear c16b1
             try clear c18
             try clear c19
             try clear c19b0
             try clear c19b1
             try clear p22
             try clear q22
             try clear hx22
             try clear c24
             try clear c27
             try clear c28
             try clear c28b0
             try clear c28b1
             try clear c30
             try clear c36
             try clear c39
             try clear c39b0
             try clear c41
             try clear c41b0
             try clear c42
             try clear c42b0
             try clear c43
             try clear c43b0
             try clear c43b1
             try clear c44
             try clear c44b0
             try clear c45
             try clear c45b0
             try clear c46
             try clear c46b0
             try clear c46b1
             try clear c48
             try clear hcz10_0
             try clear hcz10_1
             try clear hcz10_2
             try clear hcz10_3
             try clear hcz11_0
             try clear hcz11_1
             try clear hcz11_2
             try clear hcz11_3
             try clear hcz12_0
             try clear hcz12_1
             try clear hcz12_2
             try clear hcz12_3
             try clear hcz13_0
             try clear hcz13_1
             try clear hcz13_2
             try clear hcz13_3
             try clear hcz20_0
             try clear hcz20_1
             try clear hcz20_2
             try clear hcz20_3
             try clear hcz21_0
             try clear hcz21_1
             try clear hcz21_2
             try clear hcz21_3
             try clear hcz22_0
             try clear hcz22_1
             try clear hcz22_2
             try clear hcz22_3
             try clear hcz23_0
             try clear hcz23_1
             try clear hcz23_2
             try clear hcz23_3
             try clear hcz32_0
             try clear hcz32_1
             try clear hcz32_2
             try clear hcz32_3
             try clear hcz33_0
             try clear hcz33_1
             try clear hcz33_2
             try clear hcz33_3
             try clear hcz34_0
             try clear hcz34_1
             try clear hcz34_2
             try clear hcz34_3
             try clear hcz35_0
             try clear hcz35_1
             try clear hcz35_2
             try clear hcz35_3
             try clear hcz38_0
             try clear hcz38_1
             try clear hcz38_2
             try clear hcz38_3
             try clear hcz49_0
             try clear hcz49_1
             try clear hcz49_2
             try clear hcz49_3
             try clear hcz50_0
             try clear hcz50_1
             try clear hcz50_2
             try clear hcz50_3
             try clear hcz51_0
             try clear hcz51_1
             try clear hcz51_2
             try clear hcz51_3
             try clear hcz52_0
             try clear hcz52_1
             try clear hcz52_2
             try clear hcz52_3
             try clear hfz10_0
             try clear hfz10_1
             try clear hfz10_2
             try clear hfz10_3
             try clear hfz11_0
             try clear hfz11_1
             try clear hfz11_2
             try clear hfz11_3
             try clear hfz12_0
             try clear hfz12_1
             try clear hfz12_2
             try clear hfz12_3
             try clear hfz13_0
             try clear hfz13_1
             try clear hfz13_2
             try clear hfz13_3
             try clear hfz20_0
             try clear hfz20_1
             try clear hfz20_2
             try clear hfz20_3
             try clear hfz21_0
             try clear hfz21_1
             try clear hfz21_2
             try clear hfz21_3
             try clear hfz22_0
             try clear hfz22_1
             try clear hfz22_2
             try clear hfz22_3
             try clear hfz23_0
             try clear hfz23_1
             try clear hfz23_2
             try clear hfz23_3
             try clear hfz32_0
             try clear hfz32_1
             try clear hfz32_2
             try clear hfz32_3
             try clear hfz33_0
             try clear hfz33_1
             try clear hfz33_2
             try clear hfz33_3
             try clear hfz34_0
             try clear hfz34_1
             try clear hfz34_2
             try clear hfz34_3
             try clear hfz35_0
             try clear hfz35_1
             try clear hfz35_2
             try clear hfz35_3
             try clear hfz38_0
             try clear hfz38_1
             try clear hfz38_2
             try clear hfz38_3
             try clear hfz49_0
             try clear hfz49_1
             try clear hfz49_2
             try clear hfz49_3
             try clear hfz50_0
             try clear hfz50_1
             try clear hfz50_2
             try clear hfz50_3
             try clear hfz51_0
             try clear hfz51_1
             try clear hfz51_2
             try clear hfz51_3
             try clear hfz52_0
             try clear hfz52_1
             try clear hfz52_2
             try clear hfz52_3
             try clear hx220_0
             try clear hx221_0
             try clear p2
             try clear p220
             try clear p221
             try clear p6
             try clear q220
             try clear q221
             obtain ⟨kq, x103_39, rfl, HA, HJ39, BK214, HB⟩ := hcut
             cases kq with
             | zero => exact absurd HA.out (by simp [spec_l1Kind.j4])
             | succ kj39 =>
              have H := HA.out
              clear HA
              simp only [spec_l1Kind.j4] at H
              by_cases c53 : x103_39 = true
              ·
               subst c53
               rw [if_pos rfl] at H
               obtain rfl := Option.some.inj H
               go_wp2
               go_ret
               exact ⟨rz, bz1 HB GE214⟩
              ·
               replace c53 := Bool.eq_false_iff.mpr c53
               subst c53
               rw [if_neg nt_] at H
               by_cases c54 : a0_0 ≥ 5
               ·
                rw [if_pos c54] at H
                have c54b0 : decide (5 ≤ a0_0) = true := decide_eq_true c54
                clear c54
                obtain rfl := Option.some.inj H
                have hcz55_0 : wc.cell? ⟨gb214, 0, none⟩ = some (.int .i64 a0_0) := (blk_cell BK214.out 0).trans rfl
                have hcz55_1 : wc.cell? ⟨gb214, 1, none⟩ = some (.int .i64 a0_1) := (blk_cell BK214.out 1).trans rfl
                have hcz55_2 : wc.cell? ⟨gb214, 2, none⟩ = some (.int .i64 a0_2) := (blk_cell BK214.out 2).trans rfl
                have hcz55_3 : wc.cell? ⟨gb214, 3, none⟩ = some (.int .i64 a0_3) := (blk_cell BK214.out 3).trans rfl
                have hfz55_0 := blk_frozen BK214.out 0
                have hfz55_1 := blk_frozen BK214.out 1
                have hfz55_2 := blk_frozen BK214.out 2
                have hfz55_3 := blk_frozen BK214.out 3
                go_wp2
                go_ret
                exact ⟨rz, bz1 HB GE214⟩
               ·
                rw [if_neg c54] at H
                have c54b0 : decide (5 ≤ a0_0) = false := decide_eq_false c54
                clear c54
                obtain rfl := Option.some.inj H
                have hcz56_0 : wc.cell? ⟨gb214, 0, none⟩ = some (.int .i64 a0_0) := (blk_cell BK214.out 0).trans rfl
                have hcz56_1 : wc.cell? ⟨gb214, 1, none⟩ = some (.int .i64 a0_1) := (blk_cell BK214.out 1).trans rfl
                have hcz56_2 : wc.cell? ⟨gb214, 2, none⟩ = some (.int .i64 a0_2) := (blk_cell BK214.out 2).trans rfl
                have hcz56_3 : wc.cell? ⟨gb214, 3, none⟩ = some (.int .i64 a0_3) := (blk_cell BK214.out 3).trans rfl
                have hfz56_0 := blk_frozen BK214.out 0
                have hfz56_1 := blk_frozen BK214.out 1
                have hfz56_2 := blk_frozen BK214.out 2
                have hfz56_3 := blk_frozen BK214.out 3
                go_wp2
                go_ret
                exact ⟨rz, bz1 HB GE214⟩
end Go.Proofs.Ytndmhmekmkgccaa.PFnExactSetValid
end
section
namespace Go.Proofs.Ytndmhmekmkgccaa.PFnExactSetValid
open Go.RowKit Go.Proofs.YtndmhmekmkgccaaW.PrintWords Go.Proofs.YtndmhmekmkgccaaW.PrintLast Go.Proofs.YtndmhmekmkgccaaW.PrintMore
attribute [local go_sem] max2_int min2_int max_two min_two max_three min_three max_four min_four   -- for this text's walks alone
set_option linter.unusedVariables false
set_option linter.unusedSimpArgs false
set_option maxHeartbeats 8000000 in
set_option maxRecDepth 100000 in
theorem spec_KindsOf.calls (k : Nat) (A0 : Option Addr) (c0 : Nat) (l0 : List (ITerm)) (a1 : Int) (r : List Int) (w : World) (hr0 : Kd.C k107 w A0 l0.length l0) (hc0 : l0.length ≤ c0) (h : spec_KindsOf.f k l0 a1 = some r) :
  Calls Try.prog 142 #[.slice A0 l0.length c0, .int .i64 a1] w fun e w' => ∃ v0_ : Value, e = .returned (v0_) ∧ Kd.R (Kd.int .i64) 3 w' w.heap.size (fun _ => True) v0_ r ∧ Below w.heap.size w w' := by
 have hu107 := Try.underlying107
 have HR0 := Aside0.mk hr0
 have HC0 := Aside0.mk hc0
 clear hr0 hc0
 have HB := Aside0.mk (Below.refl w.heap.size w)
 have H : ((spec_l1In.f a1 0 5).bind fun t223 => (if t223 = true then ((spec_l1In.f (l0.length : Int) 1 40).bind fun t224 => (spec_KindsOf.j0 k l0 a1 (!t224))) else (spec_KindsOf.j0 k l0 a1 true))) = some r := h
 clear h
 have HC3 := Aside0.mk H
 clear H
 go_enter Try.func142, Try.ntmps142
 go_upto_region 1 with (fail)
 go_cut [16] (fun v16 wc => ∃ (kq : Nat) (x16_2 : Bool), v16 = .bool x16_2 ∧ Aside0 (spec_KindsOf.j0 kq l0 a1 x16_2 = some r) ∧ Aside0 (kq ≤ k) ∧ Aside0 (Below w.heap.size w wc))
 case first =>
  have H := HC3.out
  clear HC3
  replace H := Option.bind_eq_some_iff.mp H
  obtain ⟨t223, A40, H⟩ := H
  have A4 := Aside0.mk A40
  clear A40
  by_cases c5 : t223 = true
  ·
   subst c5
   rw [if_pos rfl] at H
   replace H := Option.bind_eq_some_iff.mp H
   obtain ⟨t224, A60, H⟩ := H
   have A6 := Aside0.mk A60
   clear A60
   have H' := Aside0.mk H
   clear H
   go_wp2_with (first | ((with_reducible refine gate_callee (f := 92) rfl ?_); refine goesL_ (some 9) rfl rfl Try.func92 (by kernel_rfl) rfl #[.int .i64 a1, .int .i64 0, .int .i64 5] rfl az ?_; (with_reducible refine (spec_l1In.calls a1 0 5 true _ A4.out).mono ?_); rintro e w' ⟨rfl, ⟨nd, rfl⟩⟩; refine ⟨_, rfl, ?_⟩) | (go_at_call 92; (with_reducible refine (spec_l1In.calls (l0.length : Int) 1 40 t224 _ A6.out).mono ?_); rintro e w' ⟨rfl, ⟨nd, rfl⟩⟩))
   go_meet
   case rel => exact ⟨_, (!t224), rq, H', ⟨by first | omega | exact Nat.le_refl _⟩, ⟨bz HB⟩⟩
  ·
   replace c5 := Bool.eq_false_iff.mpr c5
   subst c5
   rw [if_neg nt_] at H
   have H' := Aside0.mk H
   clear H
   go_wp2_with (first | ((with_reducible refine gate_callee (f := 92) rfl ?_); refine goesL_ (some 9) rfl rfl Try.func92 (by kernel_rfl) rfl #[.int .i64 a1, .int .i64 0, .int .i64 5] rfl az ?_; (with_reducible refine (spec_l1In.calls a1 0 5 false _ A4.out).mono ?_); rintro e w' ⟨rfl, ⟨nd, rfl⟩⟩; refine ⟨_, rfl, ?_⟩))
   go_meet
   case rel => exact ⟨_, (true), rq, H', ⟨by first | omega | exact Nat.le_refl _⟩, ⟨bz HB⟩⟩
 case rest =>
  clear HC3
  try clear c1
  try clear p2
  try clear c5
  obtain ⟨kq, x16_2, rfl, HA, HJ2, HB⟩ := hcut
  cases kq with
  | zero => exact absurd HA.out (by simp [spec_KindsOf.j0])
  | succ kj2 =>
   have H := HA.out
   clear HA
   simp only [spec_KindsOf.j0] at H
   by_cases c7 : x16_2 = true
   ·
    subst c7
    rw [if_pos rfl] at H
    obtain rfl := Option.some.inj H
    go_wp2
    go_ret
    exact ⟨_, rz, nz, bz HB⟩
   ·
    replace c7 := Bool.eq_false_iff.mpr c7
    subst c7
    rw [if_neg nt_] at H
    obtain ⟨y225, hy225⟩ : ∃ y_ : List Int, y_ = (([] : List Int)) := ⟨_, rfl⟩
    replace H : (spec_KindsOf.l0 kj2 l0 a1 y225 0) = some r := by first | (rw [hy225]; with_reducible exact H) | (have H2_ := (Option.bind_some _ _).symm.trans H; rw [hy225]; with_reducible exact H2_) | (have H2_ := (Option.bind_some _ _).symm.trans H; with_reducible exact H2_) | with_reducible exact H | (rw [hy225]; exact H) | exact H
    have Ny225 := Aside0.mk hy225
    clear hy225
    have H' := Aside0.mk H
    clear H
    go_wp2_with (first | ((with_reducible refine gate_dst (N := 17) rfl ?_); (try (refine gate_guard (by rfl) ?_; dsimp only)); refine Kd.R_lit (Kd.int .i64) _ 3 ?hg (N := 17) ?hd (xs := ([] : List Int)) (inner := []) (ok := fun _ => True) (okp := fun _ => True) ?hr ?hp (fun _ hk => hk) trivial (Below.refl _ _) (Nat.le_refl _) (by simp) ?_; (case hd => rfl); (case hg => rfl); (case hr => first | (go_simp; done) | (go_simp; rfl)); (case hp => exact (Reps.none _ _)); intro v226 w8 ho9 hb hg_ hnew_; clear hg_ hnew_; (first | rw [← Ny225.out] at ho9 | (simp only [Int.reduceToNat] at ho9; rw [← Ny225.out] at ho9)); have HO227 := Aside0.mk (Kd.R_lower ho9 (below_size (bz HB))); replace HB := Aside0.mk (below_step (bz HB) hb); clear hb ho9))
    go_loopg [5, 6] kj2 (fun kq v5 v6 w' => ∃ (x5_2 : List Int) (x6_2 : Int), v6 = .int .i64 x6_2 ∧ Aside0 (spec_KindsOf.l0 kq l0 a1 x5_2 x6_2 = some r) ∧ Aside0 (kq ≤ kj2) ∧ Aside0 (Kd.R (Kd.int .i64) 3 w' w.heap.size (fun _ => True) v5 x5_2) ∧ Aside0 (Below w.heap.size w w'))
    case atStart => exact ⟨(y225), (0), rq, H', ⟨Nat.le_refl _⟩, ⟨ozR HO227⟩, ⟨bz HB⟩⟩
    case round =>
     clear H'
     try clear c1
     try clear p2
     try clear c5
     try clear c7
     try clear c9
     try clear p2
     obtain ⟨x5_2, x6_2, rfl, HA, HK2, HO_5, HB⟩ := hrel
     cases gk with
     | zero => exact absurd HA.out (by simp [spec_KindsOf.l0])
     | succ k2 =>
      have H := HA.out
      clear HA
      simp only [spec_KindsOf.l0] at H
      by_cases c10 : x6_2 < (l0.length : Int)
      ·
       rw [if_pos c10] at H
       have c10b0 : decide (x6_2 < (l0.length : Int)) = true := decide_eq_true c10
       clear c10
       by_cases c11 : 0 ≤ x6_2
       ·
        rw [if_pos c11] at H
        have c11b0 : decide (0 ≤ x6_2) = true := decide_eq_true c11
        clear c11
        replace H := Option.bind_eq_some_iff.mp H
        obtain ⟨t229, A120, H⟩ := H
        have A12 := Aside0.mk A120
        clear A120
        by_cases c13 : t229 = 0
        ·
         rw [if_pos c13] at H
         have c13b0 : (t229 == 0) = true := beq_iff_eq.mpr c13
         have c13b1 : (t229 != 0) = false := bne_eq_false_iff_eq.mpr c13
         clear c13
         obtain rfl := Option.some.inj H
         have p228 : 0 ≤ (x6_2 : Int) := dz
         have q228 : x6_2 < (l0.length : Int) := dz
         obtain ⟨ad228, e228, hx228_0, hx228_1, hx228_2, hx228_3⟩ := at_ITerm HR0.out x6_2 p228 q228
         cases e228
         replace hx228_0 := xz HB hx228_0
         replace hx228_1 := xz HB hx228_1
         replace hx228_2 := xz HB hx228_2
         replace hx228_3 := xz HB hx228_3
         replace p228 := eq_true p228
         replace q228 := eq_true q228
         obtain ⟨Ao14, co14, eo14⟩ := Kd.R_slice HO_5.out
         subst eo14
         go_wp2_with (first | ((with_reducible refine gate_callee (f := 167) rfl ?_); refine goesL_ (some 30) rfl rfl Try.func167 (by kernel_rfl) rfl #[.agg #[.int .i64 ((rd_ITerm l0 x6_2).f0), .int .i64 ((rd_ITerm l0 x6_2).f1), .int .i64 ((rd_ITerm l0 x6_2).f2), .int .i64 ((rd_ITerm l0 x6_2).f3)], .slice Ao14 x5_2.length co14, .int .i64 a1] rfl az ?_; (with_reducible refine (spec_l1Kind.calls k2 ((rd_ITerm l0 x6_2).f0) ((rd_ITerm l0 x6_2).f1) ((rd_ITerm l0 x6_2).f2) ((rd_ITerm l0 x6_2).f3) _ _ x5_2 a1 t229 _ ?side1 ?side2 A12.out).mono ?_); (case side1 => exact cz1 (Kd.R_reads' HO_5.out).2.2); (case side2 => exact (Kd.R_reads' HO_5.out).2.1); rintro e w15 ⟨rfl, hb⟩; refine ⟨_, rfl, ?_⟩; replace HO_5 := Aside0.mk (Kd.R_below (ozR HO_5) hb); replace HB := Aside0.mk (below_step (bz HB) hb); clear hb))
         go_ret
         exact ⟨_, rz, nz, bz HB⟩
        ·
         rw [if_neg c13] at H
         have c13b0 : (t229 == 0) = false := beq_eq_false_iff_ne.mpr c13
         have c13b1 : (t229 != 0) = true := bne_iff_ne.mpr c13
         by_cases c16 : x5_2.length < 17592186044416
         ·
          rw [if_pos c16] at H
          have LMc16 := Aside0.mk c16
          clear c16
          obtain ⟨y230, hy230⟩ : ∃ y_ : List Int, y_ = (x5_2 ++ [t229]) := ⟨_, rfl⟩
          replace H : (spec_KindsOf.l0 k2 l0 a1 y230 (wrap64 (x6_2 + 1))) = some r := by first | (rw [hy230]; with_reducible exact H) | (have H2_ := (Option.bind_some _ _).symm.trans H; rw [hy230]; with_reducible exact H2_) | (have H2_ := (Option.bind_some _ _).symm.trans H; with_reducible exact H2_) | with_reducible exact H | (rw [hy230]; exact H) | exact H
          have Ny230 := Aside0.mk hy230
          clear hy230
          have H' := Aside0.mk H
          clear H
          have p228 : 0 ≤ (x6_2 : Int) := dz
          have q228 : x6_2 < (l0.length : Int) := dz
          obtain ⟨ad228, e228, hx228_0, hx228_1, hx228_2, hx228_3⟩ := at_ITerm HR0.out x6_2 p228 q228
          cases e228
          replace hx228_0 := xz HB hx228_0
          replace hx228_1 := xz HB hx228_1
          replace hx228_2 := xz HB hx228_2
          replace hx228_3 := xz HB hx228_3
          replace p228 := eq_true p228
          replace q228 := eq_true q228
          obtain ⟨Ao17, co17, eo17⟩ := Kd.R_slice HO_5.out
          subst eo17
          go_wp2_with (first | ((with_reducible refine gate_callee (f := 167) rfl ?_); refine goesL_ (some 30) rfl rfl Try.func167 (by kernel_rfl) rfl #[.agg #[.int .i64 ((rd_ITerm l0 x6_2).f0), .int .i64 ((rd_ITerm l0 x6_2).f1), .int .i64 ((rd_ITerm l0 x6_2).f2), .int .i64 ((rd_ITerm l0 x6_2).f3)], .slice Ao17 x5_2.length co17, .int .i64 a1] rfl az ?_; (with_reducible refine (spec_l1Kind.calls k2 ((rd_ITerm l0 x6_2).f0) ((rd_ITerm l0 x6_2).f1) ((rd_ITerm l0 x6_2).f2) ((rd_ITerm l0 x6_2).f3) _ _ x5_2 a1 t229 _ ?side1 ?side2 A12.out).mono ?_); (case side1 => exact cz1 (Kd.R_reads' HO_5.out).2.2); (case side2 => exact (Kd.R_reads' HO_5.out).2.1); rintro e w18 ⟨rfl, hb⟩; refine ⟨_, rfl, ?_⟩; replace HO_5 := Aside0.mk (Kd.R_below (ozR HO_5) hb); replace HB := Aside0.mk (below_step (bz HB) hb); clear hb) | ((with_reducible refine gate_builtin (b := .append) (xs := #[.tmp 33, .tmp 35]) rfl ?_); (try (refine gate_guard (by rfl) ?_; dsimp only)); at_builtin; refine Kd.R_append (Kd.int .i64) (w0 := w) w.heap.size rfl (.tmp 33) (.tmp 35) 26 3 (.int .i64 0) 8 rfl Try.underlying26 info3 rfl (by decide) (by omega) (.slice Ao17 x5_2.length co17) x5_2 t229 [.int .i64 t229] (fun _ => True) (fun _ => False) rfl rfl ?aP (fun _ hk => hk.elim) ?aF ?aO ?aB ?aS ?aL ?_; (case aP => exact rfl); (case aB => exact (bz HB)); (case aF => exact (fun _ _ => trivial)); (case aO => exact (ozR HO_5)); (case aS => exact (below_size (bz HB))); (case aL => have := LMc16.out; omega); intro v231 w19 ho hb hg hat; rw [← Ny230.out] at ho; replace HB := Aside0.mk (hb); have HO232 := Aside0.mk (ho); clear HO_5; clear ho hb hg hat))
          go_roundg k2
          case measure => have := HJ2.out; have := HK2.out; omega
          case rel => exact ⟨(y230), (wrap64 (x6_2 + 1)), rq, H', ⟨by have := HJ2.out; have := HK2.out; omega⟩, ⟨ozR HO232⟩, ⟨bz HB⟩⟩
         ·
          rw [if_neg c16] at H
          exact absurd H (by simp)
       ·
        rw [if_neg c11] at H
        exact absurd H (by simp)
      ·
       rw [if_neg c10] at H
       have c10b0 : decide (x6_2 < (l0.length : Int)) = false := decide_eq_false c10
       clear c10
       obtain rfl := Option.some.inj H
       go_wp2
       go_ret
       exact ⟨_, rz, ozR HO_5, bz HB⟩
end Go.Proofs.Ytndmhmekmkgccaa.PFnExactSetValid
end
section
namespace Go.Proofs.Ytndmhmekmkgccaa.PFnExactSetValid
open Go.RowKit Go.Proofs.YtndmhmekmkgccaaW.PrintWords Go.Proofs.YtndmhmekmkgccaaW.PrintLast Go.Proofs.YtndmhmekmkgccaaW.PrintMore
attribute [local go_sem] max2_int min2_int max_two min_two max_three min_three max_four min_four   -- for this text's walks alone
set_option linter.unusedVariables false
set_option linter.unusedSimpArgs false
set_option maxHeartbeats 8000000 in
set_option maxRecDepth 100000 in
theorem spec_l2Is.calls (k : Nat) (A0 : Option Addr) (c0 : Nat) (l0 : List (ITerm)) (a1 : Int) (a2 : Int) (r : Bool) (w : World) (hr0 : Kd.C k107 w A0 l0.length l0) (hc0 : l0.length ≤ c0) (h : spec_l2Is.f k l0 a1 a2 = some r) :
  Calls Try.prog 156 #[.slice A0 l0.length c0, .int .i64 a1, .int .i64 a2] w fun e w' => e = .returned (.bool r) ∧ Below w.heap.size w w' := by
 have HR0 := Aside0.mk hr0
 have HC0 := Aside0.mk hc0
 clear hr0 hc0
 have HB := Aside0.mk (Below.refl w.heap.size w)
 have H : ((spec_KindsOf.f k l0 a1).bind fun t233 => (if (t233.length : Int) > 0 then (if 0 ≤ (wrap64 ((t233.length : Int) - 1)) then (if (wrap64 ((t233.length : Int) - 1)) < (t233.length : Int) then (some ((rd t233 (wrap64 ((t233.length : Int) - 1))) == a2)) else (none)) else (none)) else (some false))) = some r := h
 clear h
 replace H := Option.bind_eq_some_iff.mp H
 obtain ⟨t233, A40, H⟩ := H
 have A4 := Aside0.mk A40
 clear A40
 by_cases c5 : (t233.length : Int) > 0
 ·
  rw [if_pos c5] at H
  have c5b0 : decide (0 < (t233.length : Int)) = true := decide_eq_true c5
  have c5b1 : decide (0 < t233.length) = true := decide_eq_true (by omega)
  clear c5
  obtain ⟨ji6, hji6⟩ : ∃ j_ : Int, (wrap64 ((t233.length : Int) - 1)) = j_ := ⟨_, rfl⟩
  replace H : (if 0 ≤ (ji6) then (if (ji6) < (t233.length : Int) then (some ((rd t233 (ji6)) == a2)) else (none)) else (none)) = some r := by first | (rw [hji6] at H; exact H) | (simp only [hji6] at H ⊢; exact H)
  (try rw [hji6] at A4)
  have hji6w : (IntKind.i64.wrap ((t233.length : Int) - 1)) = ji6 := (i64_w _).trans hji6
  by_cases c7 : 0 ≤ (ji6)
  ·
   rw [if_pos c7] at H
   have c7b0 : decide (0 ≤ (ji6)) = true := decide_eq_true c7
   clear c7
   by_cases c8 : (ji6) < (t233.length : Int)
   ·
    rw [if_pos c8] at H
    have c8b0 : decide ((ji6) < (t233.length : Int)) = true := decide_eq_true c8
    clear c8
    obtain rfl := Option.some.inj H
    go_enter Try.func156, Try.ntmps156
    go_wp2_with (first | ((with_reducible refine gate_callee (f := 142) rfl ?_); refine goesL_ (some 10) rfl rfl Try.func142 (by kernel_rfl) rfl #[.slice A0 l0.length c0, .int .i64 a1] rfl az ?_; (with_reducible refine (spec_KindsOf.calls k _ _ l0 a1 t233 _ ?side1 HC0.out A4.out).mono ?_); (case side1 => exact cz0 HR0); rintro e w9 ⟨v234, rfl, ho0, hb⟩; refine ⟨_, rfl, ?_⟩; have HO235 := Aside0.mk (Kd.R_lower ho0 (below_size (bz HB))); replace HB := Aside0.mk (below_step (bz HB) hb); clear hb; (try clear ho0); obtain ⟨Ao10, co10, eo10⟩ := Kd.R_slice HO235.out; subst eo10; have p236 : 0 ≤ ((ji6) : Int) := dz; have q236 : (ji6) < (t233.length : Int) := dz; obtain ⟨ad236, e236, hx236_0⟩ := Kd.at_int (Kd.R_reads' HO235.out).2.2 (ji6) p236 q236; cases e236; replace p236 := eq_true p236; replace q236 := eq_true q236))
    go_ret
    exact ⟨by first | rfl | (simp <;> rfl) | (simp only [← hji6]; first | rfl | (simp <;> rfl)) | (simp [*] <;> rfl), bz HB⟩
   ·
    rw [if_neg c8] at H
    exact absurd H (by simp)
  ·
   rw [if_neg c7] at H
   exact absurd H (by simp)
 ·
  rw [if_neg c5] at H
  have c5b0 : decide (0 < (t233.length : Int)) = false := decide_eq_false c5
  have c5b1 : decide (0 < t233.length) = false := decide_eq_false (by omega)
  clear c5
  obtain rfl := Option.some.inj H
  go_enter Try.func156, Try.ntmps156
  go_wp2_with (first | ((with_reducible refine gate_callee (f := 142) rfl ?_); refine goesL_ (some 10) rfl rfl Try.func142 (by kernel_rfl) rfl #[.slice A0 l0.length c0, .int .i64 a1] rfl az ?_; (with_reducible refine (spec_KindsOf.calls k _ _ l0 a1 t233 _ ?side1 HC0.out A4.out).mono ?_); (case side1 => exact cz0 HR0); rintro e w11 ⟨v234, rfl, ho0, hb⟩; refine ⟨_, rfl, ?_⟩; have HO235 := Aside0.mk (Kd.R_lower ho0 (below_size (bz HB))); replace HB := Aside0.mk (below_step (bz HB) hb); clear hb; (try clear ho0); obtain ⟨Ao12, co12, eo12⟩ := Kd.R_slice HO235.out; subst eo12))
  go_ret
  exact ⟨rz, bz HB⟩
end Go.Proofs.Ytndmhmekmkgccaa.PFnExactSetValid
end
