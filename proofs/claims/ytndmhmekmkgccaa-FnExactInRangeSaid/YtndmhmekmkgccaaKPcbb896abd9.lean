/- Walks of Go functions: each is shown to answer as the Lean function beside it tells, under the conditions that its theorem names. -/
import Derived.Test.YtndmhmekmkgccaaKP3ef63d26e3
section
namespace Go.Proofs.Ytndmhmekmkgccaa.PFnExactInRange
open Go.RowKit Go.Proofs.YtndmhmekmkgccaaW.PrintWords Go.Proofs.YtndmhmekmkgccaaW.PrintLast Go.Proofs.YtndmhmekmkgccaaW.PrintMore
attribute [local go_sem] max2_int min2_int max_two min_two max_three min_three max_four min_four   -- for this text's walks alone
set_option linter.unusedVariables false
set_option linter.unusedSimpArgs false
def spec_l2Rule.T6 : Bool × List (List Nat × List Nat) := (true, [([], []), ([0], [0]), ([], []), ([1, 2], [1, 2]), ([3], [3]), ([], []), ([5], [5]), ([4, 6], [4, 6]), ([7], [7]), ([8, 7], [8]), ([9], [9]), ([10, 9], [9, 10]), ([11, 9, 9], [9, 11]), ([12], [12]), ([13, 12], [12, 13]), ([12], [12]), ([14, 15, 12], [12, 14, 15]), ([16, 12], [12, 16]), ([12], [12]), ([18, 12], [12, 18]), ([12], [12]), ([20, 12], [12, 20]), ([19, 21, 12], [12, 19, 21]), ([22, 12], [12, 22]), ([17, 23, 12], [12, 17, 23]), ([12, 24, 9], [9, 12, 24]), ([9, 25], [9, 25]), ([26, 12], [26]), ([27], [27]), ([28, 27], [27, 28]), ([27], [27]), ([29, 30, 27], [27, 29, 30]), ([31, 27], [27, 31]), ([27], [27]), ([32, 33, 27, 27], [27, 32, 33]), ([34, 27], [27, 34]), ([27, 35], [27, 35])])
def spec_l2Rule.B6 : List Nat := [0, 1, 0, 7, 15, 0, 32, 127, 255, 511, 1023, 2047, 4095, 8191, 16383, 8191, 65535, 131071, 8191, 270335, 8191, 1056767, 3940351, 8134655, 16777215, 33554431, 67108863, 134217727, 268435455, 536870911, 268435455, 2147483647, 4294967295, 268435455, 17179869183, 34359738367, 68719476735]
theorem spec_l2Rule.tab6 : rtab .any (opsOf Try.f115 6) = spec_l2Rule.T6 := by kernel_rfl
theorem spec_l2Rule.bits6 : waitsOk spec_l2Rule.T6.2 spec_l2Rule.B6 = true := by kernel_rfl
set_option maxHeartbeats 8000000 in
set_option maxRecDepth 100000 in
theorem spec_l2Rule.calls (k : Nat) (A0_0 : Option Addr) (c0_0 : Nat) (l0_0 : List (ITerm)) (A0_1 : Option Addr) (c0_1 : Nat) (l0_1 : List Int) (A0_2 : Option Addr) (c0_2 : Nat) (l0_2 : List (List (ITerm))) (a1 : Int) (r : Bool) (w : World) (hr0_0 : Kd.C k107 w A0_0 l0_0.length l0_0) (hc0_0 : l0_0.length ≤ c0_0) (hr0_1 : Kd.C (Kd.int .i64) w A0_1 l0_1.length l0_1) (hc0_1 : l0_1.length ≤ c0_1) (hr0_2 : Kd.C (Kd.slice 107 k107) w A0_2 l0_2.length l0_2) (hc0_2 : l0_2.length ≤ c0_2) (h : spec_l2Rule.f k l0_0 l0_1 l0_2 a1 = some r) :
  Calls Try.prog 115 #[.agg #[.slice A0_0 l0_0.length c0_0, .slice A0_1 l0_1.length c0_1, .slice A0_2 l0_2.length c0_2], .int .i64 a1] w fun e w' => e = .returned (.bool r) ∧ Below w.heap.size w w' := by
 have hu145 := Try.underlying145
 have HR0_0 := Aside0.mk hr0_0
 have HC0_0 := Aside0.mk hc0_0
 clear hr0_0 hc0_0
 have HR0_1 := Aside0.mk hr0_1
 have HC0_1 := Aside0.mk hc0_1
 clear hr0_1 hc0_1
 have HR0_2 := Aside0.mk hr0_2
 have HC0_2 := Aside0.mk hc0_2
 clear hr0_2 hc0_2
 have HB := Aside0.mk (Below.refl w.heap.size w)
 have H : ((spec_l2Is.f k l0_0 a1 2).bind fun t140 => (if t140 = true then (if (l0_1.length : Int) = (l0_2.length : Int) then (spec_l2Rule.j0 k a1 (decide ((l0_1.length : Int) > a1)) l0_0 l0_1 l0_2) else (spec_l2Rule.j0 k a1 true l0_0 l0_1 l0_2)) else (spec_l2Rule.j0 k a1 true l0_0 l0_1 l0_2))) = some r := h
 clear h
 have HC3 := Aside0.mk H
 clear H
 go_enter Try.func115, Try.ntmps115
 go_upto_region 1 with (first | ((with_reducible refine gate_dst (N := 2) rfl ?_); (try (refine gate_guard (by rfl) ?_; dsimp only)); refine box_event ?hg (N := 2) ?hd (cs := #[.slice A0_0 l0_0.length c0_0, .slice A0_1 l0_1.length c0_1, .slice A0_2 l0_2.length c0_2]) (t := 145) ?hr ?_; (case hd => rfl); (case hg => rfl); (case hr => first | (go_simp; done) | (go_simp; rfl)); intro gb139 hg w4 hbox hb; have n0_ := Aside0.mk (below_step (bz HB) hb); have n1_ := Aside0.mk (hbox); have n2_ := Aside0.mk ((by rw [hg]; exact (below_size (bz HB)) : w.heap.size ≤ gb139)); have n3_ := Aside0.mk ((by rw [hg]; exact (below_size (bz HB)) : w.heap.size ≤ gb139)); clear HB; have HB := n0_; have BK139 := n1_; have GW139 := n2_; have GE139 := n3_; clear n0_ n1_ n2_ n3_; clear hb hbox hg))
 (try simp only [Act.put, sb_, sc0_, sc1_])
 go_cut [26] (fun v26 wc => ∃ (kq : Nat) (x26_2 : Bool), v26 = .bool x26_2 ∧ Aside0 (spec_l2Rule.j0 kq a1 x26_2 l0_0 l0_1 l0_2 = some r) ∧ Aside0 (kq ≤ k) ∧ Aside0 (wc.heap[gb139]? = some (.cells #[(.slice A0_0 l0_0.length c0_0), (.slice A0_1 l0_1.length c0_1), (.slice A0_2 l0_2.length c0_2)] 145 (0, 0))) ∧ Aside0 (Below w.heap.size w wc))
 case first =>
  have H := HC3.out
  clear HC3
  replace H := Option.bind_eq_some_iff.mp H
  obtain ⟨t140, A50, H⟩ := H
  have A5 := Aside0.mk A50
  clear A50
  by_cases c6 : t140 = true
  ·
   subst c6
   rw [if_pos rfl] at H
   by_cases c7 : (l0_1.length : Int) = (l0_2.length : Int)
   ·
    rw [if_pos c7] at H
    have c7b0 : ((l0_1.length : Int) == (l0_2.length : Int)) = true := beq_iff_eq.mpr c7
    have c7b1 : ((l0_1.length : Int) != (l0_2.length : Int)) = false := bne_eq_false_iff_eq.mpr c7
    have c7b2 : (l0_1.length == l0_2.length) = true := by first | simpa using c7 | (simp at c7 ⊢; omega)
    clear c7
    (first | rw [c7b0] | (simp only [i64_w, i32_w]; rw [c7b0]) | skip)
    have H' := Aside0.mk H
    clear H
    have hcz8_0 : w4.cell? ⟨gb139, 0, none⟩ = some (.slice A0_0 l0_0.length c0_0) := (blk_cell BK139.out 0).trans rfl
    have hcz8_1 : w4.cell? ⟨gb139, 1, none⟩ = some (.slice A0_1 l0_1.length c0_1) := (blk_cell BK139.out 1).trans rfl
    have hcz8_2 : w4.cell? ⟨gb139, 2, none⟩ = some (.slice A0_2 l0_2.length c0_2) := (blk_cell BK139.out 2).trans rfl
    have hfz8_0 := blk_frozen BK139.out 0
    have hfz8_1 := blk_frozen BK139.out 1
    have hfz8_2 := blk_frozen BK139.out 2
    go_wp2_with (first | ((with_reducible refine gate_callee (f := 156) rfl ?_); refine goesL_ (some 9) rfl rfl Try.func156 (by kernel_rfl) rfl #[.slice A0_0 l0_0.length c0_0, .int .i64 a1, .int .i64 2] rfl az ?_; (with_reducible refine (spec_l2Is.calls k _ _ l0_0 a1 2 true _ ?side1 HC0_0.out A5.out).mono ?_); (case side1 => exact cz HR0_0 HB); rintro e w9 ⟨rfl, hb⟩; refine ⟨_, rfl, ?_⟩; replace BK139 := Aside0.mk (blk_below (g := gb139) (o := .cells #[.slice A0_0 l0_0.length c0_0, .slice A0_1 l0_1.length c0_1, .slice A0_2 l0_2.length c0_2] 145 (0, 0)) (kz BK139) hb); replace HB := Aside0.mk (below_step (bz1 HB GE139) hb); clear hb; have hcz10_0 : w9.cell? ⟨gb139, 0, none⟩ = some (.slice A0_0 l0_0.length c0_0) := (blk_cell BK139.out 0).trans rfl; have hcz10_1 : w9.cell? ⟨gb139, 1, none⟩ = some (.slice A0_1 l0_1.length c0_1) := (blk_cell BK139.out 1).trans rfl; have hcz10_2 : w9.cell? ⟨gb139, 2, none⟩ = some (.slice A0_2 l0_2.length c0_2) := (blk_cell BK139.out 2).trans rfl; have hfz10_0 := blk_frozen BK139.out 0; have hfz10_1 := blk_frozen BK139.out 1; have hfz10_2 := blk_frozen BK139.out 2))
    go_meet
    case rel => exact ⟨_, (decide ((l0_1.length : Int) > a1)), rq, H', ⟨by first | omega | exact Nat.le_refl _⟩, ⟨kz BK139⟩, ⟨bz1 HB GE139⟩⟩
   ·
    rw [if_neg c7] at H
    have c7b0 : ((l0_1.length : Int) == (l0_2.length : Int)) = false := beq_eq_false_iff_ne.mpr c7
    have c7b1 : ((l0_1.length : Int) != (l0_2.length : Int)) = true := bne_iff_ne.mpr c7
    have c7b2 : (l0_1.length == l0_2.length) = false := by first | simpa using c7 | (simp at c7 ⊢; omega)
    (first | rw [c7b0] | (simp only [i64_w, i32_w]; rw [c7b0]) | skip)
    have H' := Aside0.mk H
    clear H
    have hcz11_0 : w4.cell? ⟨gb139, 0, none⟩ = some (.slice A0_0 l0_0.length c0_0) := (blk_cell BK139.out 0).trans rfl
    have hcz11_1 : w4.cell? ⟨gb139, 1, none⟩ = some (.slice A0_1 l0_1.length c0_1) := (blk_cell BK139.out 1).trans rfl
    have hcz11_2 : w4.cell? ⟨gb139, 2, none⟩ = some (.slice A0_2 l0_2.length c0_2) := (blk_cell BK139.out 2).trans rfl
    have hfz11_0 := blk_frozen BK139.out 0
    have hfz11_1 := blk_frozen BK139.out 1
    have hfz11_2 := blk_frozen BK139.out 2
    go_wp2_with (first | ((with_reducible refine gate_callee (f := 156) rfl ?_); refine goesL_ (some 9) rfl rfl Try.func156 (by kernel_rfl) rfl #[.slice A0_0 l0_0.length c0_0, .int .i64 a1, .int .i64 2] rfl az ?_; (with_reducible refine (spec_l2Is.calls k _ _ l0_0 a1 2 true _ ?side1 HC0_0.out A5.out).mono ?_); (case side1 => exact cz HR0_0 HB); rintro e w12 ⟨rfl, hb⟩; refine ⟨_, rfl, ?_⟩; replace BK139 := Aside0.mk (blk_below (g := gb139) (o := .cells #[.slice A0_0 l0_0.length c0_0, .slice A0_1 l0_1.length c0_1, .slice A0_2 l0_2.length c0_2] 145 (0, 0)) (kz BK139) hb); replace HB := Aside0.mk (below_step (bz1 HB GE139) hb); clear hb; have hcz13_0 : w12.cell? ⟨gb139, 0, none⟩ = some (.slice A0_0 l0_0.length c0_0) := (blk_cell BK139.out 0).trans rfl; have hcz13_1 : w12.cell? ⟨gb139, 1, none⟩ = some (.slice A0_1 l0_1.length c0_1) := (blk_cell BK139.out 1).trans rfl; have hcz13_2 : w12.cell? ⟨gb139, 2, none⟩ = some (.slice A0_2 l0_2.length c0_2) := (blk_cell BK139.out 2).trans rfl; have hfz13_0 := blk_frozen BK139.out 0; have hfz13_1 := blk_frozen BK139.out 1; have hfz13_2 := blk_frozen BK139.out 2))
    go_meet
    case rel => exact ⟨_, (true), rq, H', ⟨by first | omega | exact Nat.le_refl _⟩, ⟨kz BK139⟩, ⟨bz1 HB GE139⟩⟩
  ·
   replace c6 := Bool.eq_false_iff.mpr c6
   subst c6
   rw [if_neg nt_] at H
   have H' := Aside0.mk H
   clear H
   have hcz14_0 : w4.cell? ⟨gb139, 0, none⟩ = some (.slice A0_0 l0_0.length c0_0) := (blk_cell BK139.out 0).trans rfl
   have hcz14_1 : w4.cell? ⟨gb139, 1, none⟩ = some (.slice A0_1 l0_1.length c0_1) := (blk_cell BK139.out 1).trans rfl
   have hcz14_2 : w4.cell? ⟨gb139, 2, none⟩ = some (.slice A0_2 l0_2.length c0_2) := (blk_cell BK139.out 2).trans rfl
   have hfz14_0 := blk_frozen BK139.out 0
   have hfz14_1 := blk_frozen BK139.out 1
   have hfz14_2 := blk_frozen BK139.out 2
   go_wp2_with (first | ((with_reducible refine gate_callee (f := 156) rfl ?_); refine goesL_ (some 9) rfl rfl Try.func156 (by kernel_rfl) rfl #[.slice A0_0 l0_0.length c0_0, .int .i64 a1, .int .i64 2] rfl az ?_; (with_reducible refine (spec_l2Is.calls k _ _ l0_0 a1 2 false _ ?side1 HC0_0.out A5.out).mono ?_); (case side1 => exact cz HR0_0 HB); rintro e w15 ⟨rfl, hb⟩; refine ⟨_, rfl, ?_⟩; replace BK139 := Aside0.mk (blk_below (g := gb139) (o := .cells #[.slice A0_0 l0_0.length c0_0, .slice A0_1 l0_1.length c0_1, .slice A0_2 l0_2.length c0_2] 145 (0, 0)) (kz BK139) hb); replace HB := Aside0.mk (below_step (bz1 HB GE139) hb); clear hb))
   go_meet
   case rel => exact ⟨_, (true), rq, H', ⟨by first | omega | exact Nat.le_refl _⟩, ⟨kz BK139⟩, ⟨bz1 HB GE139⟩⟩
 case rest =>
  clear HC3
  try clear c1
  try clear p2
  try clear c6
  try clear c7
  try clear c7b0
  try clear c7b1
  try clear c7b2
  try clear c11
  try clear c15
  try clear hcz10_0
  try clear hcz10_1
  try clear hcz10_2
  try clear hcz11_0
  try clear hcz11_1
  try clear hcz11_2
  try clear hcz13_0
  try clear hcz13_1
  try clear hcz13_2
  try clear hcz14_0
  try clear hcz14_1
  try clear hcz14_2
  try clear hcz8_0
  try clear hcz8_1
  try clear hcz8_2
  try clear hfz10_0
  try clear hfz10_1
  try clear hfz10_2
  try clear hfz11_0
  try clear hfz11_1
  try clear hfz11_2
  try clear hfz13_0
  try clear hfz13_1
  try clear hfz13_2
  try clear hfz14_0
  try clear hfz14_1
  try clear hfz14_2
  try clear hfz8_0
  try clear hfz8_1
  try clear hfz8_2
  obtain ⟨kq, x26_2, rfl, HA, HJ2, BK139, HB⟩ := hcut
  cases kq with
  | zero => exact absurd HA.out (by simp [spec_l2Rule.j0])
  | succ kj2 =>
   have H := HA.out
   clear HA
   simp only [spec_l2Rule.j0] at H
   by_cases c16 : x26_2 = true
   ·
    subst c16
    rw [if_pos rfl] at H
    obtain rfl := Option.some.inj H
    go_wp2
    go_ret
    exact ⟨rz, bz1 HB GE139⟩
   ·
    replace c16 := Bool.eq_false_iff.mpr c16
    subst c16
    rw [if_neg nt_] at H
    have H' := Aside0.mk H
    clear H
    go_wp2
    go_loopg [5] kj2 (fun kq v5 w' => ∃ (x5_2 : Int), v5 = .int .i64 x5_2 ∧ Aside0 (spec_l2Rule.l0 kq a1 x5_2 l0_0 l0_1 l0_2 = some r) ∧ Aside0 (kq ≤ kj2) ∧ Aside0 (w'.heap[gb139]? = some (.cells #[(.slice A0_0 l0_0.length c0_0), (.slice A0_1 l0_1.length c0_1), (.slice A0_2 l0_2.length c0_2)] 145 (0, 0))) ∧ Aside0 (Below w.heap.size w w'))
    case atStart => exact ⟨(0), rq, H', ⟨Nat.le_refl _⟩, ⟨kz BK139⟩, ⟨bz1 HB GE139⟩⟩
    case round =>
     clear H'
     try clear c1
     try clear p2
     try clear c6
     try clear c7
     try clear c7b0
     try clear c7b1
     try clear c7b2
     try clear c11
     try clear c15
     try clear c16
     try clear hcz10_0
     try clear hcz10_1
     try clear hcz10_2
     try clear hcz11_0
     try clear hcz11_1
     try clear hcz11_2
     try clear hcz13_0
     try clear hcz13_1
     try clear hcz13_2
     try clear hcz14_0
     try clear hcz14_1
     try clear hcz14_2
     try clear hcz8_0
     try clear hcz8_1
     try clear hcz8_2
     try clear hfz10_0
     try clear hfz10_1
     try clear hfz10_2
     try clear hfz11_0
     try clear hfz11_1
     try clear hfz11_2
     try clear hfz13_0
     try clear hfz13_1
     try clear hfz13_2
     try clear hfz14_0
     try clear hfz14_1
     try clear hfz14_2
     try clear hfz8_0
     try clear hfz8_1
     try clear hfz8_2
     try clear p2
     obtain ⟨x5_2, rfl, HA, HK2, BK139, HB⟩ := hrel
     cases gk with
     | zero => exact absurd HA.out (by simp [spec_l2Rule.l0])
     | succ k2 =>
      have H := HA.out
      clear HA
      simp only [spec_l2Rule.l0] at H
      by_cases c17 : x5_2 < (l0_1.length : Int)
      ·
       rw [if_pos c17] at H
       have c17b0 : decide (x5_2 < (l0_1.length : Int)) = true := decide_eq_true c17
       clear c17
       have HC18 := Aside0.mk H
       clear H
       have hcz19_0 : wr.cell? ⟨gb139, 0, none⟩ = some (.slice A0_0 l0_0.length c0_0) := (blk_cell BK139.out 0).trans rfl
       have hcz19_1 : wr.cell? ⟨gb139, 1, none⟩ = some (.slice A0_1 l0_1.length c0_1) := (blk_cell BK139.out 1).trans rfl
       have hcz19_2 : wr.cell? ⟨gb139, 2, none⟩ = some (.slice A0_2 l0_2.length c0_2) := (blk_cell BK139.out 2).trans rfl
       have hfz19_0 := blk_frozen BK139.out 0
       have hfz19_1 := blk_frozen BK139.out 1
       have hfz19_2 := blk_frozen BK139.out 2
       go_upto_region 6 with (fail)
       go_cut [70] (fun v70 wc => ∃ (kq : Nat) (x70_17 : Bool), v70 = .bool x70_17 ∧ Aside0 (spec_l2Rule.j2 kq a1 x5_2 x70_17 l0_0 l0_1 l0_2 = some r) ∧ Aside0 (kq ≤ k2) ∧ Aside0 (wc.heap[gb139]? = some (.cells #[(.slice A0_0 l0_0.length c0_0), (.slice A0_1 l0_1.length c0_1), (.slice A0_2 l0_2.length c0_2)] 145 (0, 0))) ∧ Aside0 (Below w.heap.size w wc))
       case first =>
        have H := HC18.out
        clear HC18
        by_cases c20 : 0 ≤ x5_2
        ·
         rw [if_pos c20] at H
         have c20b0 : decide (0 ≤ x5_2) = true := decide_eq_true c20
         clear c20
         (first | rw [c20b0] | (simp only [i64_w, i32_w]; rw [c20b0]) | skip)
         replace H := Option.bind_eq_some_iff.mp H
         obtain ⟨t142, A210, H⟩ := H
         have A21 := Aside0.mk A210
         clear A210
         by_cases c22 : t142 = true
         ·
          subst c22
          rw [if_pos rfl] at H
          by_cases c23 : x5_2 > 0
          ·
           rw [if_pos c23] at H
           have c23b0 : decide (0 < x5_2) = true := decide_eq_true c23
           clear c23
           obtain ⟨ji24, hji24⟩ : ∃ j_ : Int, (wrap64 (x5_2 - 1)) = j_ := ⟨_, rfl⟩
           replace H : (if 0 ≤ (ji24) then (if (ji24) < (l0_1.length : Int) then (if (rd l0_1 x5_2) ≤ (rd l0_1 (ji24)) then (spec_l2Rule.j2 k2 a1 x5_2 true l0_0 l0_1 l0_2) else (if x5_2 < (l0_2.length : Int) then ((spec_l2Is.f k2 (rd_LITerm l0_2 x5_2) a1 1).bind fun t146 => (spec_l2Rule.j2 k2 a1 x5_2 (!t146) l0_0 l0_1 l0_2)) else (none))) else (none)) else (none)) = some r := by first | (rw [hji24] at H; exact H) | (simp only [hji24] at H ⊢; exact H)
           (try rw [hji24] at A21)
           have hji24w : (IntKind.i64.wrap (x5_2 - 1)) = ji24 := (i64_w _).trans hji24
           by_cases c25 : 0 ≤ (ji24)
           ·
            rw [if_pos c25] at H
            have c25b0 : decide (0 ≤ (ji24)) = true := decide_eq_true c25
            clear c25
            by_cases c26 : (ji24) < (l0_1.length : Int)
            ·
             rw [if_pos c26] at H
             have c26b0 : decide ((ji24) < (l0_1.length : Int)) = true := decide_eq_true c26
             clear c26
             by_cases c27 : (rd l0_1 x5_2) ≤ (rd l0_1 (ji24))
             ·
              rw [if_pos c27] at H
              have c27b0 : decide ((rd l0_1 x5_2) ≤ (rd l0_1 (ji24))) = true := decide_eq_true c27
              clear c27
              have H' := Aside0.mk H
              clear H
              try go_wp2
              have n0_ := Aside0.mk (blk_drew BK139.out)
              have n1_ := Aside0.mk (below_drew1 HB.out)
              clear BK139
              clear HB
              have BK139 := n0_
              have HB := n1_
              clear n0_ n1_
              have p141 : 0 ≤ (x5_2 : Int) := dz
              have q141 : x5_2 < (l0_1.length : Int) := dz
              obtain ⟨ad141, e141, hx141_0⟩ := Kd.at_int HR0_1.out x5_2 p141 q141
              have hw141_0 := hx141_0
              cases e141
              replace hx141_0 := xz HB hx141_0
              replace p141 := eq_true p141
              replace q141 := eq_true q141
              have p143 : 0 ≤ (x5_2 : Int) := dz
              have q143 : x5_2 < (l0_1.length : Int) := dz
              obtain ⟨ad143, e143, hx143_0⟩ := Kd.at_int HR0_1.out x5_2 p143 q143
              have hw143_0 := hx143_0
              obtain rfl : ad141 = ad143 := (by injection e143)
              replace hx143_0 := xz HB hx143_0
              replace p143 := eq_true p143
              replace q143 := eq_true q143
              have p144 : 0 ≤ ((ji24) : Int) := dz
              have q144 : (ji24) < (l0_1.length : Int) := dz
              obtain ⟨ad144, e144, hx144_0⟩ := Kd.at_int HR0_1.out (ji24) p144 q144
              have hw144_0 := hx144_0
              obtain rfl : ad141 = ad144 := (by injection e144)
              replace hx144_0 := xz HB hx144_0
              replace p144 := eq_true p144
              replace q144 := eq_true q144
              refine start_ (n := 37) (S := fun w' => w'.cell? ⟨gb139, 0, none⟩ = some (.slice A0_0 l0_0.length c0_0) ∧ w'.cell? ⟨gb139, 1, none⟩ = some (.slice (some ad141) l0_1.length c0_1) ∧ w'.cell? ⟨gb139, 2, none⟩ = some (.slice A0_2 l0_2.length c0_2) ∧ w'.cell? (ad141.add (x5_2).toNat) = some (.int .i64 (rd l0_1 x5_2)) ∧ w'.cell? (ad141.add (x5_2).toNat) = some (.int .i64 (rd l0_1 x5_2)) ∧ w'.cell? (ad141.add ((ji24)).toNat) = some (.int .i64 (rd l0_1 (ji24)))) (ds := []) #[false, false, false, false, false, false, false, false, false, false, false, false, false, false, false, false, false, false, false, false, false, false, false, false, false, false, false, false, false, false, false, false, false, false, false, false, false] (by kernel_rfl) rfl rfl ⟨(blk_cell BK139.out 0).trans rfl, (blk_cell BK139.out 1).trans rfl, (blk_cell BK139.out 2).trans rfl, ((HB.out.cell (World.block_lt_of_cell? w _ hw141_0)).trans hw141_0), ((HB.out.cell (World.block_lt_of_cell? w _ hw143_0)).trans hw143_0), ((HB.out.cell (World.block_lt_of_cell? w _ hw144_0)).trans hw144_0)⟩ (fun hHeld => ?_); refine with_tabW spec_l2Rule.tab6 spec_l2Rule.bits6 (fun HT_ HW_ => ?_)
              generalize wr.drew = w28 at BK139 HB hx141_0 hx143_0 hx144_0 hHeld ⊢
              refine pure_ (i := 0) (N := some 34) (v := ?_) (a' := ?_) #[true, false, false, false, false, false, false, false, false, false, false, false, false, false, false, false, false, false, false, false, false, false, false, false, false, false, false, false, false, false, false, false, false, false, false, false, false] rfl rfl (any_of HT_.out (by kernel_rfl)) (fun _ _ _ h => h) (Or.inl ⟨by rfl, ?_⟩) ?_ ?_
              rotate_left
              ·
               intro w'
               go_simp
               with_reducible rfl
              rotate_left
              ·
               simp only [Act.put, sb_, sc0_, sc1_, i64_w, i32_w]
               rfl
              refine pure_ (i := 2) (N := some 36) (v := ?_) (a' := ?_) #[true, false, true, false, false, false, false, false, false, false, false, false, false, false, false, false, false, false, false, false, false, false, false, false, false, false, false, false, false, false, false, false, false, false, false, false, false] rfl rfl (any_of HT_.out (by kernel_rfl)) (fun _ _ _ h => h) (Or.inl ⟨by rfl, ?_⟩) ?_ ?_
              rotate_left
              ·
               intro w'
               go_simp
               with_reducible rfl
              rotate_left
              ·
               simp only [Act.put, sb_, sc0_, sc1_, i64_w, i32_w]
               rfl
              refine pure_ (i := 5) (N := some 39) (v := ?_) (a' := ?_) #[true, false, true, false, false, true, false, false, false, false, false, false, false, false, false, false, false, false, false, false, false, false, false, false, false, false, false, false, false, false, false, false, false, false, false, false, false] rfl rfl (any_of HT_.out (by kernel_rfl)) (fun _ _ _ h => h) (Or.inl ⟨by rfl, ?_⟩) ?_ ?_
              rotate_left
              ·
               intro w'
               go_simp
               with_reducible rfl
              rotate_left
              ·
               simp only [Act.put, sb_, sc0_, sc1_, i64_w, i32_w]
               rfl
              refine pure_ (i := 6) (N := some 40) (v := ?_) (a' := ?_) #[true, false, true, false, false, true, true, false, false, false, false, false, false, false, false, false, false, false, false, false, false, false, false, false, false, false, false, false, false, false, false, false, false, false, false, false, false] rfl rfl (any_of HT_.out (by kernel_rfl)) (fun _ _ _ h => h) (Or.inl ⟨by rfl, ?_⟩) ?_ ?_
              rotate_left
              ·
               intro w'
               go_simp
               with_reducible rfl
              rotate_left
              ·
               simp only [Act.put, sb_, sc0_, sc1_, i64_w, i32_w]
               rfl
              refine take_ (i := 1) (N := some 35) (v := ?_) (a' := ?_) #[true, true, true, false, false, true, true, false, false, false, false, false, false, false, false, false, false, false, false, false, false, false, false, false, false, false, false, false, false, false, false, false, false, false, false, false, false] rfl rfl (take_ofW HT_.out HW_.out (by kernel_rfl)) (fun _ _ _ h => h) (Or.inl ⟨by rfl, ?_⟩) hHeld ?_ ?_
              rotate_left
              ·
               rintro w' ⟨s0, s1, s2, s3, s4, s5⟩
               go_simp
               with_reducible rfl
              rotate_left
              ·
               simp only [Act.put, sb_, sc0_, sc1_, i64_w, i32_w]
               rfl
              refine pure_ (i := 3) (N := some 37) (v := ?_) (a' := ?_) #[true, true, true, true, false, true, true, false, false, false, false, false, false, false, false, false, false, false, false, false, false, false, false, false, false, false, false, false, false, false, false, false, false, false, false, false, false] rfl rfl (any_of HT_.out (by kernel_rfl)) (fun _ _ _ h => h) (Or.inl ⟨by rfl, ?_⟩) ?_ ?_
              rotate_left
              ·
               intro w'
               go_simp
               with_reducible rfl
              rotate_left
              ·
               simp only [Act.put, sb_, sc0_, sc1_, i64_w, i32_w]
               rfl
              refine take_ (i := 4) (N := some 38) (v := ?_) (a' := ?_) #[true, true, true, true, true, true, true, false, false, false, false, false, false, false, false, false, false, false, false, false, false, false, false, false, false, false, false, false, false, false, false, false, false, false, false, false, false] rfl rfl (take_ofW HT_.out HW_.out (by kernel_rfl)) (fun _ _ _ h => h) (Or.inl ⟨by rfl, ?_⟩) hHeld ?_ ?_
              rotate_left
              ·
               rintro w' ⟨s0, s1, s2, s3, s4, s5⟩
               go_simp
               with_reducible rfl
              rotate_left
              ·
               simp only [Act.put, sb_, sc0_, sc1_, i64_w, i32_w]
               rfl
              refine one_ (i := 7) (N := some 41) #[true, true, true, true, true, true, true, true, false, false, false, false, false, false, false, false, false, false, false, false, false, false, false, false, false, false, false, false, false, false, false, false, false, false, false, false, false] rfl rfl (one_of HT_.out (by kernel_rfl)) (by decide) (fun K hK => ?_)
              refine goes_ Try.func92 (by kernel_rfl) rfl #[.int .i64 (rd l0_1 x5_2), .int .i64 0, .int .i64 (wrap64 (a1 - 1))] (by rfl) rfl rfl az ?_
              with_reducible refine (spec_l1In.calls (rd l0_1 x5_2) 0 (wrap64 (a1 - 1)) true _ A21.out).mono ?_
              rintro e w' ⟨rfl, ⟨nd, rfl⟩⟩
              refine ⟨_, rfl, ?_⟩
              refine hK.out _ _ ⟨(blk_cell BK139.out 0).trans rfl, (blk_cell BK139.out 1).trans rfl, (blk_cell BK139.out 2).trans rfl, ((HB.out.cell (World.block_lt_of_cell? w _ hw141_0)).trans hw141_0), ((HB.out.cell (World.block_lt_of_cell? w _ hw143_0)).trans hw143_0), ((HB.out.cell (World.block_lt_of_cell? w _ hw144_0)).trans hw144_0)⟩ (fun hHeld => ?_)
              clear hK K
              refine norm_ (a' := ?_) ?_ ?_
              rotate_left
              ·
               show Act.put _ (some 41) _ = _
               simp only [Act.put, sb_, sc0_, sc1_, i64_w, i32_w]
               rfl
              refine pure_ (i := 8) (N := some 42) (v := ?_) (a' := ?_) #[true, true, true, true, true, true, true, true, true, false, false, false, false, false, false, false, false, false, false, false, false, false, false, false, false, false, false, false, false, false, false, false, false, false, false, false, false] rfl rfl (any_of HT_.out (by kernel_rfl)) (fun _ _ _ h => h) (Or.inl ⟨by rfl, ?_⟩) ?_ ?_
              rotate_left
              ·
               intro w'
               go_simp
               with_reducible rfl
              rotate_left
              ·
               simp only [Act.put, sb_, sc0_, sc1_, i64_w, i32_w]
               rfl
              refine pure_ (i := 9) (N := some 43) (v := ?_) (a' := ?_) #[true, true, true, true, true, true, true, true, true, true, false, false, false, false, false, false, false, false, false, false, false, false, false, false, false, false, false, false, false, false, false, false, false, false, false, false, false] rfl rfl (any_of HT_.out (by kernel_rfl)) (fun _ _ _ h => h) (Or.inl ⟨by rfl, ?_⟩) ?_ ?_
              rotate_left
              ·
               intro w'
               go_simp
               with_reducible rfl
              rotate_left
              ·
               simp only [Act.put, sb_, sc0_, sc1_, i64_w, i32_w]
               rfl
              refine pure_ (i := 10) (N := some 44) (v := ?_) (a' := ?_) #[true, true, true, true, true, true, true, true, true, true, true, false, false, false, false, false, false, false, false, false, false, false, false, false, false, false, false, false, false, false, false, false, false, false, false, false, false] rfl rfl (any_of HT_.out (by kernel_rfl)) (fun _ _ _ h => h) (Or.inl ⟨by rfl, ?_⟩) ?_ ?_
              rotate_left
              ·
               intro w'
               go_simp
               with_reducible rfl
              rotate_left
              ·
               simp only [Act.put, sb_, sc0_, sc1_, i64_w, i32_w]
               rfl
              refine pure_ (i := 11) (N := some 45) (v := ?_) (a' := ?_) #[true, true, true, true, true, true, true, true, true, true, true, true, false, false, false, false, false, false, false, false, false, false, false, false, false, false, false, false, false, false, false, false, false, false, false, false, false] rfl rfl (any_of HT_.out (by kernel_rfl)) (fun _ _ _ h => h) (Or.inl ⟨by rfl, ?_⟩) ?_ ?_
              rotate_left
              ·
               intro w'
               go_simp
               with_reducible rfl
              rotate_left
              ·
               simp only [Act.put, sb_, sc0_, sc1_, i64_w, i32_w]
               rfl
              refine pure_ (i := 12) (N := some 46) (v := ?_) (a' := ?_) #[true, true, true, true, true, true, true, true, true, true, true, true, true, false, false, false, false, false, false, false, false, false, false, false, false, false, false, false, false, false, false, false, false, false, false, false, false] rfl rfl (any_of HT_.out (by kernel_rfl)) (fun _ _ _ h => h) (Or.inl ⟨by rfl, ?_⟩) ?_ ?_
              rotate_left
              ·
               intro w'
               go_simp
               with_reducible rfl
              rotate_left
              ·
               simp only [Act.put, sb_, sc0_, sc1_, i64_w, i32_w]
               rfl
              refine pure_ (i := 13) (N := some 47) (v := ?_) (a' := ?_) #[true, true, true, true, true, true, true, true, true, true, true, true, true, true, false, false, false, false, false, false, false, false, false, false, false, false, false, false, false, false, false, false, false, false, false, false, false] rfl rfl (any_of HT_.out (by kernel_rfl)) (fun _ _ _ h => h) (Or.inl ⟨by rfl, ?_⟩) ?_ ?_
              rotate_left
              ·
               intro w'
               go_simp
               with_reducible rfl
              rotate_left
              ·
               simp only [Act.put, sb_, sc0_, sc1_, i64_w, i32_w]
               rfl
              refine pure_ (i := 15) (N := some 49) (v := ?_) (a' := ?_) #[true, true, true, true, true, true, true, true, true, true, true, true, true, true, false, true, false, false, false, false, false, false, false, false, false, false, false, false, false, false, false, false, false, false, false, false, false] rfl rfl (any_of HT_.out (by kernel_rfl)) (fun _ _ _ h => h) (Or.inl ⟨by rfl, ?_⟩) ?_ ?_
              rotate_left
              ·
               intro w'
               go_simp
               with_reducible rfl
              rotate_left
              ·
               simp only [Act.put, sb_, sc0_, sc1_, i64_w, i32_w]
               rfl
              refine pure_ (i := 18) (N := some 52) (v := ?_) (a' := ?_) #[true, true, true, true, true, true, true, true, true, true, true, true, true, true, false, true, false, false, true, false, false, false, false, false, false, false, false, false, false, false, false, false, false, false, false, false, false] rfl rfl (any_of HT_.out (by kernel_rfl)) (fun _ _ _ h => h) (Or.inl ⟨by rfl, ?_⟩) ?_ ?_
              rotate_left
              ·
               intro w'
               go_simp
               with_reducible rfl
              rotate_left
              ·
               simp only [Act.put, sb_, sc0_, sc1_, i64_w, i32_w]
               rfl
              refine pure_ (i := 20) (N := some 54) (v := ?_) (a' := ?_) #[true, true, true, true, true, true, true, true, true, true, true, true, true, true, false, true, false, false, true, false, true, false, false, false, false, false, false, false, false, false, false, false, false, false, false, false, false] rfl rfl (any_of HT_.out (by kernel_rfl)) (fun _ _ _ h => h) (Or.inl ⟨by rfl, ?_⟩) ?_ ?_
              rotate_left
              ·
               intro w'
               go_simp
               with_reducible rfl
              rotate_left
              ·
               simp only [Act.put, sb_, sc0_, sc1_, i64_w, i32_w]
               rfl
              refine pure_ (i := 21) (N := some 55) (v := ?_) (a' := ?_) #[true, true, true, true, true, true, true, true, true, true, true, true, true, true, false, true, false, false, true, false, true, true, false, false, false, false, false, false, false, false, false, false, false, false, false, false, false] rfl rfl (any_of HT_.out (by kernel_rfl)) (fun _ _ _ h => h) (Or.inl ⟨by rfl, ?_⟩) ?_ ?_
              rotate_left
              ·
               intro w'
               go_simp
               with_reducible rfl
              rotate_left
              ·
               simp only [Act.put, sb_, sc0_, sc1_, i64_w, i32_w]
               rfl
              refine take_ (i := 14) (N := some 48) (v := ?_) (a' := ?_) #[true, true, true, true, true, true, true, true, true, true, true, true, true, true, true, true, false, false, true, false, true, true, false, false, false, false, false, false, false, false, false, false, false, false, false, false, false] rfl rfl (take_ofW HT_.out HW_.out (by kernel_rfl)) (fun _ _ _ h => h) (Or.inl ⟨by rfl, ?_⟩) hHeld ?_ ?_
              rotate_left
              ·
               rintro w' ⟨s0, s1, s2, s3, s4, s5⟩
               go_simp
               with_reducible rfl
              rotate_left
              ·
               simp only [Act.put, sb_, sc0_, sc1_, i64_w, i32_w]
               rfl
              refine pure_ (i := 16) (N := some 50) (v := ?_) (a' := ?_) #[true, true, true, true, true, true, true, true, true, true, true, true, true, true, true, true, true, false, true, false, true, true, false, false, false, false, false, false, false, false, false, false, false, false, false, false, false] rfl rfl (any_of HT_.out (by kernel_rfl)) (fun _ _ _ h => h) (Or.inl ⟨by rfl, ?_⟩) ?_ ?_
              rotate_left
              ·
               intro w'
               go_simp
               with_reducible rfl
              rotate_left
              ·
               simp only [Act.put, sb_, sc0_, sc1_, i64_w, i32_w]
               rfl
              refine take_ (i := 17) (N := some 51) (v := ?_) (a' := ?_) #[true, true, true, true, true, true, true, true, true, true, true, true, true, true, true, true, true, true, true, false, true, true, false, false, false, false, false, false, false, false, false, false, false, false, false, false, false] rfl rfl (take_ofW HT_.out HW_.out (by kernel_rfl)) (fun _ _ _ h => h) (Or.inl ⟨by rfl, ?_⟩) hHeld ?_ ?_
              rotate_left
              ·
               rintro w' ⟨s0, s1, s2, s3, s4, s5⟩
               go_simp
               with_reducible rfl
              rotate_left
              ·
               simp only [Act.put, sb_, sc0_, sc1_, i64_w, i32_w]
               rfl
              refine take_ (i := 19) (N := some 53) (v := ?_) (a' := ?_) #[true, true, true, true, true, true, true, true, true, true, true, true, true, true, true, true, true, true, true, true, true, true, false, false, false, false, false, false, false, false, false, false, false, false, false, false, false] rfl rfl (take_ofW HT_.out HW_.out (by kernel_rfl)) (fun _ _ _ h => h) (Or.inl ⟨by rfl, ?_⟩) hHeld ?_ ?_
              rotate_left
              ·
               rintro w' ⟨s0, s1, s2, s3, s4, s5⟩
               go_simp
               with_reducible rfl
              rotate_left
              ·
               simp only [Act.put, sb_, sc0_, sc1_, i64_w, i32_w]
               rfl
              refine pure_ (i := 22) (N := some 56) (v := ?_) (a' := ?_) #[true, true, true, true, true, true, true, true, true, true, true, true, true, true, true, true, true, true, true, true, true, true, true, false, false, false, false, false, false, false, false, false, false, false, false, false, false] rfl rfl (any_of HT_.out (by kernel_rfl)) (fun _ _ _ h => h) (Or.inl ⟨by rfl, ?_⟩) ?_ ?_
              rotate_left
              ·
               intro w'
               go_simp
               with_reducible rfl
              rotate_left
              ·
               simp only [Act.put, sb_, sc0_, sc1_, i64_w, i32_w]
               rfl
              refine take_ (i := 23) (N := some 57) (v := ?_) (a' := ?_) #[true, true, true, true, true, true, true, true, true, true, true, true, true, true, true, true, true, true, true, true, true, true, true, true, false, false, false, false, false, false, false, false, false, false, false, false, false] rfl rfl (take_ofW HT_.out HW_.out (by kernel_rfl)) (fun _ _ _ h => h) (Or.inl ⟨by rfl, ?_⟩) hHeld ?_ ?_
              rotate_left
              ·
               rintro w' ⟨s0, s1, s2, s3, s4, s5⟩
               go_simp
               with_reducible rfl
              rotate_left
              ·
               simp only [Act.put, sb_, sc0_, sc1_, i64_w, i32_w]
               rfl
              refine pure_ (i := 24) (N := some 58) (v := ?_) (a' := ?_) #[true, true, true, true, true, true, true, true, true, true, true, true, true, true, true, true, true, true, true, true, true, true, true, true, true, false, false, false, false, false, false, false, false, false, false, false, false] rfl rfl (any_of HT_.out (by kernel_rfl)) (fun _ _ _ h => h) (Or.inl ⟨by rfl, ?_⟩) ?_ ?_
              rotate_left
              ·
               intro w'
               go_simp
               with_reducible rfl
              rotate_left
              ·
               simp only [Act.put, sb_, sc0_, sc1_, i64_w, i32_w]
               rfl
              refine pure_ (i := 25) (N := some 59) (v := ?_) (a' := ?_) #[true, true, true, true, true, true, true, true, true, true, true, true, true, true, true, true, true, true, true, true, true, true, true, true, true, true, false, false, false, false, false, false, false, false, false, false, false] rfl rfl (any_of HT_.out (by kernel_rfl)) (fun _ _ _ h => h) (Or.inl ⟨by rfl, ?_⟩) ?_ ?_
              rotate_left
              ·
               intro w'
               go_simp
               with_reducible rfl
              rotate_left
              ·
               simp only [Act.put, sb_, sc0_, sc1_, i64_w, i32_w]
               rfl
              refine pure_ (i := 26) (N := some 60) (v := ?_) (a' := ?_) #[true, true, true, true, true, true, true, true, true, true, true, true, true, true, true, true, true, true, true, true, true, true, true, true, true, true, true, false, false, false, false, false, false, false, false, false, false] rfl rfl (any_of HT_.out (by kernel_rfl)) (fun _ _ _ h => h) (Or.inl ⟨by rfl, ?_⟩) ?_ ?_
              rotate_left
              ·
               intro w'
               go_simp
               with_reducible rfl
              rotate_left
              ·
               simp only [Act.put, sb_, sc0_, sc1_, i64_w, i32_w]
               rfl
              refine pure_ (i := 27) (N := some 61) (v := ?_) (a' := ?_) #[true, true, true, true, true, true, true, true, true, true, true, true, true, true, true, true, true, true, true, true, true, true, true, true, true, true, true, true, false, false, false, false, false, false, false, false, false] rfl rfl (any_of HT_.out (by kernel_rfl)) (fun _ _ _ h => h) (Or.inl ⟨by rfl, ?_⟩) ?_ ?_
              rotate_left
              ·
               intro w'
               go_simp
               with_reducible rfl
              rotate_left
              ·
               simp only [Act.put, sb_, sc0_, sc1_, i64_w, i32_w]
               rfl
              refine pure_ (i := 28) (N := some 62) (v := undef) (a' := ?_) #[true, true, true, true, true, true, true, true, true, true, true, true, true, true, true, true, true, true, true, true, true, true, true, true, true, true, true, true, true, false, false, false, false, false, false, false, false] rfl rfl (any_of HT_.out (by kernel_rfl)) (fun _ _ _ h => h) (Or.inr ⟨by rfl, rfl⟩) ?_ ?_
              rotate_left
              ·
               simp only [Act.put, sb_, sc0_, sc1_, i64_w, i32_w]
               rfl
              refine pure_ (i := 29) (N := some 63) (v := undef) (a' := ?_) #[true, true, true, true, true, true, true, true, true, true, true, true, true, true, true, true, true, true, true, true, true, true, true, true, true, true, true, true, true, true, false, false, false, false, false, false, false] rfl rfl (any_of HT_.out (by kernel_rfl)) (fun _ _ _ h => h) (Or.inr ⟨by rfl, rfl⟩) ?_ ?_
              rotate_left
              ·
               simp only [Act.put, sb_, sc0_, sc1_, i64_w, i32_w]
               rfl
              refine pure_ (i := 30) (N := some 64) (v := undef) (a' := ?_) #[true, true, true, true, true, true, true, true, true, true, true, true, true, true, true, true, true, true, true, true, true, true, true, true, true, true, true, true, true, true, true, false, false, false, false, false, false] rfl rfl (any_of HT_.out (by kernel_rfl)) (fun _ _ _ h => h) (Or.inr ⟨by rfl, rfl⟩) ?_ ?_
              rotate_left
              ·
               simp only [Act.put, sb_, sc0_, sc1_, i64_w, i32_w]
               rfl
              refine pure_ (i := 31) (N := some 65) (v := undef) (a' := ?_) #[true, true, true, true, true, true, true, true, true, true, true, true, true, true, true, true, true, true, true, true, true, true, true, true, true, true, true, true, true, true, true, true, false, false, false, false, false] rfl rfl (any_of HT_.out (by kernel_rfl)) (fun _ _ _ h => h) (Or.inr ⟨by rfl, rfl⟩) ?_ ?_
              rotate_left
              ·
               simp only [Act.put, sb_, sc0_, sc1_, i64_w, i32_w]
               rfl
              refine pure_ (i := 32) (N := some 66) (v := undef) (a' := ?_) #[true, true, true, true, true, true, true, true, true, true, true, true, true, true, true, true, true, true, true, true, true, true, true, true, true, true, true, true, true, true, true, true, true, false, false, false, false] rfl rfl (any_of HT_.out (by kernel_rfl)) (fun _ _ _ h => h) (Or.inr ⟨by rfl, rfl⟩) ?_ ?_
              rotate_left
              ·
               simp only [Act.put, sb_, sc0_, sc1_, i64_w, i32_w]
               rfl
              refine pure_ (i := 33) (N := some 67) (v := undef) (a' := ?_) #[true, true, true, true, true, true, true, true, true, true, true, true, true, true, true, true, true, true, true, true, true, true, true, true, true, true, true, true, true, true, true, true, true, true, false, false, false] rfl rfl (any_of HT_.out (by kernel_rfl)) (fun _ _ _ h => h) (Or.inr ⟨by rfl, rfl⟩) ?_ ?_
              rotate_left
              ·
               simp only [Act.put, sb_, sc0_, sc1_, i64_w, i32_w]
               rfl
              refine pure_ (i := 34) (N := some 68) (v := undef) (a' := ?_) #[true, true, true, true, true, true, true, true, true, true, true, true, true, true, true, true, true, true, true, true, true, true, true, true, true, true, true, true, true, true, true, true, true, true, true, false, false] rfl rfl (any_of HT_.out (by kernel_rfl)) (fun _ _ _ h => h) (Or.inr ⟨by rfl, rfl⟩) ?_ ?_
              rotate_left
              ·
               simp only [Act.put, sb_, sc0_, sc1_, i64_w, i32_w]
               rfl
              refine pure_ (i := 35) (N := some 69) (v := undef) (a' := ?_) #[true, true, true, true, true, true, true, true, true, true, true, true, true, true, true, true, true, true, true, true, true, true, true, true, true, true, true, true, true, true, true, true, true, true, true, true, false] rfl rfl (any_of HT_.out (by kernel_rfl)) (fun _ _ _ h => h) (Or.inr ⟨by rfl, rfl⟩) ?_ ?_
              rotate_left
              ·
               simp only [Act.put, sb_, sc0_, sc1_, i64_w, i32_w]
               rfl
              refine pure_ (i := 36) (N := some 70) (v := ?_) (a' := ?_) #[true, true, true, true, true, true, true, true, true, true, true, true, true, true, true, true, true, true, true, true, true, true, true, true, true, true, true, true, true, true, true, true, true, true, true, true, true] rfl rfl (any_of HT_.out (by kernel_rfl)) (fun _ _ _ h => h) (Or.inl ⟨by rfl, ?_⟩) ?_ ?_
              rotate_left
              ·
               intro w'
               go_simp
               with_reducible rfl
              rotate_left
              ·
               simp only [Act.put, sb_, sc0_, sc1_, i64_w, i32_w]
               rfl
              refine done_ (done_of HT_.out (by kernel_rfl)) ?_
              try go_wp2
              go_meet
              case rel => exact ⟨_, (true), rq, H', ⟨by have := HJ2.out; have := HK2.out; first | omega | exact Nat.le_refl _⟩, ⟨kz BK139⟩, ⟨bz1 HB GE139⟩⟩
             ·
              rw [if_neg c27] at H
              have c27b0 : decide ((rd l0_1 x5_2) ≤ (rd l0_1 (ji24))) = false := decide_eq_false c27
              clear c27
              by_cases c29 : x5_2 < (l0_2.length : Int)
              ·
               rw [if_pos c29] at H
               have c29b0 : decide (x5_2 < (l0_2.length : Int)) = true := decide_eq_true c29
               clear c29
               replace H := Option.bind_eq_some_iff.mp H
               obtain ⟨t146, A300, H⟩ := H
               have A30 := Aside0.mk A300
               clear A300
               have H' := Aside0.mk H
               clear H
               try go_wp2
               have n0_ := Aside0.mk (blk_drew BK139.out)
               have n1_ := Aside0.mk (below_drew1 HB.out)
               clear BK139
               clear HB
               have BK139 := n0_
               have HB := n1_
               clear n0_ n1_
               have p141 : 0 ≤ (x5_2 : Int) := dz
               have q141 : x5_2 < (l0_1.length : Int) := dz
               obtain ⟨ad141, e141, hx141_0⟩ := Kd.at_int HR0_1.out x5_2 p141 q141
               have hw141_0 := hx141_0
               cases e141
               replace hx141_0 := xz HB hx141_0
               replace p141 := eq_true p141
               replace q141 := eq_true q141
               have p143 : 0 ≤ (x5_2 : Int) := dz
               have q143 : x5_2 < (l0_1.length : Int) := dz
               obtain ⟨ad143, e143, hx143_0⟩ := Kd.at_int HR0_1.out x5_2 p143 q143
               have hw143_0 := hx143_0
               obtain rfl : ad141 = ad143 := (by injection e143)
               replace hx143_0 := xz HB hx143_0
               replace p143 := eq_true p143
               replace q143 := eq_true q143
               have p144 : 0 ≤ ((ji24) : Int) := dz
               have q144 : (ji24) < (l0_1.length : Int) := dz
               obtain ⟨ad144, e144, hx144_0⟩ := Kd.at_int HR0_1.out (ji24) p144 q144
               have hw144_0 := hx144_0
               obtain rfl : ad141 = ad144 := (by injection e144)
               replace hx144_0 := xz HB hx144_0
               replace p144 := eq_true p144
               replace q144 := eq_true q144
               have p145 : 0 ≤ (x5_2 : Int) := dz
               have q145 : x5_2 < (l0_2.length : Int) := dz
               obtain ⟨ad145, A145_0, c145_0, e145, hx145_0, hl145_0, hi145_0⟩ := at_LITerm HR0_2.out x5_2 p145 q145
               have hw145_0 := hx145_0
               cases e145
               replace hx145_0 := xz HB hx145_0
               have HR145_0 := Aside0.mk hi145_0
               have HC145_0 := Aside0.mk hl145_0
               clear hi145_0 hl145_0
               replace p145 := eq_true p145
               replace q145 := eq_true q145
               refine start_ (n := 37) (S := fun w' => w'.cell? ⟨gb139, 0, none⟩ = some (.slice A0_0 l0_0.length c0_0) ∧ w'.cell? ⟨gb139, 1, none⟩ = some (.slice (some ad141) l0_1.length c0_1) ∧ w'.cell? ⟨gb139, 2, none⟩ = some (.slice (some ad145) l0_2.length c0_2) ∧ w'.cell? (ad141.add (x5_2).toNat) = some (.int .i64 (rd l0_1 x5_2)) ∧ w'.cell? (ad141.add (x5_2).toNat) = some (.int .i64 (rd l0_1 x5_2)) ∧ w'.cell? (ad141.add ((ji24)).toNat) = some (.int .i64 (rd l0_1 (ji24))) ∧ w'.cell? (ad145.add (x5_2).toNat) = some (.slice A145_0 (rd_LITerm l0_2 x5_2).length c145_0)) (ds := []) #[false, false, false, false, false, false, false, false, false, false, false, false, false, false, false, false, false, false, false, false, false, false, false, false, false, false, false, false, false, false, false, false, false, false, false, false, false] (by kernel_rfl) rfl rfl ⟨(blk_cell BK139.out 0).trans rfl, (blk_cell BK139.out 1).trans rfl, (blk_cell BK139.out 2).trans rfl, ((HB.out.cell (World.block_lt_of_cell? w _ hw141_0)).trans hw141_0), ((HB.out.cell (World.block_lt_of_cell? w _ hw143_0)).trans hw143_0), ((HB.out.cell (World.block_lt_of_cell? w _ hw144_0)).trans hw144_0), ((HB.out.cell (World.block_lt_of_cell? w _ hw145_0)).trans hw145_0)⟩ (fun hHeld => ?_); refine with_tabW spec_l2Rule.tab6 spec_l2Rule.bits6 (fun HT_ HW_ => ?_)
               generalize wr.drew = w31 at BK139 HB HR145_0 hx141_0 hx143_0 hx144_0 hx145_0 hHeld ⊢
               refine pure_ (i := 0) (N := some 34) (v := ?_) (a' := ?_) #[true, false, false, false, false, false, false, false, false, false, false, false, false, false, false, false, false, false, false, false, false, false, false, false, false, false, false, false, false, false, false, false, false, false, false, false, false] rfl rfl (any_of HT_.out (by kernel_rfl)) (fun _ _ _ h => h) (Or.inl ⟨by rfl, ?_⟩) ?_ ?_
               rotate_left
               ·
                intro w'
                go_simp
                with_reducible rfl
               rotate_left
               ·
                simp only [Act.put, sb_, sc0_, sc1_, i64_w, i32_w]
                rfl
               refine pure_ (i := 2) (N := some 36) (v := ?_) (a' := ?_) #[true, false, true, false, false, false, false, false, false, false, false, false, false, false, false, false, false, false, false, false, false, false, false, false, false, false, false, false, false, false, false, false, false, false, false, false, false] rfl rfl (any_of HT_.out (by kernel_rfl)) (fun _ _ _ h => h) (Or.inl ⟨by rfl, ?_⟩) ?_ ?_
               rotate_left
               ·
                intro w'
                go_simp
                with_reducible rfl
               rotate_left
               ·
                simp only [Act.put, sb_, sc0_, sc1_, i64_w, i32_w]
                rfl
               refine pure_ (i := 5) (N := some 39) (v := ?_) (a' := ?_) #[true, false, true, false, false, true, false, false, false, false, false, false, false, false, false, false, false, false, false, false, false, false, false, false, false, false, false, false, false, false, false, false, false, false, false, false, false] rfl rfl (any_of HT_.out (by kernel_rfl)) (fun _ _ _ h => h) (Or.inl ⟨by rfl, ?_⟩) ?_ ?_
               rotate_left
               ·
                intro w'
                go_simp
                with_reducible rfl
               rotate_left
               ·
                simp only [Act.put, sb_, sc0_, sc1_, i64_w, i32_w]
                rfl
               refine pure_ (i := 6) (N := some 40) (v := ?_) (a' := ?_) #[true, false, true, false, false, true, true, false, false, false, false, false, false, false, false, false, false, false, false, false, false, false, false, false, false, false, false, false, false, false, false, false, false, false, false, false, false] rfl rfl (any_of HT_.out (by kernel_rfl)) (fun _ _ _ h => h) (Or.inl ⟨by rfl, ?_⟩) ?_ ?_
               rotate_left
               ·
                intro w'
                go_simp
                with_reducible rfl
               rotate_left
               ·
                simp only [Act.put, sb_, sc0_, sc1_, i64_w, i32_w]
                rfl
               refine take_ (i := 1) (N := some 35) (v := ?_) (a' := ?_) #[true, true, true, false, false, true, true, false, false, false, false, false, false, false, false, false, false, false, false, false, false, false, false, false, false, false, false, false, false, false, false, false, false, false, false, false, false] rfl rfl (take_ofW HT_.out HW_.out (by kernel_rfl)) (fun _ _ _ h => h) (Or.inl ⟨by rfl, ?_⟩) hHeld ?_ ?_
               rotate_left
               ·
                rintro w' ⟨s0, s1, s2, s3, s4, s5, s6⟩
                go_simp
                with_reducible rfl
               rotate_left
               ·
                simp only [Act.put, sb_, sc0_, sc1_, i64_w, i32_w]
                rfl
               refine pure_ (i := 3) (N := some 37) (v := ?_) (a' := ?_) #[true, true, true, true, false, true, true, false, false, false, false, false, false, false, false, false, false, false, false, false, false, false, false, false, false, false, false, false, false, false, false, false, false, false, false, false, false] rfl rfl (any_of HT_.out (by kernel_rfl)) (fun _ _ _ h => h) (Or.inl ⟨by rfl, ?_⟩) ?_ ?_
               rotate_left
               ·
                intro w'
                go_simp
                with_reducible rfl
               rotate_left
               ·
                simp only [Act.put, sb_, sc0_, sc1_, i64_w, i32_w]
                rfl
               refine take_ (i := 4) (N := some 38) (v := ?_) (a' := ?_) #[true, true, true, true, true, true, true, false, false, false, false, false, false, false, false, false, false, false, false, false, false, false, false, false, false, false, false, false, false, false, false, false, false, false, false, false, false] rfl rfl (take_ofW HT_.out HW_.out (by kernel_rfl)) (fun _ _ _ h => h) (Or.inl ⟨by rfl, ?_⟩) hHeld ?_ ?_
               rotate_left
               ·
                rintro w' ⟨s0, s1, s2, s3, s4, s5, s6⟩
                go_simp
                with_reducible rfl
               rotate_left
               ·
                simp only [Act.put, sb_, sc0_, sc1_, i64_w, i32_w]
                rfl
               refine one_ (i := 7) (N := some 41) #[true, true, true, true, true, true, true, true, false, false, false, false, false, false, false, false, false, false, false, false, false, false, false, false, false, false, false, false, false, false, false, false, false, false, false, false, false] rfl rfl (one_of HT_.out (by kernel_rfl)) (by decide) (fun K hK => ?_)
               refine goes_ Try.func92 (by kernel_rfl) rfl #[.int .i64 (rd l0_1 x5_2), .int .i64 0, .int .i64 (wrap64 (a1 - 1))] (by rfl) rfl rfl az ?_
               with_reducible refine (spec_l1In.calls (rd l0_1 x5_2) 0 (wrap64 (a1 - 1)) true _ A21.out).mono ?_
               rintro e w' ⟨rfl, ⟨nd, rfl⟩⟩
               refine ⟨_, rfl, ?_⟩
               refine hK.out _ _ ⟨(blk_cell BK139.out 0).trans rfl, (blk_cell BK139.out 1).trans rfl, (blk_cell BK139.out 2).trans rfl, ((HB.out.cell (World.block_lt_of_cell? w _ hw141_0)).trans hw141_0), ((HB.out.cell (World.block_lt_of_cell? w _ hw143_0)).trans hw143_0), ((HB.out.cell (World.block_lt_of_cell? w _ hw144_0)).trans hw144_0), ((HB.out.cell (World.block_lt_of_cell? w _ hw145_0)).trans hw145_0)⟩ (fun hHeld => ?_)
               clear hK K
               refine norm_ (a' := ?_) ?_ ?_
               rotate_left
               ·
                show Act.put _ (some 41) _ = _
                simp only [Act.put, sb_, sc0_, sc1_, i64_w, i32_w]
                rfl
               refine pure_ (i := 8) (N := some 42) (v := ?_) (a' := ?_) #[true, true, true, true, true, true, true, true, true, false, false, false, false, false, false, false, false, false, false, false, false, false, false, false, false, false, false, false, false, false, false, false, false, false, false, false, false] rfl rfl (any_of HT_.out (by kernel_rfl)) (fun _ _ _ h => h) (Or.inl ⟨by rfl, ?_⟩) ?_ ?_
               rotate_left
               ·
                intro w'
                go_simp
                with_reducible rfl
               rotate_left
               ·
                simp only [Act.put, sb_, sc0_, sc1_, i64_w, i32_w]
                rfl
               refine pure_ (i := 9) (N := some 43) (v := ?_) (a' := ?_) #[true, true, true, true, true, true, true, true, true, true, false, false, false, false, false, false, false, false, false, false, false, false, false, false, false, false, false, false, false, false, false, false, false, false, false, false, false] rfl rfl (any_of HT_.out (by kernel_rfl)) (fun _ _ _ h => h) (Or.inl ⟨by rfl, ?_⟩) ?_ ?_
               rotate_left
               ·
                intro w'
                go_simp
                with_reducible rfl
               rotate_left
               ·
                simp only [Act.put, sb_, sc0_, sc1_, i64_w, i32_w]
                rfl
               refine pure_ (i := 10) (N := some 44) (v := ?_) (a' := ?_) #[true, true, true, true, true, true, true, true, true, true, true, false, false, false, false, false, false, false, false, false, false, false, false, false, false, false, false, false, false, false, false, false, false, false, false, false, false] rfl rfl (any_of HT_.out (by kernel_rfl)) (fun _ _ _ h => h) (Or.inl ⟨by rfl, ?_⟩) ?_ ?_
               rotate_left
               ·
                intro w'
                go_simp
                with_reducible rfl
               rotate_left
               ·
                simp only [Act.put, sb_, sc0_, sc1_, i64_w, i32_w]
                rfl
               refine pure_ (i := 11) (N := some 45) (v := ?_) (a' := ?_) #[true, true, true, true, true, true, true, true, true, true, true, true, false, false, false, false, false, false, false, false, false, false, false, false, false, false, false, false, false, false, false, false, false, false, false, false, false] rfl rfl (any_of HT_.out (by kernel_rfl)) (fun _ _ _ h => h) (Or.inl ⟨by rfl, ?_⟩) ?_ ?_
               rotate_left
               ·
                intro w'
                go_simp
                with_reducible rfl
               rotate_left
               ·
                simp only [Act.put, sb_, sc0_, sc1_, i64_w, i32_w]
                rfl
               refine pure_ (i := 12) (N := some 46) (v := ?_) (a' := ?_) #[true, true, true, true, true, true, true, true, true, true, true, true, true, false, false, false, false, false, false, false, false, false, false, false, false, false, false, false, false, false, false, false, false, false, false, false, false] rfl rfl (any_of HT_.out (by kernel_rfl)) (fun _ _ _ h => h) (Or.inl ⟨by rfl, ?_⟩) ?_ ?_
               rotate_left
               ·
                intro w'
                go_simp
                with_reducible rfl
               rotate_left
               ·
                simp only [Act.put, sb_, sc0_, sc1_, i64_w, i32_w]
                rfl
               refine pure_ (i := 13) (N := some 47) (v := ?_) (a' := ?_) #[true, true, true, true, true, true, true, true, true, true, true, true, true, true, false, false, false, false, false, false, false, false, false, false, false, false, false, false, false, false, false, false, false, false, false, false, false] rfl rfl (any_of HT_.out (by kernel_rfl)) (fun _ _ _ h => h) (Or.inl ⟨by rfl, ?_⟩) ?_ ?_
               rotate_left
               ·
                intro w'
                go_simp
                with_reducible rfl
               rotate_left
               ·
                simp only [Act.put, sb_, sc0_, sc1_, i64_w, i32_w]
                rfl
               refine pure_ (i := 15) (N := some 49) (v := ?_) (a' := ?_) #[true, true, true, true, true, true, true, true, true, true, true, true, true, true, false, true, false, false, false, false, false, false, false, false, false, false, false, false, false, false, false, false, false, false, false, false, false] rfl rfl (any_of HT_.out (by kernel_rfl)) (fun _ _ _ h => h) (Or.inl ⟨by rfl, ?_⟩) ?_ ?_
               rotate_left
               ·
                intro w'
                go_simp
                with_reducible rfl
               rotate_left
               ·
                simp only [Act.put, sb_, sc0_, sc1_, i64_w, i32_w]
                rfl
               refine pure_ (i := 18) (N := some 52) (v := ?_) (a' := ?_) #[true, true, true, true, true, true, true, true, true, true, true, true, true, true, false, true, false, false, true, false, false, false, false, false, false, false, false, false, false, false, false, false, false, false, false, false, false] rfl rfl (any_of HT_.out (by kernel_rfl)) (fun _ _ _ h => h) (Or.inl ⟨by rfl, ?_⟩) ?_ ?_
               rotate_left
               ·
                intro w'
                go_simp
                with_reducible rfl
               rotate_left
               ·
                simp only [Act.put, sb_, sc0_, sc1_, i64_w, i32_w]
                rfl
               refine pure_ (i := 20) (N := some 54) (v := ?_) (a' := ?_) #[true, true, true, true, true, true, true, true, true, true, true, true, true, true, false, true, false, false, true, false, true, false, false, false, false, false, false, false, false, false, false, false, false, false, false, false, false] rfl rfl (any_of HT_.out (by kernel_rfl)) (fun _ _ _ h => h) (Or.inl ⟨by rfl, ?_⟩) ?_ ?_
               rotate_left
               ·
                intro w'
                go_simp
                with_reducible rfl
               rotate_left
               ·
                simp only [Act.put, sb_, sc0_, sc1_, i64_w, i32_w]
                rfl
               refine pure_ (i := 21) (N := some 55) (v := ?_) (a' := ?_) #[true, true, true, true, true, true, true, true, true, true, true, true, true, true, false, true, false, false, true, false, true, true, false, false, false, false, false, false, false, false, false, false, false, false, false, false, false] rfl rfl (any_of HT_.out (by kernel_rfl)) (fun _ _ _ h => h) (Or.inl ⟨by rfl, ?_⟩) ?_ ?_
               rotate_left
               ·
                intro w'
                go_simp
                with_reducible rfl
               rotate_left
               ·
                simp only [Act.put, sb_, sc0_, sc1_, i64_w, i32_w]
                rfl
               refine take_ (i := 14) (N := some 48) (v := ?_) (a' := ?_) #[true, true, true, true, true, true, true, true, true, true, true, true, true, true, true, true, false, false, true, false, true, true, false, false, false, false, false, false, false, false, false, false, false, false, false, false, false] rfl rfl (take_ofW HT_.out HW_.out (by kernel_rfl)) (fun _ _ _ h => h) (Or.inl ⟨by rfl, ?_⟩) hHeld ?_ ?_
               rotate_left
               ·
                rintro w' ⟨s0, s1, s2, s3, s4, s5, s6⟩
                go_simp
                with_reducible rfl
               rotate_left
               ·
                simp only [Act.put, sb_, sc0_, sc1_, i64_w, i32_w]
                rfl
               refine pure_ (i := 16) (N := some 50) (v := ?_) (a' := ?_) #[true, true, true, true, true, true, true, true, true, true, true, true, true, true, true, true, true, false, true, false, true, true, false, false, false, false, false, false, false, false, false, false, false, false, false, false, false] rfl rfl (any_of HT_.out (by kernel_rfl)) (fun _ _ _ h => h) (Or.inl ⟨by rfl, ?_⟩) ?_ ?_
               rotate_left
               ·
                intro w'
                go_simp
                with_reducible rfl
               rotate_left
               ·
                simp only [Act.put, sb_, sc0_, sc1_, i64_w, i32_w]
                rfl
               refine take_ (i := 17) (N := some 51) (v := ?_) (a' := ?_) #[true, true, true, true, true, true, true, true, true, true, true, true, true, true, true, true, true, true, true, false, true, true, false, false, false, false, false, false, false, false, false, false, false, false, false, false, false] rfl rfl (take_ofW HT_.out HW_.out (by kernel_rfl)) (fun _ _ _ h => h) (Or.inl ⟨by rfl, ?_⟩) hHeld ?_ ?_
               rotate_left
               ·
                rintro w' ⟨s0, s1, s2, s3, s4, s5, s6⟩
                go_simp
                with_reducible rfl
               rotate_left
               ·
                simp only [Act.put, sb_, sc0_, sc1_, i64_w, i32_w]
                rfl
               refine take_ (i := 19) (N := some 53) (v := ?_) (a' := ?_) #[true, true, true, true, true, true, true, true, true, true, true, true, true, true, true, true, true, true, true, true, true, true, false, false, false, false, false, false, false, false, false, false, false, false, false, false, false] rfl rfl (take_ofW HT_.out HW_.out (by kernel_rfl)) (fun _ _ _ h => h) (Or.inl ⟨by rfl, ?_⟩) hHeld ?_ ?_
               rotate_left
               ·
                rintro w' ⟨s0, s1, s2, s3, s4, s5, s6⟩
                go_simp
                with_reducible rfl
               rotate_left
               ·
                simp only [Act.put, sb_, sc0_, sc1_, i64_w, i32_w]
                rfl
               refine pure_ (i := 22) (N := some 56) (v := ?_) (a' := ?_) #[true, true, true, true, true, true, true, true, true, true, true, true, true, true, true, true, true, true, true, true, true, true, true, false, false, false, false, false, false, false, false, false, false, false, false, false, false] rfl rfl (any_of HT_.out (by kernel_rfl)) (fun _ _ _ h => h) (Or.inl ⟨by rfl, ?_⟩) ?_ ?_
               rotate_left
               ·
                intro w'
                go_simp
                with_reducible rfl
               rotate_left
               ·
                simp only [Act.put, sb_, sc0_, sc1_, i64_w, i32_w]
                rfl
               refine take_ (i := 23) (N := some 57) (v := ?_) (a' := ?_) #[true, true, true, true, true, true, true, true, true, true, true, true, true, true, true, true, true, true, true, true, true, true, true, true, false, false, false, false, false, false, false, false, false, false, false, false, false] rfl rfl (take_ofW HT_.out HW_.out (by kernel_rfl)) (fun _ _ _ h => h) (Or.inl ⟨by rfl, ?_⟩) hHeld ?_ ?_
               rotate_left
               ·
                rintro w' ⟨s0, s1, s2, s3, s4, s5, s6⟩
                go_simp
                with_reducible rfl
               rotate_left
               ·
                simp only [Act.put, sb_, sc0_, sc1_, i64_w, i32_w]
                rfl
               refine pure_ (i := 24) (N := some 58) (v := ?_) (a' := ?_) #[true, true, true, true, true, true, true, true, true, true, true, true, true, true, true, true, true, true, true, true, true, true, true, true, true, false, false, false, false, false, false, false, false, false, false, false, false] rfl rfl (any_of HT_.out (by kernel_rfl)) (fun _ _ _ h => h) (Or.inl ⟨by rfl, ?_⟩) ?_ ?_
               rotate_left
               ·
                intro w'
                go_simp
                with_reducible rfl
               rotate_left
               ·
                simp only [Act.put, sb_, sc0_, sc1_, i64_w, i32_w]
                rfl
               refine pure_ (i := 25) (N := some 59) (v := ?_) (a' := ?_) #[true, true, true, true, true, true, true, true, true, true, true, true, true, true, true, true, true, true, true, true, true, true, true, true, true, true, false, false, false, false, false, false, false, false, false, false, false] rfl rfl (any_of HT_.out (by kernel_rfl)) (fun _ _ _ h => h) (Or.inl ⟨by rfl, ?_⟩) ?_ ?_
               rotate_left
               ·
                intro w'
                go_simp
                with_reducible rfl
               rotate_left
               ·
                simp only [Act.put, sb_, sc0_, sc1_, i64_w, i32_w]
                rfl
               refine pure_ (i := 26) (N := some 60) (v := ?_) (a' := ?_) #[true, true, true, true, true, true, true, true, true, true, true, true, true, true, true, true, true, true, true, true, true, true, true, true, true, true, true, false, false, false, false, false, false, false, false, false, false] rfl rfl (any_of HT_.out (by kernel_rfl)) (fun _ _ _ h => h) (Or.inl ⟨by rfl, ?_⟩) ?_ ?_
               rotate_left
               ·
                intro w'
                go_simp
                with_reducible rfl
               rotate_left
               ·
                simp only [Act.put, sb_, sc0_, sc1_, i64_w, i32_w]
                rfl
               refine pure_ (i := 27) (N := some 61) (v := ?_) (a' := ?_) #[true, true, true, true, true, true, true, true, true, true, true, true, true, true, true, true, true, true, true, true, true, true, true, true, true, true, true, true, false, false, false, false, false, false, false, false, false] rfl rfl (any_of HT_.out (by kernel_rfl)) (fun _ _ _ h => h) (Or.inl ⟨by rfl, ?_⟩) ?_ ?_
               rotate_left
               ·
                intro w'
                go_simp
                with_reducible rfl
               rotate_left
               ·
                simp only [Act.put, sb_, sc0_, sc1_, i64_w, i32_w]
                rfl
               refine pure_ (i := 28) (N := some 62) (v := ?_) (a' := ?_) #[true, true, true, true, true, true, true, true, true, true, true, true, true, true, true, true, true, true, true, true, true, true, true, true, true, true, true, true, true, false, false, false, false, false, false, false, false] rfl rfl (any_of HT_.out (by kernel_rfl)) (fun _ _ _ h => h) (Or.inl ⟨by rfl, ?_⟩) ?_ ?_
               rotate_left
               ·
                intro w'
                go_simp
                with_reducible rfl
               rotate_left
               ·
                simp only [Act.put, sb_, sc0_, sc1_, i64_w, i32_w]
                rfl
               refine pure_ (i := 30) (N := some 64) (v := ?_) (a' := ?_) #[true, true, true, true, true, true, true, true, true, true, true, true, true, true, true, true, true, true, true, true, true, true, true, true, true, true, true, true, true, false, true, false, false, false, false, false, false] rfl rfl (any_of HT_.out (by kernel_rfl)) (fun _ _ _ h => h) (Or.inl ⟨by rfl, ?_⟩) ?_ ?_
               rotate_left
               ·
                intro w'
                go_simp
                with_reducible rfl
               rotate_left
               ·
                simp only [Act.put, sb_, sc0_, sc1_, i64_w, i32_w]
                rfl
               refine pure_ (i := 33) (N := some 67) (v := ?_) (a' := ?_) #[true, true, true, true, true, true, true, true, true, true, true, true, true, true, true, true, true, true, true, true, true, true, true, true, true, true, true, true, true, false, true, false, false, true, false, false, false] rfl rfl (any_of HT_.out (by kernel_rfl)) (fun _ _ _ h => h) (Or.inl ⟨by rfl, ?_⟩) ?_ ?_
               rotate_left
               ·
                intro w'
                go_simp
                with_reducible rfl
               rotate_left
               ·
                simp only [Act.put, sb_, sc0_, sc1_, i64_w, i32_w]
                rfl
               refine take_ (i := 29) (N := some 63) (v := ?_) (a' := ?_) #[true, true, true, true, true, true, true, true, true, true, true, true, true, true, true, true, true, true, true, true, true, true, true, true, true, true, true, true, true, true, true, false, false, true, false, false, false] rfl rfl (take_ofW HT_.out HW_.out (by kernel_rfl)) (fun _ _ _ h => h) (Or.inl ⟨by rfl, ?_⟩) hHeld ?_ ?_
               rotate_left
               ·
                rintro w' ⟨s0, s1, s2, s3, s4, s5, s6⟩
                go_simp
                with_reducible rfl
               rotate_left
               ·
                simp only [Act.put, sb_, sc0_, sc1_, i64_w, i32_w]
                rfl
               refine pure_ (i := 31) (N := some 65) (v := ?_) (a' := ?_) #[true, true, true, true, true, true, true, true, true, true, true, true, true, true, true, true, true, true, true, true, true, true, true, true, true, true, true, true, true, true, true, true, false, true, false, false, false] rfl rfl (any_of HT_.out (by kernel_rfl)) (fun _ _ _ h => h) (Or.inl ⟨by rfl, ?_⟩) ?_ ?_
               rotate_left
               ·
                intro w'
                go_simp
                with_reducible rfl
               rotate_left
               ·
                simp only [Act.put, sb_, sc0_, sc1_, i64_w, i32_w]
                rfl
               refine take_ (i := 32) (N := some 66) (v := ?_) (a' := ?_) #[true, true, true, true, true, true, true, true, true, true, true, true, true, true, true, true, true, true, true, true, true, true, true, true, true, true, true, true, true, true, true, true, true, true, false, false, false] rfl rfl (take_ofW HT_.out HW_.out (by kernel_rfl)) (fun _ _ _ h => h) (Or.inl ⟨by rfl, ?_⟩) hHeld ?_ ?_
               rotate_left
               ·
                rintro w' ⟨s0, s1, s2, s3, s4, s5, s6⟩
                go_simp
                with_reducible rfl
               rotate_left
               ·
                simp only [Act.put, sb_, sc0_, sc1_, i64_w, i32_w]
                rfl
               refine one_ (i := 34) (N := some 68) #[true, true, true, true, true, true, true, true, true, true, true, true, true, true, true, true, true, true, true, true, true, true, true, true, true, true, true, true, true, true, true, true, true, true, true, false, false] rfl rfl (one_of HT_.out (by kernel_rfl)) (by decide) (fun K hK => ?_)
               refine goes_ Try.func156 (by kernel_rfl) rfl #[.slice A145_0 (rd_LITerm l0_2 x5_2).length c145_0, .int .i64 a1, .int .i64 1] (by rfl) rfl rfl az ?_
               with_reducible refine (spec_l2Is.calls k2 _ _ (rd_LITerm l0_2 x5_2) a1 1 t146 _ ?side1 ?side2 A30.out).mono ?_
               (case side1 => repeat (first | exact (Kd.C_below HR145_0.out (bz1 HB GE139)) | (with_reducible refine Kd.C_alloc ?_ _) | (with_reducible refine Kd.C_drewN ?_ _) | (with_reducible refine Kd.C_drew ?_)))
               (case side2 => exact HC145_0.out)
               rintro e w32 ⟨rfl, hb⟩
               refine ⟨_, rfl, ?_⟩
               have n0_ := Aside0.mk (blk_below (g := gb139) (o := .cells #[.slice A0_0 l0_0.length c0_0, .slice (some ad141) l0_1.length c0_1, .slice (some ad145) l0_2.length c0_2] 145 (0, 0)) (kz BK139) hb)
               have n1_ := Aside0.mk (below_step (bz1 HB GE139) hb)
               clear BK139
               clear HB
               have BK139 := n0_
               have HB := n1_
               clear n0_ n1_
               (try clear hb)
               (try clear hb2)
               (try clear hk)
               (try clear hi)
               refine hK.out _ _ ⟨(blk_cell BK139.out 0).trans rfl, (blk_cell BK139.out 1).trans rfl, (blk_cell BK139.out 2).trans rfl, ((HB.out.cell (World.block_lt_of_cell? w _ hw141_0)).trans hw141_0), ((HB.out.cell (World.block_lt_of_cell? w _ hw143_0)).trans hw143_0), ((HB.out.cell (World.block_lt_of_cell? w _ hw144_0)).trans hw144_0), ((HB.out.cell (World.block_lt_of_cell? w _ hw145_0)).trans hw145_0)⟩ (fun hHeld => ?_)
               clear hK K
               refine norm_ (a' := ?_) ?_ ?_
               rotate_left
               ·
                show Act.put _ (some 68) _ = _
                simp only [Act.put, sb_, sc0_, sc1_, i64_w, i32_w]
                rfl
               refine pure_ (i := 35) (N := some 69) (v := ?_) (a' := ?_) #[true, true, true, true, true, true, true, true, true, true, true, true, true, true, true, true, true, true, true, true, true, true, true, true, true, true, true, true, true, true, true, true, true, true, true, true, false] rfl rfl (any_of HT_.out (by kernel_rfl)) (fun _ _ _ h => h) (Or.inl ⟨by rfl, ?_⟩) ?_ ?_
               rotate_left
               ·
                intro w'
                go_simp
                with_reducible rfl
               rotate_left
               ·
                simp only [Act.put, sb_, sc0_, sc1_, i64_w, i32_w]
                rfl
               refine pure_ (i := 36) (N := some 70) (v := ?_) (a' := ?_) #[true, true, true, true, true, true, true, true, true, true, true, true, true, true, true, true, true, true, true, true, true, true, true, true, true, true, true, true, true, true, true, true, true, true, true, true, true] rfl rfl (any_of HT_.out (by kernel_rfl)) (fun _ _ _ h => h) (Or.inl ⟨by rfl, ?_⟩) ?_ ?_
               rotate_left
               ·
                intro w'
                go_simp
                with_reducible rfl
               rotate_left
               ·
                simp only [Act.put, sb_, sc0_, sc1_, i64_w, i32_w]
                rfl
               refine done_ (done_of HT_.out (by kernel_rfl)) ?_
               try go_wp2
               go_meet
               case rel => exact ⟨_, (!t146), rq, H', ⟨by have := HJ2.out; have := HK2.out; first | omega | exact Nat.le_refl _⟩, ⟨kz BK139⟩, ⟨bz1 HB GE139⟩⟩
              ·
               rw [if_neg c29] at H
               exact absurd H (by simp)
            ·
             rw [if_neg c26] at H
             exact absurd H (by simp)
           ·
            rw [if_neg c25] at H
            exact absurd H (by simp)
          ·
           rw [if_neg c23] at H
           have c23b0 : decide (0 < x5_2) = false := decide_eq_false c23
           clear c23
           by_cases c33 : x5_2 < (l0_2.length : Int)
           ·
            rw [if_pos c33] at H
            have c33b0 : decide (x5_2 < (l0_2.length : Int)) = true := decide_eq_true c33
            clear c33
            replace H := Option.bind_eq_some_iff.mp H
            obtain ⟨t148, A340, H⟩ := H
            have A34 := Aside0.mk A340
            clear A340
            have H' := Aside0.mk H
            clear H
            try go_wp2
            have n0_ := Aside0.mk (blk_drew BK139.out)
            have n1_ := Aside0.mk (below_drew1 HB.out)
            clear BK139
            clear HB
            have BK139 := n0_
            have HB := n1_
            clear n0_ n1_
            have p141 : 0 ≤ (x5_2 : Int) := dz
            have q141 : x5_2 < (l0_1.length : Int) := dz
            obtain ⟨ad141, e141, hx141_0⟩ := Kd.at_int HR0_1.out x5_2 p141 q141
            have hw141_0 := hx141_0
            cases e141
            replace hx141_0 := xz HB hx141_0
            replace p141 := eq_true p141
            replace q141 := eq_true q141
            have p147 : 0 ≤ (x5_2 : Int) := dz
            have q147 : x5_2 < (l0_2.length : Int) := dz
            obtain ⟨ad147, A147_0, c147_0, e147, hx147_0, hl147_0, hi147_0⟩ := at_LITerm HR0_2.out x5_2 p147 q147
            have hw147_0 := hx147_0
            cases e147
            replace hx147_0 := xz HB hx147_0
            have HR147_0 := Aside0.mk hi147_0
            have HC147_0 := Aside0.mk hl147_0
            clear hi147_0 hl147_0
            replace p147 := eq_true p147
            replace q147 := eq_true q147
            refine start_ (n := 37) (S := fun w' => w'.cell? ⟨gb139, 0, none⟩ = some (.slice A0_0 l0_0.length c0_0) ∧ w'.cell? ⟨gb139, 1, none⟩ = some (.slice (some ad141) l0_1.length c0_1) ∧ w'.cell? ⟨gb139, 2, none⟩ = some (.slice (some ad147) l0_2.length c0_2) ∧ w'.cell? (ad141.add (x5_2).toNat) = some (.int .i64 (rd l0_1 x5_2)) ∧ w'.cell? (ad147.add (x5_2).toNat) = some (.slice A147_0 (rd_LITerm l0_2 x5_2).length c147_0)) (ds := []) #[false, false, false, false, false, false, false, false, false, false, false, false, false, false, false, false, false, false, false, false, false, false, false, false, false, false, false, false, false, false, false, false, false, false, false, false, false] (by kernel_rfl) rfl rfl ⟨(blk_cell BK139.out 0).trans rfl, (blk_cell BK139.out 1).trans rfl, (blk_cell BK139.out 2).trans rfl, ((HB.out.cell (World.block_lt_of_cell? w _ hw141_0)).trans hw141_0), ((HB.out.cell (World.block_lt_of_cell? w _ hw147_0)).trans hw147_0)⟩ (fun hHeld => ?_); refine with_tabW spec_l2Rule.tab6 spec_l2Rule.bits6 (fun HT_ HW_ => ?_)
            generalize wr.drew = w35 at BK139 HB HR147_0 hx141_0 hx147_0 hHeld ⊢
            refine pure_ (i := 0) (N := some 34) (v := ?_) (a' := ?_) #[true, false, false, false, false, false, false, false, false, false, false, false, false, false, false, false, false, false, false, false, false, false, false, false, false, false, false, false, false, false, false, false, false, false, false, false, false] rfl rfl (any_of HT_.out (by kernel_rfl)) (fun _ _ _ h => h) (Or.inl ⟨by rfl, ?_⟩) ?_ ?_
            rotate_left
            ·
             intro w'
             go_simp
             with_reducible rfl
            rotate_left
            ·
             simp only [Act.put, sb_, sc0_, sc1_, i64_w, i32_w]
             rfl
            refine pure_ (i := 2) (N := some 36) (v := ?_) (a' := ?_) #[true, false, true, false, false, false, false, false, false, false, false, false, false, false, false, false, false, false, false, false, false, false, false, false, false, false, false, false, false, false, false, false, false, false, false, false, false] rfl rfl (any_of HT_.out (by kernel_rfl)) (fun _ _ _ h => h) (Or.inl ⟨by rfl, ?_⟩) ?_ ?_
            rotate_left
            ·
             intro w'
             go_simp
             with_reducible rfl
            rotate_left
            ·
             simp only [Act.put, sb_, sc0_, sc1_, i64_w, i32_w]
             rfl
            refine pure_ (i := 5) (N := some 39) (v := ?_) (a' := ?_) #[true, false, true, false, false, true, false, false, false, false, false, false, false, false, false, false, false, false, false, false, false, false, false, false, false, false, false, false, false, false, false, false, false, false, false, false, false] rfl rfl (any_of HT_.out (by kernel_rfl)) (fun _ _ _ h => h) (Or.inl ⟨by rfl, ?_⟩) ?_ ?_
            rotate_left
            ·
             intro w'
             go_simp
             with_reducible rfl
            rotate_left
            ·
             simp only [Act.put, sb_, sc0_, sc1_, i64_w, i32_w]
             rfl
            refine pure_ (i := 6) (N := some 40) (v := ?_) (a' := ?_) #[true, false, true, false, false, true, true, false, false, false, false, false, false, false, false, false, false, false, false, false, false, false, false, false, false, false, false, false, false, false, false, false, false, false, false, false, false] rfl rfl (any_of HT_.out (by kernel_rfl)) (fun _ _ _ h => h) (Or.inl ⟨by rfl, ?_⟩) ?_ ?_
            rotate_left
            ·
             intro w'
             go_simp
             with_reducible rfl
            rotate_left
            ·
             simp only [Act.put, sb_, sc0_, sc1_, i64_w, i32_w]
             rfl
            refine take_ (i := 1) (N := some 35) (v := ?_) (a' := ?_) #[true, true, true, false, false, true, true, false, false, false, false, false, false, false, false, false, false, false, false, false, false, false, false, false, false, false, false, false, false, false, false, false, false, false, false, false, false] rfl rfl (take_ofW HT_.out HW_.out (by kernel_rfl)) (fun _ _ _ h => h) (Or.inl ⟨by rfl, ?_⟩) hHeld ?_ ?_
            rotate_left
            ·
             rintro w' ⟨s0, s1, s2, s3, s4⟩
             go_simp
             with_reducible rfl
            rotate_left
            ·
             simp only [Act.put, sb_, sc0_, sc1_, i64_w, i32_w]
             rfl
            refine pure_ (i := 3) (N := some 37) (v := ?_) (a' := ?_) #[true, true, true, true, false, true, true, false, false, false, false, false, false, false, false, false, false, false, false, false, false, false, false, false, false, false, false, false, false, false, false, false, false, false, false, false, false] rfl rfl (any_of HT_.out (by kernel_rfl)) (fun _ _ _ h => h) (Or.inl ⟨by rfl, ?_⟩) ?_ ?_
            rotate_left
            ·
             intro w'
             go_simp
             with_reducible rfl
            rotate_left
            ·
             simp only [Act.put, sb_, sc0_, sc1_, i64_w, i32_w]
             rfl
            refine take_ (i := 4) (N := some 38) (v := ?_) (a' := ?_) #[true, true, true, true, true, true, true, false, false, false, false, false, false, false, false, false, false, false, false, false, false, false, false, false, false, false, false, false, false, false, false, false, false, false, false, false, false] rfl rfl (take_ofW HT_.out HW_.out (by kernel_rfl)) (fun _ _ _ h => h) (Or.inl ⟨by rfl, ?_⟩) hHeld ?_ ?_
            rotate_left
            ·
             rintro w' ⟨s0, s1, s2, s3, s4⟩
             go_simp
             with_reducible rfl
            rotate_left
            ·
             simp only [Act.put, sb_, sc0_, sc1_, i64_w, i32_w]
             rfl
            refine one_ (i := 7) (N := some 41) #[true, true, true, true, true, true, true, true, false, false, false, false, false, false, false, false, false, false, false, false, false, false, false, false, false, false, false, false, false, false, false, false, false, false, false, false, false] rfl rfl (one_of HT_.out (by kernel_rfl)) (by decide) (fun K hK => ?_)
            refine goes_ Try.func92 (by kernel_rfl) rfl #[.int .i64 (rd l0_1 x5_2), .int .i64 0, .int .i64 (wrap64 (a1 - 1))] (by rfl) rfl rfl az ?_
            with_reducible refine (spec_l1In.calls (rd l0_1 x5_2) 0 (wrap64 (a1 - 1)) true _ A21.out).mono ?_
            rintro e w' ⟨rfl, ⟨nd, rfl⟩⟩
            refine ⟨_, rfl, ?_⟩
            refine hK.out _ _ ⟨(blk_cell BK139.out 0).trans rfl, (blk_cell BK139.out 1).trans rfl, (blk_cell BK139.out 2).trans rfl, ((HB.out.cell (World.block_lt_of_cell? w _ hw141_0)).trans hw141_0), ((HB.out.cell (World.block_lt_of_cell? w _ hw147_0)).trans hw147_0)⟩ (fun hHeld => ?_)
            clear hK K
            refine norm_ (a' := ?_) ?_ ?_
            rotate_left
            ·
             show Act.put _ (some 41) _ = _
             simp only [Act.put, sb_, sc0_, sc1_, i64_w, i32_w]
             rfl
            refine pure_ (i := 8) (N := some 42) (v := ?_) (a' := ?_) #[true, true, true, true, true, true, true, true, true, false, false, false, false, false, false, false, false, false, false, false, false, false, false, false, false, false, false, false, false, false, false, false, false, false, false, false, false] rfl rfl (any_of HT_.out (by kernel_rfl)) (fun _ _ _ h => h) (Or.inl ⟨by rfl, ?_⟩) ?_ ?_
            rotate_left
            ·
             intro w'
             go_simp
             with_reducible rfl
            rotate_left
            ·
             simp only [Act.put, sb_, sc0_, sc1_, i64_w, i32_w]
             rfl
            refine pure_ (i := 9) (N := some 43) (v := ?_) (a' := ?_) #[true, true, true, true, true, true, true, true, true, true, false, false, false, false, false, false, false, false, false, false, false, false, false, false, false, false, false, false, false, false, false, false, false, false, false, false, false] rfl rfl (any_of HT_.out (by kernel_rfl)) (fun _ _ _ h => h) (Or.inl ⟨by rfl, ?_⟩) ?_ ?_
            rotate_left
            ·
             intro w'
             go_simp
             with_reducible rfl
            rotate_left
            ·
             simp only [Act.put, sb_, sc0_, sc1_, i64_w, i32_w]
             rfl
            refine pure_ (i := 10) (N := some 44) (v := ?_) (a' := ?_) #[true, true, true, true, true, true, true, true, true, true, true, false, false, false, false, false, false, false, false, false, false, false, false, false, false, false, false, false, false, false, false, false, false, false, false, false, false] rfl rfl (any_of HT_.out (by kernel_rfl)) (fun _ _ _ h => h) (Or.inl ⟨by rfl, ?_⟩) ?_ ?_
            rotate_left
            ·
             intro w'
             go_simp
             with_reducible rfl
            rotate_left
            ·
             simp only [Act.put, sb_, sc0_, sc1_, i64_w, i32_w]
             rfl
            refine pure_ (i := 11) (N := some 45) (v := ?_) (a' := ?_) #[true, true, true, true, true, true, true, true, true, true, true, true, false, false, false, false, false, false, false, false, false, false, false, false, false, false, false, false, false, false, false, false, false, false, false, false, false] rfl rfl (any_of HT_.out (by kernel_rfl)) (fun _ _ _ h => h) (Or.inl ⟨by rfl, ?_⟩) ?_ ?_
            rotate_left
            ·
             intro w'
             go_simp
             with_reducible rfl
            rotate_left
            ·
             simp only [Act.put, sb_, sc0_, sc1_, i64_w, i32_w]
             rfl
            refine pure_ (i := 12) (N := some 46) (v := ?_) (a' := ?_) #[true, true, true, true, true, true, true, true, true, true, true, true, true, false, false, false, false, false, false, false, false, false, false, false, false, false, false, false, false, false, false, false, false, false, false, false, false] rfl rfl (any_of HT_.out (by kernel_rfl)) (fun _ _ _ h => h) (Or.inl ⟨by rfl, ?_⟩) ?_ ?_
            rotate_left
            ·
             intro w'
             go_simp
             with_reducible rfl
            rotate_left
            ·
             simp only [Act.put, sb_, sc0_, sc1_, i64_w, i32_w]
             rfl
            refine pure_ (i := 13) (N := some 47) (v := undef) (a' := ?_) #[true, true, true, true, true, true, true, true, true, true, true, true, true, true, false, false, false, false, false, false, false, false, false, false, false, false, false, false, false, false, false, false, false, false, false, false, false] rfl rfl (any_of HT_.out (by kernel_rfl)) (fun _ _ _ h => h) (Or.inr ⟨by rfl, rfl⟩) ?_ ?_
            rotate_left
            ·
             simp only [Act.put, sb_, sc0_, sc1_, i64_w, i32_w]
             rfl
            refine pure_ (i := 14) (N := some 48) (v := undef) (a' := ?_) #[true, true, true, true, true, true, true, true, true, true, true, true, true, true, true, false, false, false, false, false, false, false, false, false, false, false, false, false, false, false, false, false, false, false, false, false, false] rfl rfl (any_of HT_.out (by kernel_rfl)) (fun _ _ _ h => h) (Or.inr ⟨by rfl, rfl⟩) ?_ ?_
            rotate_left
            ·
             simp only [Act.put, sb_, sc0_, sc1_, i64_w, i32_w]
             rfl
            refine pure_ (i := 15) (N := some 49) (v := undef) (a' := ?_) #[true, true, true, true, true, true, true, true, true, true, true, true, true, true, true, true, false, false, false, false, false, false, false, false, false, false, false, false, false, false, false, false, false, false, false, false, false] rfl rfl (any_of HT_.out (by kernel_rfl)) (fun _ _ _ h => h) (Or.inr ⟨by rfl, rfl⟩) ?_ ?_
            rotate_left
            ·
             simp only [Act.put, sb_, sc0_, sc1_, i64_w, i32_w]
             rfl
            refine pure_ (i := 16) (N := some 50) (v := undef) (a' := ?_) #[true, true, true, true, true, true, true, true, true, true, true, true, true, true, true, true, true, false, false, false, false, false, false, false, false, false, false, false, false, false, false, false, false, false, false, false, false] rfl rfl (any_of HT_.out (by kernel_rfl)) (fun _ _ _ h => h) (Or.inr ⟨by rfl, rfl⟩) ?_ ?_
            rotate_left
            ·
             simp only [Act.put, sb_, sc0_, sc1_, i64_w, i32_w]
             rfl
            refine pure_ (i := 17) (N := some 51) (v := undef) (a' := ?_) #[true, true, true, true, true, true, true, true, true, true, true, true, true, true, true, true, true, true, false, false, false, false, false, false, false, false, false, false, false, false, false, false, false, false, false, false, false] rfl rfl (any_of HT_.out (by kernel_rfl)) (fun _ _ _ h => h) (Or.inr ⟨by rfl, rfl⟩) ?_ ?_
            rotate_left
            ·
             simp only [Act.put, sb_, sc0_, sc1_, i64_w, i32_w]
             rfl
            refine pure_ (i := 18) (N := some 52) (v := undef) (a' := ?_) #[true, true, true, true, true, true, true, true, true, true, true, true, true, true, true, true, true, true, true, false, false, false, false, false, false, false, false, false, false, false, false, false, false, false, false, false, false] rfl rfl (any_of HT_.out (by kernel_rfl)) (fun _ _ _ h => h) (Or.inr ⟨by rfl, rfl⟩) ?_ ?_
            rotate_left
            ·
             simp only [Act.put, sb_, sc0_, sc1_, i64_w, i32_w]
             rfl
            refine pure_ (i := 19) (N := some 53) (v := undef) (a' := ?_) #[true, true, true, true, true, true, true, true, true, true, true, true, true, true, true, true, true, true, true, true, false, false, false, false, false, false, false, false, false, false, false, false, false, false, false, false, false] rfl rfl (any_of HT_.out (by kernel_rfl)) (fun _ _ _ h => h) (Or.inr ⟨by rfl, rfl⟩) ?_ ?_
            rotate_left
            ·
             simp only [Act.put, sb_, sc0_, sc1_, i64_w, i32_w]
             rfl
            refine pure_ (i := 20) (N := some 54) (v := undef) (a' := ?_) #[true, true, true, true, true, true, true, true, true, true, true, true, true, true, true, true, true, true, true, true, true, false, false, false, false, false, false, false, false, false, false, false, false, false, false, false, false] rfl rfl (any_of HT_.out (by kernel_rfl)) (fun _ _ _ h => h) (Or.inr ⟨by rfl, rfl⟩) ?_ ?_
            rotate_left
            ·
             simp only [Act.put, sb_, sc0_, sc1_, i64_w, i32_w]
             rfl
            refine pure_ (i := 21) (N := some 55) (v := undef) (a' := ?_) #[true, true, true, true, true, true, true, true, true, true, true, true, true, true, true, true, true, true, true, true, true, true, false, false, false, false, false, false, false, false, false, false, false, false, false, false, false] rfl rfl (any_of HT_.out (by kernel_rfl)) (fun _ _ _ h => h) (Or.inr ⟨by rfl, rfl⟩) ?_ ?_
            rotate_left
            ·
             simp only [Act.put, sb_, sc0_, sc1_, i64_w, i32_w]
             rfl
            refine pure_ (i := 22) (N := some 56) (v := undef) (a' := ?_) #[true, true, true, true, true, true, true, true, true, true, true, true, true, true, true, true, true, true, true, true, true, true, true, false, false, false, false, false, false, false, false, false, false, false, false, false, false] rfl rfl (any_of HT_.out (by kernel_rfl)) (fun _ _ _ h => h) (Or.inr ⟨by rfl, rfl⟩) ?_ ?_
            rotate_left
            ·
             simp only [Act.put, sb_, sc0_, sc1_, i64_w, i32_w]
             rfl
            refine pure_ (i := 23) (N := some 57) (v := undef) (a' := ?_) #[true, true, true, true, true, true, true, true, true, true, true, true, true, true, true, true, true, true, true, true, true, true, true, true, false, false, false, false, false, false, false, false, false, false, false, false, false] rfl rfl (any_of HT_.out (by kernel_rfl)) (fun _ _ _ h => h) (Or.inr ⟨by rfl, rfl⟩) ?_ ?_
            rotate_left
            ·
             simp only [Act.put, sb_, sc0_, sc1_, i64_w, i32_w]
             rfl
            refine pure_ (i := 24) (N := some 58) (v := undef) (a' := ?_) #[true, true, true, true, true, true, true, true, true, true, true, true, true, true, true, true, true, true, true, true, true, true, true, true, true, false, false, false, false, false, false, false, false, false, false, false, false] rfl rfl (any_of HT_.out (by kernel_rfl)) (fun _ _ _ h => h) (Or.inr ⟨by rfl, rfl⟩) ?_ ?_
            rotate_left
            ·
             simp only [Act.put, sb_, sc0_, sc1_, i64_w, i32_w]
             rfl
            refine pure_ (i := 25) (N := some 59) (v := ?_) (a' := ?_) #[true, true, true, true, true, true, true, true, true, true, true, true, true, true, true, true, true, true, true, true, true, true, true, true, true, true, false, false, false, false, false, false, false, false, false, false, false] rfl rfl (any_of HT_.out (by kernel_rfl)) (fun _ _ _ h => h) (Or.inl ⟨by rfl, ?_⟩) ?_ ?_
            rotate_left
            ·
             intro w'
             go_simp
             with_reducible rfl
            rotate_left
            ·
             simp only [Act.put, sb_, sc0_, sc1_, i64_w, i32_w]
             rfl
            refine pure_ (i := 26) (N := some 60) (v := ?_) (a' := ?_) #[true, true, true, true, true, true, true, true, true, true, true, true, true, true, true, true, true, true, true, true, true, true, true, true, true, true, true, false, false, false, false, false, false, false, false, false, false] rfl rfl (any_of HT_.out (by kernel_rfl)) (fun _ _ _ h => h) (Or.inl ⟨by rfl, ?_⟩) ?_ ?_
            rotate_left
            ·
             intro w'
             go_simp
             with_reducible rfl
            rotate_left
            ·
             simp only [Act.put, sb_, sc0_, sc1_, i64_w, i32_w]
             rfl
            refine pure_ (i := 27) (N := some 61) (v := ?_) (a' := ?_) #[true, true, true, true, true, true, true, true, true, true, true, true, true, true, true, true, true, true, true, true, true, true, true, true, true, true, true, true, false, false, false, false, false, false, false, false, false] rfl rfl (any_of HT_.out (by kernel_rfl)) (fun _ _ _ h => h) (Or.inl ⟨by rfl, ?_⟩) ?_ ?_
            rotate_left
            ·
             intro w'
             go_simp
             with_reducible rfl
            rotate_left
            ·
             simp only [Act.put, sb_, sc0_, sc1_, i64_w, i32_w]
             rfl
            refine pure_ (i := 28) (N := some 62) (v := ?_) (a' := ?_) #[true, true, true, true, true, true, true, true, true, true, true, true, true, true, true, true, true, true, true, true, true, true, true, true, true, true, true, true, true, false, false, false, false, false, false, false, false] rfl rfl (any_of HT_.out (by kernel_rfl)) (fun _ _ _ h => h) (Or.inl ⟨by rfl, ?_⟩) ?_ ?_
            rotate_left
            ·
             intro w'
             go_simp
             with_reducible rfl
            rotate_left
            ·
             simp only [Act.put, sb_, sc0_, sc1_, i64_w, i32_w]
             rfl
            refine pure_ (i := 30) (N := some 64) (v := ?_) (a' := ?_) #[true, true, true, true, true, true, true, true, true, true, true, true, true, true, true, true, true, true, true, true, true, true, true, true, true, true, true, true, true, false, true, false, false, false, false, false, false] rfl rfl (any_of HT_.out (by kernel_rfl)) (fun _ _ _ h => h) (Or.inl ⟨by rfl, ?_⟩) ?_ ?_
            rotate_left
            ·
             intro w'
             go_simp
             with_reducible rfl
            rotate_left
            ·
             simp only [Act.put, sb_, sc0_, sc1_, i64_w, i32_w]
             rfl
            refine pure_ (i := 33) (N := some 67) (v := ?_) (a' := ?_) #[true, true, true, true, true, true, true, true, true, true, true, true, true, true, true, true, true, true, true, true, true, true, true, true, true, true, true, true, true, false, true, false, false, true, false, false, false] rfl rfl (any_of HT_.out (by kernel_rfl)) (fun _ _ _ h => h) (Or.inl ⟨by rfl, ?_⟩) ?_ ?_
            rotate_left
            ·
             intro w'
             go_simp
             with_reducible rfl
            rotate_left
            ·
             simp only [Act.put, sb_, sc0_, sc1_, i64_w, i32_w]
             rfl
            refine take_ (i := 29) (N := some 63) (v := ?_) (a' := ?_) #[true, true, true, true, true, true, true, true, true, true, true, true, true, true, true, true, true, true, true, true, true, true, true, true, true, true, true, true, true, true, true, false, false, true, false, false, false] rfl rfl (take_ofW HT_.out HW_.out (by kernel_rfl)) (fun _ _ _ h => h) (Or.inl ⟨by rfl, ?_⟩) hHeld ?_ ?_
            rotate_left
            ·
             rintro w' ⟨s0, s1, s2, s3, s4⟩
             go_simp
             with_reducible rfl
            rotate_left
            ·
             simp only [Act.put, sb_, sc0_, sc1_, i64_w, i32_w]
             rfl
            refine pure_ (i := 31) (N := some 65) (v := ?_) (a' := ?_) #[true, true, true, true, true, true, true, true, true, true, true, true, true, true, true, true, true, true, true, true, true, true, true, true, true, true, true, true, true, true, true, true, false, true, false, false, false] rfl rfl (any_of HT_.out (by kernel_rfl)) (fun _ _ _ h => h) (Or.inl ⟨by rfl, ?_⟩) ?_ ?_
            rotate_left
            ·
             intro w'
             go_simp
             with_reducible rfl
            rotate_left
            ·
             simp only [Act.put, sb_, sc0_, sc1_, i64_w, i32_w]
             rfl
            refine take_ (i := 32) (N := some 66) (v := ?_) (a' := ?_) #[true, true, true, true, true, true, true, true, true, true, true, true, true, true, true, true, true, true, true, true, true, true, true, true, true, true, true, true, true, true, true, true, true, true, false, false, false] rfl rfl (take_ofW HT_.out HW_.out (by kernel_rfl)) (fun _ _ _ h => h) (Or.inl ⟨by rfl, ?_⟩) hHeld ?_ ?_
            rotate_left
            ·
             rintro w' ⟨s0, s1, s2, s3, s4⟩
             go_simp
             with_reducible rfl
            rotate_left
            ·
             simp only [Act.put, sb_, sc0_, sc1_, i64_w, i32_w]
             rfl
            refine one_ (i := 34) (N := some 68) #[true, true, true, true, true, true, true, true, true, true, true, true, true, true, true, true, true, true, true, true, true, true, true, true, true, true, true, true, true, true, true, true, true, true, true, false, false] rfl rfl (one_of HT_.out (by kernel_rfl)) (by decide) (fun K hK => ?_)
            refine goes_ Try.func156 (by kernel_rfl) rfl #[.slice A147_0 (rd_LITerm l0_2 x5_2).length c147_0, .int .i64 a1, .int .i64 1] (by rfl) rfl rfl az ?_
            with_reducible refine (spec_l2Is.calls k2 _ _ (rd_LITerm l0_2 x5_2) a1 1 t148 _ ?side1 ?side2 A34.out).mono ?_
            (case side1 => repeat (first | exact (Kd.C_below HR147_0.out (bz1 HB GE139)) | (with_reducible refine Kd.C_alloc ?_ _) | (with_reducible refine Kd.C_drewN ?_ _) | (with_reducible refine Kd.C_drew ?_)))
            (case side2 => exact HC147_0.out)
            rintro e w36 ⟨rfl, hb⟩
            refine ⟨_, rfl, ?_⟩
            have n0_ := Aside0.mk (blk_below (g := gb139) (o := .cells #[.slice A0_0 l0_0.length c0_0, .slice (some ad141) l0_1.length c0_1, .slice (some ad147) l0_2.length c0_2] 145 (0, 0)) (kz BK139) hb)
            have n1_ := Aside0.mk (below_step (bz1 HB GE139) hb)
            clear BK139
            clear HB
            have BK139 := n0_
            have HB := n1_
            clear n0_ n1_
            (try clear hb)
            (try clear hb2)
            (try clear hk)
            (try clear hi)
            refine hK.out _ _ ⟨(blk_cell BK139.out 0).trans rfl, (blk_cell BK139.out 1).trans rfl, (blk_cell BK139.out 2).trans rfl, ((HB.out.cell (World.block_lt_of_cell? w _ hw141_0)).trans hw141_0), ((HB.out.cell (World.block_lt_of_cell? w _ hw147_0)).trans hw147_0)⟩ (fun hHeld => ?_)
            clear hK K
            refine norm_ (a' := ?_) ?_ ?_
            rotate_left
            ·
             show Act.put _ (some 68) _ = _
             simp only [Act.put, sb_, sc0_, sc1_, i64_w, i32_w]
             rfl
            refine pure_ (i := 35) (N := some 69) (v := ?_) (a' := ?_) #[true, true, true, true, true, true, true, true, true, true, true, true, true, true, true, true, true, true, true, true, true, true, true, true, true, true, true, true, true, true, true, true, true, true, true, true, false] rfl rfl (any_of HT_.out (by kernel_rfl)) (fun _ _ _ h => h) (Or.inl ⟨by rfl, ?_⟩) ?_ ?_
            rotate_left
            ·
             intro w'
             go_simp
             with_reducible rfl
            rotate_left
            ·
             simp only [Act.put, sb_, sc0_, sc1_, i64_w, i32_w]
             rfl
            refine pure_ (i := 36) (N := some 70) (v := ?_) (a' := ?_) #[true, true, true, true, true, true, true, true, true, true, true, true, true, true, true, true, true, true, true, true, true, true, true, true, true, true, true, true, true, true, true, true, true, true, true, true, true] rfl rfl (any_of HT_.out (by kernel_rfl)) (fun _ _ _ h => h) (Or.inl ⟨by rfl, ?_⟩) ?_ ?_
            rotate_left
            ·
             intro w'
             go_simp
             with_reducible rfl
            rotate_left
            ·
             simp only [Act.put, sb_, sc0_, sc1_, i64_w, i32_w]
             rfl
            refine done_ (done_of HT_.out (by kernel_rfl)) ?_
            try go_wp2
            go_meet
            case rel => exact ⟨_, (!t148), rq, H', ⟨by have := HJ2.out; have := HK2.out; first | omega | exact Nat.le_refl _⟩, ⟨kz BK139⟩, ⟨bz1 HB GE139⟩⟩
           ·
            rw [if_neg c33] at H
            exact absurd H (by simp)
         ·
          replace c22 := Bool.eq_false_iff.mpr c22
          subst c22
          rw [if_neg nt_] at H
          have H' := Aside0.mk H
          clear H
          try go_wp2
          have n0_ := Aside0.mk (blk_drew BK139.out)
          have n1_ := Aside0.mk (below_drew1 HB.out)
          clear BK139
          clear HB
          have BK139 := n0_
          have HB := n1_
          clear n0_ n1_
          have p141 : 0 ≤ (x5_2 : Int) := dz
          have q141 : x5_2 < (l0_1.length : Int) := dz
          obtain ⟨ad141, e141, hx141_0⟩ := Kd.at_int HR0_1.out x5_2 p141 q141
          have hw141_0 := hx141_0
          cases e141
          replace hx141_0 := xz HB hx141_0
          replace p141 := eq_true p141
          replace q141 := eq_true q141
          refine start_ (n := 37) (S := fun w' => w'.cell? ⟨gb139, 0, none⟩ = some (.slice A0_0 l0_0.length c0_0) ∧ w'.cell? ⟨gb139, 1, none⟩ = some (.slice (some ad141) l0_1.length c0_1) ∧ w'.cell? ⟨gb139, 2, none⟩ = some (.slice A0_2 l0_2.length c0_2) ∧ w'.cell? (ad141.add (x5_2).toNat) = some (.int .i64 (rd l0_1 x5_2))) (ds := []) #[false, false, false, false, false, false, false, false, false, false, false, false, false, false, false, false, false, false, false, false, false, false, false, false, false, false, false, false, false, false, false, false, false, false, false, false, false] (by kernel_rfl) rfl rfl ⟨(blk_cell BK139.out 0).trans rfl, (blk_cell BK139.out 1).trans rfl, (blk_cell BK139.out 2).trans rfl, ((HB.out.cell (World.block_lt_of_cell? w _ hw141_0)).trans hw141_0)⟩ (fun hHeld => ?_); refine with_tabW spec_l2Rule.tab6 spec_l2Rule.bits6 (fun HT_ HW_ => ?_)
          generalize wr.drew = w37 at BK139 HB hx141_0 hHeld ⊢
          refine pure_ (i := 0) (N := some 34) (v := ?_) (a' := ?_) #[true, false, false, false, false, false, false, false, false, false, false, false, false, false, false, false, false, false, false, false, false, false, false, false, false, false, false, false, false, false, false, false, false, false, false, false, false] rfl rfl (any_of HT_.out (by kernel_rfl)) (fun _ _ _ h => h) (Or.inl ⟨by rfl, ?_⟩) ?_ ?_
          rotate_left
          ·
           intro w'
           go_simp
           with_reducible rfl
          rotate_left
          ·
           simp only [Act.put, sb_, sc0_, sc1_, i64_w, i32_w]
           rfl
          refine pure_ (i := 2) (N := some 36) (v := ?_) (a' := ?_) #[true, false, true, false, false, false, false, false, false, false, false, false, false, false, false, false, false, false, false, false, false, false, false, false, false, false, false, false, false, false, false, false, false, false, false, false, false] rfl rfl (any_of HT_.out (by kernel_rfl)) (fun _ _ _ h => h) (Or.inl ⟨by rfl, ?_⟩) ?_ ?_
          rotate_left
          ·
           intro w'
           go_simp
           with_reducible rfl
          rotate_left
          ·
           simp only [Act.put, sb_, sc0_, sc1_, i64_w, i32_w]
           rfl
          refine pure_ (i := 5) (N := some 39) (v := ?_) (a' := ?_) #[true, false, true, false, false, true, false, false, false, false, false, false, false, false, false, false, false, false, false, false, false, false, false, false, false, false, false, false, false, false, false, false, false, false, false, false, false] rfl rfl (any_of HT_.out (by kernel_rfl)) (fun _ _ _ h => h) (Or.inl ⟨by rfl, ?_⟩) ?_ ?_
          rotate_left
          ·
           intro w'
           go_simp
           with_reducible rfl
          rotate_left
          ·
           simp only [Act.put, sb_, sc0_, sc1_, i64_w, i32_w]
           rfl
          refine pure_ (i := 6) (N := some 40) (v := ?_) (a' := ?_) #[true, false, true, false, false, true, true, false, false, false, false, false, false, false, false, false, false, false, false, false, false, false, false, false, false, false, false, false, false, false, false, false, false, false, false, false, false] rfl rfl (any_of HT_.out (by kernel_rfl)) (fun _ _ _ h => h) (Or.inl ⟨by rfl, ?_⟩) ?_ ?_
          rotate_left
          ·
           intro w'
           go_simp
           with_reducible rfl
          rotate_left
          ·
           simp only [Act.put, sb_, sc0_, sc1_, i64_w, i32_w]
           rfl
          refine take_ (i := 1) (N := some 35) (v := ?_) (a' := ?_) #[true, true, true, false, false, true, true, false, false, false, false, false, false, false, false, false, false, false, false, false, false, false, false, false, false, false, false, false, false, false, false, false, false, false, false, false, false] rfl rfl (take_ofW HT_.out HW_.out (by kernel_rfl)) (fun _ _ _ h => h) (Or.inl ⟨by rfl, ?_⟩) hHeld ?_ ?_
          rotate_left
          ·
           rintro w' ⟨s0, s1, s2, s3⟩
           go_simp
           with_reducible rfl
          rotate_left
          ·
           simp only [Act.put, sb_, sc0_, sc1_, i64_w, i32_w]
           rfl
          refine pure_ (i := 3) (N := some 37) (v := ?_) (a' := ?_) #[true, true, true, true, false, true, true, false, false, false, false, false, false, false, false, false, false, false, false, false, false, false, false, false, false, false, false, false, false, false, false, false, false, false, false, false, false] rfl rfl (any_of HT_.out (by kernel_rfl)) (fun _ _ _ h => h) (Or.inl ⟨by rfl, ?_⟩) ?_ ?_
          rotate_left
          ·
           intro w'
           go_simp
           with_reducible rfl
          rotate_left
          ·
           simp only [Act.put, sb_, sc0_, sc1_, i64_w, i32_w]
           rfl
          refine take_ (i := 4) (N := some 38) (v := ?_) (a' := ?_) #[true, true, true, true, true, true, true, false, false, false, false, false, false, false, false, false, false, false, false, false, false, false, false, false, false, false, false, false, false, false, false, false, false, false, false, false, false] rfl rfl (take_ofW HT_.out HW_.out (by kernel_rfl)) (fun _ _ _ h => h) (Or.inl ⟨by rfl, ?_⟩) hHeld ?_ ?_
          rotate_left
          ·
           rintro w' ⟨s0, s1, s2, s3⟩
           go_simp
           with_reducible rfl
          rotate_left
          ·
           simp only [Act.put, sb_, sc0_, sc1_, i64_w, i32_w]
           rfl
          refine one_ (i := 7) (N := some 41) #[true, true, true, true, true, true, true, true, false, false, false, false, false, false, false, false, false, false, false, false, false, false, false, false, false, false, false, false, false, false, false, false, false, false, false, false, false] rfl rfl (one_of HT_.out (by kernel_rfl)) (by decide) (fun K hK => ?_)
          refine goes_ Try.func92 (by kernel_rfl) rfl #[.int .i64 (rd l0_1 x5_2), .int .i64 0, .int .i64 (wrap64 (a1 - 1))] (by rfl) rfl rfl az ?_
          with_reducible refine (spec_l1In.calls (rd l0_1 x5_2) 0 (wrap64 (a1 - 1)) false _ A21.out).mono ?_
          rintro e w' ⟨rfl, ⟨nd, rfl⟩⟩
          refine ⟨_, rfl, ?_⟩
          refine hK.out _ _ ⟨(blk_cell BK139.out 0).trans rfl, (blk_cell BK139.out 1).trans rfl, (blk_cell BK139.out 2).trans rfl, ((HB.out.cell (World.block_lt_of_cell? w _ hw141_0)).trans hw141_0)⟩ (fun hHeld => ?_)
          clear hK K
          refine norm_ (a' := ?_) ?_ ?_
          rotate_left
          ·
           show Act.put _ (some 41) _ = _
           simp only [Act.put, sb_, sc0_, sc1_, i64_w, i32_w]
           rfl
          refine pure_ (i := 8) (N := some 42) (v := ?_) (a' := ?_) #[true, true, true, true, true, true, true, true, true, false, false, false, false, false, false, false, false, false, false, false, false, false, false, false, false, false, false, false, false, false, false, false, false, false, false, false, false] rfl rfl (any_of HT_.out (by kernel_rfl)) (fun _ _ _ h => h) (Or.inl ⟨by rfl, ?_⟩) ?_ ?_
          rotate_left
          ·
           intro w'
           go_simp
           with_reducible rfl
          rotate_left
          ·
           simp only [Act.put, sb_, sc0_, sc1_, i64_w, i32_w]
           rfl
          refine pure_ (i := 9) (N := some 43) (v := ?_) (a' := ?_) #[true, true, true, true, true, true, true, true, true, true, false, false, false, false, false, false, false, false, false, false, false, false, false, false, false, false, false, false, false, false, false, false, false, false, false, false, false] rfl rfl (any_of HT_.out (by kernel_rfl)) (fun _ _ _ h => h) (Or.inl ⟨by rfl, ?_⟩) ?_ ?_
          rotate_left
          ·
           intro w'
           go_simp
           with_reducible rfl
          rotate_left
          ·
           simp only [Act.put, sb_, sc0_, sc1_, i64_w, i32_w]
           rfl
          refine pure_ (i := 10) (N := some 44) (v := undef) (a' := ?_) #[true, true, true, true, true, true, true, true, true, true, true, false, false, false, false, false, false, false, false, false, false, false, false, false, false, false, false, false, false, false, false, false, false, false, false, false, false] rfl rfl (any_of HT_.out (by kernel_rfl)) (fun _ _ _ h => h) (Or.inr ⟨by rfl, rfl⟩) ?_ ?_
          rotate_left
          ·
           simp only [Act.put, sb_, sc0_, sc1_, i64_w, i32_w]
           rfl
          refine pure_ (i := 11) (N := some 45) (v := undef) (a' := ?_) #[true, true, true, true, true, true, true, true, true, true, true, true, false, false, false, false, false, false, false, false, false, false, false, false, false, false, false, false, false, false, false, false, false, false, false, false, false] rfl rfl (any_of HT_.out (by kernel_rfl)) (fun _ _ _ h => h) (Or.inr ⟨by rfl, rfl⟩) ?_ ?_
          rotate_left
          ·
           simp only [Act.put, sb_, sc0_, sc1_, i64_w, i32_w]
           rfl
          refine pure_ (i := 12) (N := some 46) (v := undef) (a' := ?_) #[true, true, true, true, true, true, true, true, true, true, true, true, true, false, false, false, false, false, false, false, false, false, false, false, false, false, false, false, false, false, false, false, false, false, false, false, false] rfl rfl (any_of HT_.out (by kernel_rfl)) (fun _ _ _ h => h) (Or.inr ⟨by rfl, rfl⟩) ?_ ?_
          rotate_left
          ·
           simp only [Act.put, sb_, sc0_, sc1_, i64_w, i32_w]
           rfl
          refine pure_ (i := 13) (N := some 47) (v := undef) (a' := ?_) #[true, true, true, true, true, true, true, true, true, true, true, true, true, true, false, false, false, false, false, false, false, false, false, false, false, false, false, false, false, false, false, false, false, false, false, false, false] rfl rfl (any_of HT_.out (by kernel_rfl)) (fun _ _ _ h => h) (Or.inr ⟨by rfl, rfl⟩) ?_ ?_
          rotate_left
          ·
           simp only [Act.put, sb_, sc0_, sc1_, i64_w, i32_w]
           rfl
          refine pure_ (i := 14) (N := some 48) (v := undef) (a' := ?_) #[true, true, true, true, true, true, true, true, true, true, true, true, true, true, true, false, false, false, false, false, false, false, false, false, false, false, false, false, false, false, false, false, false, false, false, false, false] rfl rfl (any_of HT_.out (by kernel_rfl)) (fun _ _ _ h => h) (Or.inr ⟨by rfl, rfl⟩) ?_ ?_
          rotate_left
          ·
           simp only [Act.put, sb_, sc0_, sc1_, i64_w, i32_w]
           rfl
          refine pure_ (i := 15) (N := some 49) (v := undef) (a' := ?_) #[true, true, true, true, true, true, true, true, true, true, true, true, true, true, true, true, false, false, false, false, false, false, false, false, false, false, false, false, false, false, false, false, false, false, false, false, false] rfl rfl (any_of HT_.out (by kernel_rfl)) (fun _ _ _ h => h) (Or.inr ⟨by rfl, rfl⟩) ?_ ?_
          rotate_left
          ·
           simp only [Act.put, sb_, sc0_, sc1_, i64_w, i32_w]
           rfl
          refine pure_ (i := 16) (N := some 50) (v := undef) (a' := ?_) #[true, true, true, true, true, true, true, true, true, true, true, true, true, true, true, true, true, false, false, false, false, false, false, false, false, false, false, false, false, false, false, false, false, false, false, false, false] rfl rfl (any_of HT_.out (by kernel_rfl)) (fun _ _ _ h => h) (Or.inr ⟨by rfl, rfl⟩) ?_ ?_
          rotate_left
          ·
           simp only [Act.put, sb_, sc0_, sc1_, i64_w, i32_w]
           rfl
          refine pure_ (i := 17) (N := some 51) (v := undef) (a' := ?_) #[true, true, true, true, true, true, true, true, true, true, true, true, true, true, true, true, true, true, false, false, false, false, false, false, false, false, false, false, false, false, false, false, false, false, false, false, false] rfl rfl (any_of HT_.out (by kernel_rfl)) (fun _ _ _ h => h) (Or.inr ⟨by rfl, rfl⟩) ?_ ?_
          rotate_left
          ·
           simp only [Act.put, sb_, sc0_, sc1_, i64_w, i32_w]
           rfl
          refine pure_ (i := 18) (N := some 52) (v := undef) (a' := ?_) #[true, true, true, true, true, true, true, true, true, true, true, true, true, true, true, true, true, true, true, false, false, false, false, false, false, false, false, false, false, false, false, false, false, false, false, false, false] rfl rfl (any_of HT_.out (by kernel_rfl)) (fun _ _ _ h => h) (Or.inr ⟨by rfl, rfl⟩) ?_ ?_
          rotate_left
          ·
           simp only [Act.put, sb_, sc0_, sc1_, i64_w, i32_w]
           rfl
          refine pure_ (i := 19) (N := some 53) (v := undef) (a' := ?_) #[true, true, true, true, true, true, true, true, true, true, true, true, true, true, true, true, true, true, true, true, false, false, false, false, false, false, false, false, false, false, false, false, false, false, false, false, false] rfl rfl (any_of HT_.out (by kernel_rfl)) (fun _ _ _ h => h) (Or.inr ⟨by rfl, rfl⟩) ?_ ?_
          rotate_left
          ·
           simp only [Act.put, sb_, sc0_, sc1_, i64_w, i32_w]
           rfl
          refine pure_ (i := 20) (N := some 54) (v := undef) (a' := ?_) #[true, true, true, true, true, true, true, true, true, true, true, true, true, true, true, true, true, true, true, true, true, false, false, false, false, false, false, false, false, false, false, false, false, false, false, false, false] rfl rfl (any_of HT_.out (by kernel_rfl)) (fun _ _ _ h => h) (Or.inr ⟨by rfl, rfl⟩) ?_ ?_
          rotate_left
          ·
           simp only [Act.put, sb_, sc0_, sc1_, i64_w, i32_w]
           rfl
          refine pure_ (i := 21) (N := some 55) (v := undef) (a' := ?_) #[true, true, true, true, true, true, true, true, true, true, true, true, true, true, true, true, true, true, true, true, true, true, false, false, false, false, false, false, false, false, false, false, false, false, false, false, false] rfl rfl (any_of HT_.out (by kernel_rfl)) (fun _ _ _ h => h) (Or.inr ⟨by rfl, rfl⟩) ?_ ?_
          rotate_left
          ·
           simp only [Act.put, sb_, sc0_, sc1_, i64_w, i32_w]
           rfl
          refine pure_ (i := 22) (N := some 56) (v := undef) (a' := ?_) #[true, true, true, true, true, true, true, true, true, true, true, true, true, true, true, true, true, true, true, true, true, true, true, false, false, false, false, false, false, false, false, false, false, false, false, false, false] rfl rfl (any_of HT_.out (by kernel_rfl)) (fun _ _ _ h => h) (Or.inr ⟨by rfl, rfl⟩) ?_ ?_
          rotate_left
          ·
           simp only [Act.put, sb_, sc0_, sc1_, i64_w, i32_w]
           rfl
          refine pure_ (i := 23) (N := some 57) (v := undef) (a' := ?_) #[true, true, true, true, true, true, true, true, true, true, true, true, true, true, true, true, true, true, true, true, true, true, true, true, false, false, false, false, false, false, false, false, false, false, false, false, false] rfl rfl (any_of HT_.out (by kernel_rfl)) (fun _ _ _ h => h) (Or.inr ⟨by rfl, rfl⟩) ?_ ?_
          rotate_left
          ·
           simp only [Act.put, sb_, sc0_, sc1_, i64_w, i32_w]
           rfl
          refine pure_ (i := 24) (N := some 58) (v := undef) (a' := ?_) #[true, true, true, true, true, true, true, true, true, true, true, true, true, true, true, true, true, true, true, true, true, true, true, true, true, false, false, false, false, false, false, false, false, false, false, false, false] rfl rfl (any_of HT_.out (by kernel_rfl)) (fun _ _ _ h => h) (Or.inr ⟨by rfl, rfl⟩) ?_ ?_
          rotate_left
          ·
           simp only [Act.put, sb_, sc0_, sc1_, i64_w, i32_w]
           rfl
          refine pure_ (i := 25) (N := some 59) (v := undef) (a' := ?_) #[true, true, true, true, true, true, true, true, true, true, true, true, true, true, true, true, true, true, true, true, true, true, true, true, true, true, false, false, false, false, false, false, false, false, false, false, false] rfl rfl (any_of HT_.out (by kernel_rfl)) (fun _ _ _ h => h) (Or.inr ⟨by rfl, rfl⟩) ?_ ?_
          rotate_left
          ·
           simp only [Act.put, sb_, sc0_, sc1_, i64_w, i32_w]
           rfl
          refine pure_ (i := 26) (N := some 60) (v := ?_) (a' := ?_) #[true, true, true, true, true, true, true, true, true, true, true, true, true, true, true, true, true, true, true, true, true, true, true, true, true, true, true, false, false, false, false, false, false, false, false, false, false] rfl rfl (any_of HT_.out (by kernel_rfl)) (fun _ _ _ h => h) (Or.inl ⟨by rfl, ?_⟩) ?_ ?_
          rotate_left
          ·
           intro w'
           go_simp
           with_reducible rfl
          rotate_left
          ·
           simp only [Act.put, sb_, sc0_, sc1_, i64_w, i32_w]
           rfl
          refine pure_ (i := 27) (N := some 61) (v := ?_) (a' := ?_) #[true, true, true, true, true, true, true, true, true, true, true, true, true, true, true, true, true, true, true, true, true, true, true, true, true, true, true, true, false, false, false, false, false, false, false, false, false] rfl rfl (any_of HT_.out (by kernel_rfl)) (fun _ _ _ h => h) (Or.inl ⟨by rfl, ?_⟩) ?_ ?_
          rotate_left
          ·
           intro w'
           go_simp
           with_reducible rfl
          rotate_left
          ·
           simp only [Act.put, sb_, sc0_, sc1_, i64_w, i32_w]
           rfl
          refine pure_ (i := 28) (N := some 62) (v := undef) (a' := ?_) #[true, true, true, true, true, true, true, true, true, true, true, true, true, true, true, true, true, true, true, true, true, true, true, true, true, true, true, true, true, false, false, false, false, false, false, false, false] rfl rfl (any_of HT_.out (by kernel_rfl)) (fun _ _ _ h => h) (Or.inr ⟨by rfl, rfl⟩) ?_ ?_
          rotate_left
          ·
           simp only [Act.put, sb_, sc0_, sc1_, i64_w, i32_w]
           rfl
          refine pure_ (i := 29) (N := some 63) (v := undef) (a' := ?_) #[true, true, true, true, true, true, true, true, true, true, true, true, true, true, true, true, true, true, true, true, true, true, true, true, true, true, true, true, true, true, false, false, false, false, false, false, false] rfl rfl (any_of HT_.out (by kernel_rfl)) (fun _ _ _ h => h) (Or.inr ⟨by rfl, rfl⟩) ?_ ?_
          rotate_left
          ·
           simp only [Act.put, sb_, sc0_, sc1_, i64_w, i32_w]
           rfl
          refine pure_ (i := 30) (N := some 64) (v := undef) (a' := ?_) #[true, true, true, true, true, true, true, true, true, true, true, true, true, true, true, true, true, true, true, true, true, true, true, true, true, true, true, true, true, true, true, false, false, false, false, false, false] rfl rfl (any_of HT_.out (by kernel_rfl)) (fun _ _ _ h => h) (Or.inr ⟨by rfl, rfl⟩) ?_ ?_
          rotate_left
          ·
           simp only [Act.put, sb_, sc0_, sc1_, i64_w, i32_w]
           rfl
          refine pure_ (i := 31) (N := some 65) (v := undef) (a' := ?_) #[true, true, true, true, true, true, true, true, true, true, true, true, true, true, true, true, true, true, true, true, true, true, true, true, true, true, true, true, true, true, true, true, false, false, false, false, false] rfl rfl (any_of HT_.out (by kernel_rfl)) (fun _ _ _ h => h) (Or.inr ⟨by rfl, rfl⟩) ?_ ?_
          rotate_left
          ·
           simp only [Act.put, sb_, sc0_, sc1_, i64_w, i32_w]
           rfl
          refine pure_ (i := 32) (N := some 66) (v := undef) (a' := ?_) #[true, true, true, true, true, true, true, true, true, true, true, true, true, true, true, true, true, true, true, true, true, true, true, true, true, true, true, true, true, true, true, true, true, false, false, false, false] rfl rfl (any_of HT_.out (by kernel_rfl)) (fun _ _ _ h => h) (Or.inr ⟨by rfl, rfl⟩) ?_ ?_
          rotate_left
          ·
           simp only [Act.put, sb_, sc0_, sc1_, i64_w, i32_w]
           rfl
          refine pure_ (i := 33) (N := some 67) (v := undef) (a' := ?_) #[true, true, true, true, true, true, true, true, true, true, true, true, true, true, true, true, true, true, true, true, true, true, true, true, true, true, true, true, true, true, true, true, true, true, false, false, false] rfl rfl (any_of HT_.out (by kernel_rfl)) (fun _ _ _ h => h) (Or.inr ⟨by rfl, rfl⟩) ?_ ?_
          rotate_left
          ·
           simp only [Act.put, sb_, sc0_, sc1_, i64_w, i32_w]
           rfl
          refine pure_ (i := 34) (N := some 68) (v := undef) (a' := ?_) #[true, true, true, true, true, true, true, true, true, true, true, true, true, true, true, true, true, true, true, true, true, true, true, true, true, true, true, true, true, true, true, true, true, true, true, false, false] rfl rfl (any_of HT_.out (by kernel_rfl)) (fun _ _ _ h => h) (Or.inr ⟨by rfl, rfl⟩) ?_ ?_
          rotate_left
          ·
           simp only [Act.put, sb_, sc0_, sc1_, i64_w, i32_w]
           rfl
          refine pure_ (i := 35) (N := some 69) (v := undef) (a' := ?_) #[true, true, true, true, true, true, true, true, true, true, true, true, true, true, true, true, true, true, true, true, true, true, true, true, true, true, true, true, true, true, true, true, true, true, true, true, false] rfl rfl (any_of HT_.out (by kernel_rfl)) (fun _ _ _ h => h) (Or.inr ⟨by rfl, rfl⟩) ?_ ?_
          rotate_left
          ·
           simp only [Act.put, sb_, sc0_, sc1_, i64_w, i32_w]
           rfl
          refine pure_ (i := 36) (N := some 70) (v := ?_) (a' := ?_) #[true, true, true, true, true, true, true, true, true, true, true, true, true, true, true, true, true, true, true, true, true, true, true, true, true, true, true, true, true, true, true, true, true, true, true, true, true] rfl rfl (any_of HT_.out (by kernel_rfl)) (fun _ _ _ h => h) (Or.inl ⟨by rfl, ?_⟩) ?_ ?_
          rotate_left
          ·
           intro w'
           go_simp
           with_reducible rfl
          rotate_left
          ·
           simp only [Act.put, sb_, sc0_, sc1_, i64_w, i32_w]
           rfl
          refine done_ (done_of HT_.out (by kernel_rfl)) ?_
          try go_wp2
          go_meet
          case rel => exact ⟨_, (true), rq, H', ⟨by have := HJ2.out; have := HK2.out; first | omega | exact Nat.le_refl _⟩, ⟨kz BK139⟩, ⟨bz1 HB GE139⟩⟩
        ·
         rw [if_neg c20] at H
         exact absurd H (by simp)
       case rest =>
        clear HC18
        try clear c1
        try clear p1
        try clear q1
        try clear hx1
        try clear c2
        try clear p2
        try clear c3
        try clear p6
        try clear c9
        try clear c14
        try clear p14
        try clear q14
        try clear hx14
        try clear c15
        try clear c20
        try clear c22
        try clear c23
        try clear c23b0
        try clear c25
        try clear c26
        try clear c29
        try clear c33
        try clear c33b0
        try clear hx141_0
        try clear hx147_0
        try clear p141
        try clear p147
        try clear q141
        try clear q147
        obtain ⟨kq, x70_17, rfl, HA, HJ17, BK139, HB⟩ := hcut
        cases kq with
        | zero => exact absurd HA.out (by simp [spec_l2Rule.j2])
        | succ kj17 =>
         have H := HA.out
         clear HA
         simp only [spec_l2Rule.j2] at H
         by_cases c38 : x70_17 = true
         ·
          subst c38
          rw [if_pos rfl] at H
          obtain rfl := Option.some.inj H
          go_wp2
          go_ret
          exact ⟨rz, bz1 HB GE139⟩
         ·
          replace c38 := Bool.eq_false_iff.mpr c38
          subst c38
          rw [if_neg nt_] at H
          have H' := Aside0.mk H
          clear H
          go_wp2
          go_roundg kj17
          case measure => have := HJ2.out; have := HK2.out; have := HJ17.out; omega
          case rel => exact ⟨(wrap64 (x5_2 + 1)), rq, H', ⟨by have := HJ2.out; have := HK2.out; have := HJ17.out; omega⟩, ⟨kz BK139⟩, ⟨bz1 HB GE139⟩⟩
      ·
       rw [if_neg c17] at H
       have c17b0 : decide (x5_2 < (l0_1.length : Int)) = false := decide_eq_false c17
       clear c17
       obtain rfl := Option.some.inj H
       have hcz39_0 : wr.cell? ⟨gb139, 0, none⟩ = some (.slice A0_0 l0_0.length c0_0) := (blk_cell BK139.out 0).trans rfl
       have hcz39_1 : wr.cell? ⟨gb139, 1, none⟩ = some (.slice A0_1 l0_1.length c0_1) := (blk_cell BK139.out 1).trans rfl
       have hcz39_2 : wr.cell? ⟨gb139, 2, none⟩ = some (.slice A0_2 l0_2.length c0_2) := (blk_cell BK139.out 2).trans rfl
       have hfz39_0 := blk_frozen BK139.out 0
       have hfz39_1 := blk_frozen BK139.out 1
       have hfz39_2 := blk_frozen BK139.out 2
       go_wp2
       go_ret
       exact ⟨rz, bz1 HB GE139⟩
end Go.Proofs.Ytndmhmekmkgccaa.PFnExactInRange
end
section
namespace Go.Proofs.Ytndmhmekmkgccaa.PFnExactInRange
open Go.RowKit Go.Proofs.YtndmhmekmkgccaaW.PrintWords Go.Proofs.YtndmhmekmkgccaaW.PrintLast Go.Proofs.YtndmhmekmkgccaaW.PrintMore
attribute [local go_sem] max2_int min2_int max_two min_two max_three min_three max_four min_four   -- for this text's walks alone
set_option linter.unusedVariables false
set_option linter.unusedSimpArgs false
def spec_SystemValid.T9 : Bool × List (List Nat × List Nat) := (true, [([], []), ([], []), ([1], [1]), ([], []), ([2, 3], [2, 3]), ([4], [4]), ([5], [5]), ([], []), ([7], [7]), ([], []), ([8, 9], [8, 9]), ([10], [10]), ([11], [11]), ([6, 12], [6, 12]), ([13], [13]), ([0, 14], [0, 14]), ([15, 0, 1, 2, 3, 4, 5, 6, 7, 8, 9, 10, 11, 12, 13, 14, 15], [0, 15])])
def spec_SystemValid.B9 : List Nat := [0, 0, 2, 0, 14, 30, 62, 0, 128, 0, 896, 1920, 3968, 8190, 16382, 32767, 65535]
theorem spec_SystemValid.tab9 : rtab .any (opsOf Try.f59 9) = spec_SystemValid.T9 := by kernel_rfl
theorem spec_SystemValid.bits9 : waitsOk spec_SystemValid.T9.2 spec_SystemValid.B9 = true := by kernel_rfl
def spec_SystemValid.T13 : Bool × List (List Nat × List Nat) := (true, [([], []), ([0], [0]), ([], []), ([1, 2], [1, 2]), ([3], [3]), ([], []), ([5], [5]), ([6], [6]), ([4, 7], [4, 7]), ([8], [8])])
def spec_SystemValid.B13 : List Nat := [0, 1, 0, 7, 15, 0, 32, 96, 255, 511]
theorem spec_SystemValid.tab13 : rtab .any (opsOf Try.f59 13) = spec_SystemValid.T13 := by kernel_rfl
theorem spec_SystemValid.bits13 : waitsOk spec_SystemValid.T13.2 spec_SystemValid.B13 = true := by kernel_rfl
set_option maxHeartbeats 8000000 in
set_option maxRecDepth 100000 in
theorem spec_SystemValid.calls (k : Nat) (A0_0 : Option Addr) (c0_0 : Nat) (l0_0 : List (IVar)) (A0_1 : Option Addr) (c0_1 : Nat) (l0_1 : List (IRule)) (r : Bool) (w : World) (hr0_0 : Kd.C k141 w A0_0 l0_0.length l0_0) (hc0_0 : l0_0.length ≤ c0_0) (hr0_1 : Kd.C k145 w A0_1 l0_1.length l0_1) (hc0_1 : l0_1.length ≤ c0_1) (h : spec_SystemValid.f k l0_0 l0_1 = some r) :
  Calls Try.prog 59 #[.agg #[.slice A0_0 l0_0.length c0_0, .slice A0_1 l0_1.length c0_1]] w fun e w' => e = .returned (.bool r) ∧ Below w.heap.size w w' := by
 have hu43 := Try.underlying43
 have hu141 := Try.underlying141
 have hu145 := Try.underlying145
 have HR0_0 := Aside0.mk hr0_0
 have HC0_0 := Aside0.mk hc0_0
 clear hr0_0 hc0_0
 have HR0_1 := Aside0.mk hr0_1
 have HC0_1 := Aside0.mk hc0_1
 clear hr0_1 hc0_1
 have HB := Aside0.mk (Below.refl w.heap.size w)
 have H : ((spec_l1In.f (l0_0.length : Int) 1 5).bind fun t150 => (if t150 = true then (spec_SystemValid.j0 k (decide ((l0_1.length : Int) > 8)) l0_0 l0_1) else (spec_SystemValid.j0 k true l0_0 l0_1))) = some r := h
 clear h
 have HC2 := Aside0.mk H
 clear H
 go_enter Try.func59, Try.ntmps59
 go_upto_region 1 with (first | ((with_reducible refine gate_dst (N := 1) rfl ?_); (try (refine gate_guard (by rfl) ?_; dsimp only)); refine box_event ?hg (N := 1) ?hd (cs := #[.slice A0_0 l0_0.length c0_0, .slice A0_1 l0_1.length c0_1]) (t := 43) ?hr ?_; (case hd => rfl); (case hg => rfl); (case hr => first | (go_simp; done) | (go_simp; rfl)); intro gb149 hg w3 hbox hb; have n0_ := Aside0.mk (below_step (bz HB) hb); have n1_ := Aside0.mk (hbox); have n2_ := Aside0.mk ((by rw [hg]; exact (below_size (bz HB)) : w.heap.size ≤ gb149)); have n3_ := Aside0.mk ((by rw [hg]; exact (below_size (bz HB)) : w.heap.size ≤ gb149)); clear HB; have HB := n0_; have BK149 := n1_; have GW149 := n2_; have GE149 := n3_; clear n0_ n1_ n2_ n3_; clear hb hbox hg))
 (try simp only [Act.put, sb_, sc0_, sc1_])
 go_cut [16] (fun v16 wc => ∃ (kq : Nat) (x16_1 : Bool), v16 = .bool x16_1 ∧ Aside0 (spec_SystemValid.j0 kq x16_1 l0_0 l0_1 = some r) ∧ Aside0 (kq ≤ k) ∧ Aside0 (wc.heap[gb149]? = some (.cells #[(.slice A0_0 l0_0.length c0_0), (.slice A0_1 l0_1.length c0_1)] 43 (0, 0))) ∧ Aside0 (Below w.heap.size w wc))
 case first =>
  have H := HC2.out
  clear HC2
  replace H := Option.bind_eq_some_iff.mp H
  obtain ⟨t150, A40, H⟩ := H
  have A4 := Aside0.mk A40
  clear A40
  by_cases c5 : t150 = true
  ·
   subst c5
   rw [if_pos rfl] at H
   have H' := Aside0.mk H
   clear H
   have hcz6_0 : w3.cell? ⟨gb149, 0, none⟩ = some (.slice A0_0 l0_0.length c0_0) := (blk_cell BK149.out 0).trans rfl
   have hcz6_1 : w3.cell? ⟨gb149, 1, none⟩ = some (.slice A0_1 l0_1.length c0_1) := (blk_cell BK149.out 1).trans rfl
   have hfz6_0 := blk_frozen BK149.out 0
   have hfz6_1 := blk_frozen BK149.out 1
   go_wp2_with (first | ((with_reducible refine gate_callee (f := 92) rfl ?_); refine goesL_ (some 9) rfl rfl Try.func92 (by kernel_rfl) rfl #[.int .i64 (l0_0.length : Int), .int .i64 1, .int .i64 5] rfl az ?_; (with_reducible refine (spec_l1In.calls (l0_0.length : Int) 1 5 true _ A4.out).mono ?_); rintro e w' ⟨rfl, ⟨nd, rfl⟩⟩; refine ⟨_, rfl, ?_⟩))
   go_meet
   case rel => exact ⟨_, (decide ((l0_1.length : Int) > 8)), rq, H', ⟨by first | omega | exact Nat.le_refl _⟩, ⟨kz BK149⟩, ⟨bz1 HB GE149⟩⟩
  ·
   replace c5 := Bool.eq_false_iff.mpr c5
   subst c5
   rw [if_neg nt_] at H
   have H' := Aside0.mk H
   clear H
   have hcz7_0 : w3.cell? ⟨gb149, 0, none⟩ = some (.slice A0_0 l0_0.length c0_0) := (blk_cell BK149.out 0).trans rfl
   have hcz7_1 : w3.cell? ⟨gb149, 1, none⟩ = some (.slice A0_1 l0_1.length c0_1) := (blk_cell BK149.out 1).trans rfl
   have hfz7_0 := blk_frozen BK149.out 0
   have hfz7_1 := blk_frozen BK149.out 1
   go_wp2_with (first | ((with_reducible refine gate_callee (f := 92) rfl ?_); refine goesL_ (some 9) rfl rfl Try.func92 (by kernel_rfl) rfl #[.int .i64 (l0_0.length : Int), .int .i64 1, .int .i64 5] rfl az ?_; (with_reducible refine (spec_l1In.calls (l0_0.length : Int) 1 5 false _ A4.out).mono ?_); rintro e w' ⟨rfl, ⟨nd, rfl⟩⟩; refine ⟨_, rfl, ?_⟩))
   go_meet
   case rel => exact ⟨_, (true), rq, H', ⟨by first | omega | exact Nat.le_refl _⟩, ⟨kz BK149⟩, ⟨bz1 HB GE149⟩⟩
 case rest =>
  clear HC2
  try clear p2
  try clear c5
  try clear hcz6_0
  try clear hcz6_1
  try clear hcz7_0
  try clear hcz7_1
  try clear hfz6_0
  try clear hfz6_1
  try clear hfz7_0
  try clear hfz7_1
  obtain ⟨kq, x16_1, rfl, HA, HJ1, BK149, HB⟩ := hcut
  cases kq with
  | zero => exact absurd HA.out (by simp [spec_SystemValid.j0])
  | succ kj1 =>
   have H := HA.out
   clear HA
   simp only [spec_SystemValid.j0] at H
   by_cases c8 : x16_1 = true
   ·
    subst c8
    rw [if_pos rfl] at H
    obtain rfl := Option.some.inj H
    go_wp2
    go_ret
    exact ⟨rz, bz1 HB GE149⟩
   ·
    replace c8 := Bool.eq_false_iff.mpr c8
    subst c8
    rw [if_neg nt_] at H
    have H' := Aside0.mk H
    clear H
    go_wp2
    go_loopg [3, 4] kj1 (fun kq v3 v4 w' => ∃ (x3_2 : Int) (x4_2 : Int), v3 = .int .i64 x3_2 ∧ v4 = .int .i64 x4_2 ∧ Aside0 (spec_SystemValid.l0 kq x3_2 x4_2 l0_0 l0_1 = some r) ∧ Aside0 (kq ≤ kj1) ∧ Aside0 (w'.heap[gb149]? = some (.cells #[(.slice A0_0 l0_0.length c0_0), (.slice A0_1 l0_1.length c0_1)] 43 (0, 0))) ∧ Aside0 (Below w.heap.size w w'))
    case atStart => exact ⟨(1), (0), rq, rq, H', ⟨Nat.le_refl _⟩, ⟨kz BK149⟩, ⟨bz1 HB GE149⟩⟩
    case round =>
     clear H'
     try clear p2
     try clear c5
     try clear c8
     try clear hcz6_0
     try clear hcz6_1
     try clear hcz7_0
     try clear hcz7_1
     try clear hfz6_0
     try clear hfz6_1
     try clear hfz7_0
     try clear hfz7_1
     try clear p2
     obtain ⟨x3_2, x4_2, rfl, rfl, HA, HK2, BK149, HB⟩ := hrel
     cases gk with
     | zero => exact absurd HA.out (by simp [spec_SystemValid.l0])
     | succ k2 =>
      have H := HA.out
      clear HA
      simp only [spec_SystemValid.l0] at H
      by_cases c9 : x4_2 < (l0_0.length : Int)
      ·
       rw [if_pos c9] at H
       have c9b0 : decide (x4_2 < (l0_0.length : Int)) = true := decide_eq_true c9
       clear c9
       by_cases c10 : 0 ≤ x4_2
       ·
        rw [if_pos c10] at H
        have c10b0 : decide (0 ≤ x4_2) = true := decide_eq_true c10
        clear c10
        replace H := Option.bind_eq_some_iff.mp H
        obtain ⟨t152, A110, H⟩ := H
        have A11 := Aside0.mk A110
        clear A110
        by_cases c12 : t152 = true
        ·
         subst c12
         rw [if_pos rfl] at H
         have H' := Aside0.mk H
         clear H
         have hcz13_0 : wr.cell? ⟨gb149, 0, none⟩ = some (.slice A0_0 l0_0.length c0_0) := (blk_cell BK149.out 0).trans rfl
         have hcz13_1 : wr.cell? ⟨gb149, 1, none⟩ = some (.slice A0_1 l0_1.length c0_1) := (blk_cell BK149.out 1).trans rfl
         have hfz13_0 := blk_frozen BK149.out 0
         have hfz13_1 := blk_frozen BK149.out 1
         have p151 : 0 ≤ (x4_2 : Int) := dz
         have q151 : x4_2 < (l0_0.length : Int) := dz
         obtain ⟨ad151, e151, hx151_0, hx151_1, hx151_2⟩ := at_IVar HR0_0.out x4_2 p151 q151
         cases e151
         replace hx151_0 := xz HB hx151_0
         replace hx151_1 := xz HB hx151_1
         replace hx151_2 := xz HB hx151_2
         replace p151 := eq_true p151
         replace q151 := eq_true q151
         try go_wp2_with (first | ((with_reducible refine gate_callee (f := 114) rfl ?_); refine goesL_ (some 29) rfl rfl Try.func114 (by kernel_rfl) rfl #[.agg #[.int .i64 ((rd_IVar l0_0 x4_2).f0), .int .i64 ((rd_IVar l0_0 x4_2).f1), .int .i64 ((rd_IVar l0_0 x4_2).f2)]] rfl az ?_; (with_reducible refine (spec_l2Var.calls ((rd_IVar l0_0 x4_2).f0) ((rd_IVar l0_0 x4_2).f1) ((rd_IVar l0_0 x4_2).f2) true _ A11.out).mono ?_); rintro e w14 ⟨rfl, hb⟩; refine ⟨_, rfl, ?_⟩; replace BK149 := Aside0.mk (blk_below (g := gb149) (o := .cells #[.slice (some ad151) l0_0.length c0_0, .slice A0_1 l0_1.length c0_1] 43 (0, 0)) (kz BK149) hb); replace HB := Aside0.mk (below_step (bz1 HB GE149) hb); clear hb))
         have n0_ := Aside0.mk (blk_drew BK149.out)
         have n1_ := Aside0.mk (below_drew1 HB.out)
         clear BK149
         clear HB
         have BK149 := n0_
         have HB := n1_
         clear n0_ n1_
         have p153 : 0 ≤ (x4_2 : Int) := dz
         have q153 : x4_2 < (l0_0.length : Int) := dz
         obtain ⟨ad153, e153, hx153_0, hx153_1, hx153_2⟩ := at_IVar HR0_0.out x4_2 p153 q153
         have hw153_2 := hx153_2
         have hw153_1 := hx153_1
         have hw153_0 := hx153_0
         obtain rfl : ad151 = ad153 := (by injection e153)
         replace hx153_0 := xz HB hx153_0
         replace hx153_1 := xz HB hx153_1
         replace hx153_2 := xz HB hx153_2
         replace p153 := eq_true p153
         replace q153 := eq_true q153
         have p154 : 0 ≤ (x4_2 : Int) := dz
         have q154 : x4_2 < (l0_0.length : Int) := dz
         obtain ⟨ad154, e154, hx154_0, hx154_1, hx154_2⟩ := at_IVar HR0_0.out x4_2 p154 q154
         have hw154_2 := hx154_2
         have hw154_1 := hx154_1
         have hw154_0 := hx154_0
         obtain rfl : ad151 = ad154 := (by injection e154)
         replace hx154_0 := xz HB hx154_0
         replace hx154_1 := xz HB hx154_1
         replace hx154_2 := xz HB hx154_2
         replace p154 := eq_true p154
         replace q154 := eq_true q154
         refine start_ (n := 17) (S := fun w' => w'.cell? ⟨gb149, 0, none⟩ = some (.slice (some ad151) l0_0.length c0_0) ∧ w'.cell? ⟨gb149, 1, none⟩ = some (.slice A0_1 l0_1.length c0_1) ∧ w'.cell? (ad151.add ((x4_2).toNat * 3)) = some (.int .i64 ((rd_IVar l0_0 x4_2).f0)) ∧ w'.cell? ⟨(ad151.add ((x4_2).toNat * 3)).block, (ad151.add ((x4_2).toNat * 3)).off + 1, none⟩ = some (.int .i64 ((rd_IVar l0_0 x4_2).f1)) ∧ w'.cell? ⟨(ad151.add ((x4_2).toNat * 3)).block, (ad151.add ((x4_2).toNat * 3)).off + 2, none⟩ = some (.int .i64 ((rd_IVar l0_0 x4_2).f2)) ∧ w'.cell? (ad151.add ((x4_2).toNat * 3)) = some (.int .i64 ((rd_IVar l0_0 x4_2).f0)) ∧ w'.cell? ⟨(ad151.add ((x4_2).toNat * 3)).block, (ad151.add ((x4_2).toNat * 3)).off + 1, none⟩ = some (.int .i64 ((rd_IVar l0_0 x4_2).f1)) ∧ w'.cell? ⟨(ad151.add ((x4_2).toNat * 3)).block, (ad151.add ((x4_2).toNat * 3)).off + 2, none⟩ = some (.int .i64 ((rd_IVar l0_0 x4_2).f2))) (ds := []) #[false, false, false, false, false, false, false, false, false, false, false, false, false, false, false, false, false] (by kernel_rfl) rfl rfl ⟨(blk_cell BK149.out 0).trans rfl, (blk_cell BK149.out 1).trans rfl, ((HB.out.cell (World.block_lt_of_cell? w _ hw153_0)).trans hw153_0), ((HB.out.cell (World.block_lt_of_cell? w _ hw153_1)).trans hw153_1), ((HB.out.cell (World.block_lt_of_cell? w _ hw153_2)).trans hw153_2), ((HB.out.cell (World.block_lt_of_cell? w _ hw154_0)).trans hw154_0), ((HB.out.cell (World.block_lt_of_cell? w _ hw154_1)).trans hw154_1), ((HB.out.cell (World.block_lt_of_cell? w _ hw154_2)).trans hw154_2)⟩ (fun hHeld => ?_); refine with_tabW spec_SystemValid.tab9 spec_SystemValid.bits9 (fun HT_ HW_ => ?_)
         generalize w14.drew = w15 at BK149 HB hx153_0 hx153_1 hx153_2 hx154_0 hx154_1 hx154_2 hHeld ⊢
         refine pure_ (i := 0) (N := some 31) (v := ?_) (a' := ?_) #[true, false, false, false, false, false, false, false, false, false, false, false, false, false, false, false, false] rfl rfl (any_of HT_.out (by kernel_rfl)) (fun _ _ _ h => h) (Or.inl ⟨by rfl, ?_⟩) ?_ ?_
         rotate_left
         ·
          intro w'
          go_simp
          with_reducible rfl
         rotate_left
         ·
          simp only [Act.put, sb_, sc0_, sc1_, i64_w, i32_w]
          rfl
         refine pure_ (i := 1) (N := some 32) (v := ?_) (a' := ?_) #[true, true, false, false, false, false, false, false, false, false, false, false, false, false, false, false, false] rfl rfl (any_of HT_.out (by kernel_rfl)) (fun _ _ _ h => h) (Or.inl ⟨by rfl, ?_⟩) ?_ ?_
         rotate_left
         ·
          intro w'
          go_simp
          with_reducible rfl
         rotate_left
         ·
          simp only [Act.put, sb_, sc0_, sc1_, i64_w, i32_w]
          rfl
         refine pure_ (i := 3) (N := some 34) (v := ?_) (a' := ?_) #[true, true, false, true, false, false, false, false, false, false, false, false, false, false, false, false, false] rfl rfl (any_of HT_.out (by kernel_rfl)) (fun _ _ _ h => h) (Or.inl ⟨by rfl, ?_⟩) ?_ ?_
         rotate_left
         ·
          intro w'
          go_simp
          with_reducible rfl
         rotate_left
         ·
          simp only [Act.put, sb_, sc0_, sc1_, i64_w, i32_w]
          rfl
         refine pure_ (i := 7) (N := some 38) (v := ?_) (a' := ?_) #[true, true, false, true, false, false, false, true, false, false, false, false, false, false, false, false, false] rfl rfl (any_of HT_.out (by kernel_rfl)) (fun _ _ _ h => h) (Or.inl ⟨by rfl, ?_⟩) ?_ ?_
         rotate_left
         ·
          intro w'
          go_simp
          with_reducible rfl
         rotate_left
         ·
          simp only [Act.put, sb_, sc0_, sc1_, i64_w, i32_w]
          rfl
         refine pure_ (i := 9) (N := some 40) (v := ?_) (a' := ?_) #[true, true, false, true, false, false, false, true, false, true, false, false, false, false, false, false, false] rfl rfl (any_of HT_.out (by kernel_rfl)) (fun _ _ _ h => h) (Or.inl ⟨by rfl, ?_⟩) ?_ ?_
         rotate_left
         ·
          intro w'
          go_simp
          with_reducible rfl
         rotate_left
         ·
          simp only [Act.put, sb_, sc0_, sc1_, i64_w, i32_w]
          rfl
         refine take_ (i := 2) (N := some 33) (v := ?_) (a' := ?_) #[true, true, true, true, false, false, false, true, false, true, false, false, false, false, false, false, false] rfl rfl (take_ofW HT_.out HW_.out (by kernel_rfl)) (fun _ _ _ h => h) (Or.inl ⟨by rfl, ?_⟩) hHeld ?_ ?_
         rotate_left
         ·
          rintro w' ⟨s0, s1, s2, s3, s4, s5, s6, s7⟩
          go_simp
          with_reducible rfl
         rotate_left
         ·
          simp only [Act.put, sb_, sc0_, sc1_, i64_w, i32_w]
          rfl
         refine pure_ (i := 4) (N := some 35) (v := ?_) (a' := ?_) #[true, true, true, true, true, false, false, true, false, true, false, false, false, false, false, false, false] rfl rfl (any_of HT_.out (by kernel_rfl)) (fun _ _ _ h => h) (Or.inl ⟨by rfl, ?_⟩) ?_ ?_
         rotate_left
         ·
          intro w'
          go_simp
          with_reducible rfl
         rotate_left
         ·
          simp only [Act.put, sb_, sc0_, sc1_, i64_w, i32_w]
          rfl
         refine pure_ (i := 5) (N := some 36) (v := ?_) (a' := ?_) #[true, true, true, true, true, true, false, true, false, true, false, false, false, false, false, false, false] rfl rfl (any_of HT_.out (by kernel_rfl)) (fun _ _ _ h => h) (Or.inl ⟨by rfl, ?_⟩) ?_ ?_
         rotate_left
         ·
          intro w'
          go_simp
          with_reducible rfl
         rotate_left
         ·
          simp only [Act.put, sb_, sc0_, sc1_, i64_w, i32_w]
          rfl
         refine take_ (i := 6) (N := some 37) (v := ?_) (a' := ?_) #[true, true, true, true, true, true, true, true, false, true, false, false, false, false, false, false, false] rfl rfl (take_ofW HT_.out HW_.out (by kernel_rfl)) (fun _ _ _ h => h) (Or.inl ⟨by rfl, ?_⟩) hHeld ?_ ?_
         rotate_left
         ·
          rintro w' ⟨s0, s1, s2, s3, s4, s5, s6, s7⟩
          go_simp
          with_reducible rfl
         rotate_left
         ·
          simp only [Act.put, sb_, sc0_, sc1_, i64_w, i32_w]
          rfl
         refine take_ (i := 8) (N := some 39) (v := ?_) (a' := ?_) #[true, true, true, true, true, true, true, true, true, true, false, false, false, false, false, false, false] rfl rfl (take_ofW HT_.out HW_.out (by kernel_rfl)) (fun _ _ _ h => h) (Or.inl ⟨by rfl, ?_⟩) hHeld ?_ ?_
         rotate_left
         ·
          rintro w' ⟨s0, s1, s2, s3, s4, s5, s6, s7⟩
          go_simp
          with_reducible rfl
         rotate_left
         ·
          simp only [Act.put, sb_, sc0_, sc1_, i64_w, i32_w]
          rfl
         refine pure_ (i := 10) (N := some 41) (v := ?_) (a' := ?_) #[true, true, true, true, true, true, true, true, true, true, true, false, false, false, false, false, false] rfl rfl (any_of HT_.out (by kernel_rfl)) (fun _ _ _ h => h) (Or.inl ⟨by rfl, ?_⟩) ?_ ?_
         rotate_left
         ·
          intro w'
          go_simp
          with_reducible rfl
         rotate_left
         ·
          simp only [Act.put, sb_, sc0_, sc1_, i64_w, i32_w]
          rfl
         refine pure_ (i := 11) (N := some 42) (v := ?_) (a' := ?_) #[true, true, true, true, true, true, true, true, true, true, true, true, false, false, false, false, false] rfl rfl (any_of HT_.out (by kernel_rfl)) (fun _ _ _ h => h) (Or.inl ⟨by rfl, ?_⟩) ?_ ?_
         rotate_left
         ·
          intro w'
          go_simp
          with_reducible rfl
         rotate_left
         ·
          simp only [Act.put, sb_, sc0_, sc1_, i64_w, i32_w]
          rfl
         refine take_ (i := 12) (N := some 43) (v := ?_) (a' := ?_) #[true, true, true, true, true, true, true, true, true, true, true, true, true, false, false, false, false] rfl rfl (take_ofW HT_.out HW_.out (by kernel_rfl)) (fun _ _ _ h => h) (Or.inl ⟨by rfl, ?_⟩) hHeld ?_ ?_
         rotate_left
         ·
          rintro w' ⟨s0, s1, s2, s3, s4, s5, s6, s7⟩
          go_simp
          with_reducible rfl
         rotate_left
         ·
          simp only [Act.put, sb_, sc0_, sc1_, i64_w, i32_w]
          rfl
         refine pure_ (i := 13) (N := some 44) (v := ?_) (a' := ?_) #[true, true, true, true, true, true, true, true, true, true, true, true, true, true, false, false, false] rfl rfl (any_of HT_.out (by kernel_rfl)) (fun _ _ _ h => h) (Or.inl ⟨by rfl, ?_⟩) ?_ ?_
         rotate_left
         ·
          intro w'
          go_simp
          with_reducible rfl
         rotate_left
         ·
          simp only [Act.put, sb_, sc0_, sc1_, i64_w, i32_w]
          rfl
         refine pure_ (i := 14) (N := some 45) (v := ?_) (a' := ?_) #[true, true, true, true, true, true, true, true, true, true, true, true, true, true, true, false, false] rfl rfl (any_of HT_.out (by kernel_rfl)) (fun _ _ _ h => h) (Or.inl ⟨by rfl, ?_⟩) ?_ ?_
         rotate_left
         ·
          intro w'
          go_simp
          with_reducible rfl
         rotate_left
         ·
          simp only [Act.put, sb_, sc0_, sc1_, i64_w, i32_w]
          rfl
         refine pure_ (i := 15) (N := some 46) (v := ?_) (a' := ?_) #[true, true, true, true, true, true, true, true, true, true, true, true, true, true, true, true, false] rfl rfl (any_of HT_.out (by kernel_rfl)) (fun _ _ _ h => h) (Or.inl ⟨by rfl, ?_⟩) ?_ ?_
         rotate_left
         ·
          intro w'
          go_simp
          with_reducible rfl
         rotate_left
         ·
          simp only [Act.put, sb_, sc0_, sc1_, i64_w, i32_w]
          rfl
         refine pure_ (i := 16) (N := some 3) (v := ?_) (a' := ?_) #[true, true, true, true, true, true, true, true, true, true, true, true, true, true, true, true, true] rfl rfl (any_of HT_.out (by kernel_rfl)) (fun _ _ _ h => h) (Or.inl ⟨by rfl, ?_⟩) ?_ ?_
         rotate_left
         ·
          intro w'
          go_simp
          with_reducible rfl
         rotate_left
         ·
          simp only [Act.put, sb_, sc0_, sc1_, i64_w, i32_w]
          rfl
         refine done_ (done_of HT_.out (by kernel_rfl)) ?_
         try go_wp2
         go_roundg k2
         case measure => have := HJ1.out; have := HK2.out; omega
         case rel => exact ⟨(wrap64 (x3_2 * (wrap64 ((wrap64 (((rd_IVar l0_0 x4_2).f1) - ((rd_IVar l0_0 x4_2).f0))) + 1)))), (wrap64 (x4_2 + 1)), rq, rq, H', ⟨by have := HJ1.out; have := HK2.out; omega⟩, ⟨kz BK149⟩, ⟨bz1 HB GE149⟩⟩
        ·
         replace c12 := Bool.eq_false_iff.mpr c12
         subst c12
         rw [if_neg nt_] at H
         obtain rfl := Option.some.inj H
         have hcz16_0 : wr.cell? ⟨gb149, 0, none⟩ = some (.slice A0_0 l0_0.length c0_0) := (blk_cell BK149.out 0).trans rfl
         have hcz16_1 : wr.cell? ⟨gb149, 1, none⟩ = some (.slice A0_1 l0_1.length c0_1) := (blk_cell BK149.out 1).trans rfl
         have hfz16_0 := blk_frozen BK149.out 0
         have hfz16_1 := blk_frozen BK149.out 1
         have p151 : 0 ≤ (x4_2 : Int) := dz
         have q151 : x4_2 < (l0_0.length : Int) := dz
         obtain ⟨ad151, e151, hx151_0, hx151_1, hx151_2⟩ := at_IVar HR0_0.out x4_2 p151 q151
         cases e151
         replace hx151_0 := xz HB hx151_0
         replace hx151_1 := xz HB hx151_1
         replace hx151_2 := xz HB hx151_2
         replace p151 := eq_true p151
         replace q151 := eq_true q151
         go_wp2_with (first | ((with_reducible refine gate_callee (f := 114) rfl ?_); refine goesL_ (some 29) rfl rfl Try.func114 (by kernel_rfl) rfl #[.agg #[.int .i64 ((rd_IVar l0_0 x4_2).f0), .int .i64 ((rd_IVar l0_0 x4_2).f1), .int .i64 ((rd_IVar l0_0 x4_2).f2)]] rfl az ?_; (with_reducible refine (spec_l2Var.calls ((rd_IVar l0_0 x4_2).f0) ((rd_IVar l0_0 x4_2).f1) ((rd_IVar l0_0 x4_2).f2) false _ A11.out).mono ?_); rintro e w17 ⟨rfl, hb⟩; refine ⟨_, rfl, ?_⟩; replace BK149 := Aside0.mk (blk_below (g := gb149) (o := .cells #[.slice (some ad151) l0_0.length c0_0, .slice A0_1 l0_1.length c0_1] 43 (0, 0)) (kz BK149) hb); replace HB := Aside0.mk (below_step (bz1 HB GE149) hb); clear hb))
         go_ret
         exact ⟨rz, bz1 HB GE149⟩
       ·
        rw [if_neg c10] at H
        exact absurd H (by simp)
      ·
       rw [if_neg c9] at H
       have c9b0 : decide (x4_2 < (l0_0.length : Int)) = false := decide_eq_false c9
       clear c9
       have H' := Aside0.mk H
       clear H
       have hcz18_0 : wr.cell? ⟨gb149, 0, none⟩ = some (.slice A0_0 l0_0.length c0_0) := (blk_cell BK149.out 0).trans rfl
       have hcz18_1 : wr.cell? ⟨gb149, 1, none⟩ = some (.slice A0_1 l0_1.length c0_1) := (blk_cell BK149.out 1).trans rfl
       have hfz18_0 := blk_frozen BK149.out 0
       have hfz18_1 := blk_frozen BK149.out 1
       go_wp2
       go_loopg [5] k2 (fun kq v5 w' => ∃ (x5_3 : Int), v5 = .int .i64 x5_3 ∧ Aside0 (spec_SystemValid.l1 kq x3_2 x5_3 l0_0 l0_1 = some r) ∧ Aside0 (kq ≤ k2) ∧ Aside0 (w'.heap[gb149]? = some (.cells #[(.slice A0_0 l0_0.length c0_0), (.slice A0_1 l0_1.length c0_1)] 43 (0, 0))) ∧ Aside0 (Below w.heap.size w w'))
       case atStart => exact ⟨(0), rq, H', ⟨Nat.le_refl _⟩, ⟨kz BK149⟩, ⟨bz1 HB GE149⟩⟩
       case round =>
        clear H'
        try clear c1
        try clear p1
        try clear q1
        try clear hx1
        try clear p2
        try clear c5
        try clear p6
        try clear c8
        try clear c9
        try clear c9b0
        try clear c10
        try clear c10b0
        try clear c11
        try clear c12
        try clear p15
        try clear q15
        try clear hx15
        try clear hcz13_0
        try clear hcz13_1
        try clear hcz16_0
        try clear hcz16_1
        try clear hcz18_0
        try clear hcz18_1
        try clear hcz6_0
        try clear hcz6_1
        try clear hcz7_0
        try clear hcz7_1
        try clear hfz13_0
        try clear hfz13_1
        try clear hfz16_0
        try clear hfz16_1
        try clear hfz18_0
        try clear hfz18_1
        try clear hfz6_0
        try clear hfz6_1
        try clear hfz7_0
        try clear hfz7_1
        try clear hx151_0
        try clear hx151_1
        try clear hx151_2
        try clear hx153_0
        try clear hx153_1
        try clear hx153_2
        try clear hx154_0
        try clear hx154_1
        try clear hx154_2
        try clear p151
        try clear p153
        try clear p154
        try clear p2
        try clear q151
        try clear q153
        try clear q154
        obtain ⟨x5_3, rfl, HA, HK3, BK149, HB⟩ := hrel
        cases gk with
        | zero => exact absurd HA.out (by simp [spec_SystemValid.l1])
        | succ k3 =>
         have H := HA.out
         clear HA
         simp only [spec_SystemValid.l1] at H
         by_cases c19 : x5_3 < (l0_1.length : Int)
         ·
          rw [if_pos c19] at H
          have c19b0 : decide (x5_3 < (l0_1.length : Int)) = true := decide_eq_true c19
          clear c19
          by_cases c20 : 0 ≤ x5_3
          ·
           rw [if_pos c20] at H
           have c20b0 : decide (0 ≤ x5_3) = true := decide_eq_true c20
           clear c20
           replace H := Option.bind_eq_some_iff.mp H
           obtain ⟨t156, A210, H⟩ := H
           have A21 := Aside0.mk A210
           clear A210
           by_cases c22 : t156 = true
           ·
            subst c22
            rw [if_pos rfl] at H
            have H' := Aside0.mk H
            clear H
            have hcz23_0 : wr.cell? ⟨gb149, 0, none⟩ = some (.slice A0_0 l0_0.length c0_0) := (blk_cell BK149.out 0).trans rfl
            have hcz23_1 : wr.cell? ⟨gb149, 1, none⟩ = some (.slice A0_1 l0_1.length c0_1) := (blk_cell BK149.out 1).trans rfl
            have hfz23_0 := blk_frozen BK149.out 0
            have hfz23_1 := blk_frozen BK149.out 1
            try go_wp2
            have n0_ := Aside0.mk (blk_drew BK149.out)
            have n1_ := Aside0.mk (below_drew1 HB.out)
            clear BK149
            clear HB
            have BK149 := n0_
            have HB := n1_
            clear n0_ n1_
            have p155 : 0 ≤ (x5_3 : Int) := dz
            have q155 : x5_3 < (l0_1.length : Int) := dz
            obtain ⟨ad155, A155_0, c155_0, A155_1, c155_1, A155_2, c155_2, e155, hx155_0, hx155_1, hx155_2, hl155_0, hi155_0, hl155_1, hi155_1, hl155_2, hi155_2⟩ := at_IRule HR0_1.out x5_3 p155 q155
            have hw155_2 := hx155_2
            have hw155_1 := hx155_1
            have hw155_0 := hx155_0
            cases e155
            replace hx155_0 := xz HB hx155_0
            replace hx155_1 := xz HB hx155_1
            replace hx155_2 := xz HB hx155_2
            have HR155_0 := Aside0.mk hi155_0
            have HC155_0 := Aside0.mk hl155_0
            clear hi155_0 hl155_0
            have HR155_1 := Aside0.mk hi155_1
            have HC155_1 := Aside0.mk hl155_1
            clear hi155_1 hl155_1
            have HR155_2 := Aside0.mk hi155_2
            have HC155_2 := Aside0.mk hl155_2
            clear hi155_2 hl155_2
            replace p155 := eq_true p155
            replace q155 := eq_true q155
            refine start_ (n := 10) (S := fun w' => w'.cell? ⟨gb149, 0, none⟩ = some (.slice A0_0 l0_0.length c0_0) ∧ w'.cell? ⟨gb149, 1, none⟩ = some (.slice (some ad155) l0_1.length c0_1) ∧ w'.cell? (ad155.add ((x5_3).toNat * 3)) = some (.slice A155_0 ((rd_IRule l0_1 x5_3).f0).length c155_0) ∧ w'.cell? ⟨(ad155.add ((x5_3).toNat * 3)).block, (ad155.add ((x5_3).toNat * 3)).off + 1, none⟩ = some (.slice A155_1 ((rd_IRule l0_1 x5_3).f1).length c155_1) ∧ w'.cell? ⟨(ad155.add ((x5_3).toNat * 3)).block, (ad155.add ((x5_3).toNat * 3)).off + 2, none⟩ = some (.slice A155_2 ((rd_IRule l0_1 x5_3).f2).length c155_2)) (ds := []) #[false, false, false, false, false, false, false, false, false, false] (by kernel_rfl) rfl rfl ⟨(blk_cell BK149.out 0).trans rfl, (blk_cell BK149.out 1).trans rfl, ((HB.out.cell (World.block_lt_of_cell? w _ hw155_0)).trans hw155_0), ((HB.out.cell (World.block_lt_of_cell? w _ hw155_1)).trans hw155_1), ((HB.out.cell (World.block_lt_of_cell? w _ hw155_2)).trans hw155_2)⟩ (fun hHeld => ?_); refine with_tabW spec_SystemValid.tab13 spec_SystemValid.bits13 (fun HT_ HW_ => ?_)
            generalize wr.drew = w24 at BK149 HB HR155_0 HR155_1 HR155_2 hx155_0 hx155_1 hx155_2 hHeld ⊢
            refine pure_ (i := 0) (N := some 54) (v := ?_) (a' := ?_) #[true, false, false, false, false, false, false, false, false, false] rfl rfl (any_of HT_.out (by kernel_rfl)) (fun _ _ _ h => h) (Or.inl ⟨by rfl, ?_⟩) ?_ ?_
            rotate_left
            ·
             intro w'
             go_simp
             with_reducible rfl
            rotate_left
            ·
             simp only [Act.put, sb_, sc0_, sc1_, i64_w, i32_w]
             rfl
            refine pure_ (i := 2) (N := some 56) (v := ?_) (a' := ?_) #[true, false, true, false, false, false, false, false, false, false] rfl rfl (any_of HT_.out (by kernel_rfl)) (fun _ _ _ h => h) (Or.inl ⟨by rfl, ?_⟩) ?_ ?_
            rotate_left
            ·
             intro w'
             go_simp
             with_reducible rfl
            rotate_left
            ·
             simp only [Act.put, sb_, sc0_, sc1_, i64_w, i32_w]
             rfl
            refine pure_ (i := 5) (N := some 59) (v := ?_) (a' := ?_) #[true, false, true, false, false, true, false, false, false, false] rfl rfl (any_of HT_.out (by kernel_rfl)) (fun _ _ _ h => h) (Or.inl ⟨by rfl, ?_⟩) ?_ ?_
            rotate_left
            ·
             intro w'
             go_simp
             with_reducible rfl
            rotate_left
            ·
             simp only [Act.put, sb_, sc0_, sc1_, i64_w, i32_w]
             rfl
            refine take_ (i := 1) (N := some 55) (v := ?_) (a' := ?_) #[true, true, true, false, false, true, false, false, false, false] rfl rfl (take_ofW HT_.out HW_.out (by kernel_rfl)) (fun _ _ _ h => h) (Or.inl ⟨by rfl, ?_⟩) hHeld ?_ ?_
            rotate_left
            ·
             rintro w' ⟨s0, s1, s2, s3, s4⟩
             go_simp
             with_reducible rfl
            rotate_left
            ·
             simp only [Act.put, sb_, sc0_, sc1_, i64_w, i32_w]
             rfl
            refine pure_ (i := 3) (N := some 57) (v := ?_) (a' := ?_) #[true, true, true, true, false, true, false, false, false, false] rfl rfl (any_of HT_.out (by kernel_rfl)) (fun _ _ _ h => h) (Or.inl ⟨by rfl, ?_⟩) ?_ ?_
            rotate_left
            ·
             intro w'
             go_simp
             with_reducible rfl
            rotate_left
            ·
             simp only [Act.put, sb_, sc0_, sc1_, i64_w, i32_w]
             rfl
            refine take_ (i := 4) (N := some 58) (v := ?_) (a' := ?_) #[true, true, true, true, true, true, false, false, false, false] rfl rfl (take_ofW HT_.out HW_.out (by kernel_rfl)) (fun _ _ _ h => h) (Or.inl ⟨by rfl, ?_⟩) hHeld ?_ ?_
            rotate_left
            ·
             rintro w' ⟨s0, s1, s2, s3, s4⟩
             go_simp
             with_reducible rfl
            rotate_left
            ·
             simp only [Act.put, sb_, sc0_, sc1_, i64_w, i32_w]
             rfl
            refine take_ (i := 6) (N := some 60) (v := ?_) (a' := ?_) #[true, true, true, true, true, true, true, false, false, false] rfl rfl (take_ofW HT_.out HW_.out (by kernel_rfl)) (fun _ _ _ h => h) (Or.inl ⟨by rfl, ?_⟩) hHeld ?_ ?_
            rotate_left
            ·
             rintro w' ⟨s0, s1, s2, s3, s4⟩
             go_simp
             with_reducible rfl
            rotate_left
            ·
             simp only [Act.put, sb_, sc0_, sc1_, i64_w, i32_w]
             rfl
            refine pure_ (i := 7) (N := some 61) (v := ?_) (a' := ?_) #[true, true, true, true, true, true, true, true, false, false] rfl rfl (any_of HT_.out (by kernel_rfl)) (fun _ _ _ h => h) (Or.inl ⟨by rfl, ?_⟩) ?_ ?_
            rotate_left
            ·
             intro w'
             go_simp
             with_reducible rfl
            rotate_left
            ·
             simp only [Act.put, sb_, sc0_, sc1_, i64_w, i32_w]
             rfl
            refine one_ (i := 8) (N := some 62) #[true, true, true, true, true, true, true, true, true, false] rfl rfl (one_of HT_.out (by kernel_rfl)) (by decide) (fun K hK => ?_)
            refine goes_ Try.func115 (by kernel_rfl) rfl #[.agg #[.slice A155_0 ((rd_IRule l0_1 x5_3).f0).length c155_0, .slice A155_1 ((rd_IRule l0_1 x5_3).f1).length c155_1, .slice A155_2 ((rd_IRule l0_1 x5_3).f2).length c155_2], .int .i64 (l0_0.length : Int)] (by rfl) rfl rfl az ?_
            with_reducible refine (spec_l2Rule.calls k3 _ _ ((rd_IRule l0_1 x5_3).f0) _ _ ((rd_IRule l0_1 x5_3).f1) _ _ ((rd_IRule l0_1 x5_3).f2) (l0_0.length : Int) true _ ?side1 ?side2 ?side3 ?side4 ?side5 ?side6 A21.out).mono ?_
            (case side1 => exact cz HR155_0 HB)
            (case side2 => exact HC155_0.out)
            (case side3 => exact cz HR155_1 HB)
            (case side4 => exact HC155_1.out)
            (case side5 => exact cz HR155_2 HB)
            (case side6 => exact HC155_2.out)
            rintro e w25 ⟨rfl, hb⟩
            refine ⟨_, rfl, ?_⟩
            have n0_ := Aside0.mk (blk_below (g := gb149) (o := .cells #[.slice A0_0 l0_0.length c0_0, .slice (some ad155) l0_1.length c0_1] 43 (0, 0)) (kz BK149) hb)
            have n1_ := Aside0.mk (below_step (bz1 HB GE149) hb)
            clear BK149
            clear HB
            have BK149 := n0_
            have HB := n1_
            clear n0_ n1_
            (try clear hb)
            (try clear hb2)
            (try clear hk)
            (try clear hi)
            refine hK.out _ _ ⟨(blk_cell BK149.out 0).trans rfl, (blk_cell BK149.out 1).trans rfl, ((HB.out.cell (World.block_lt_of_cell? w _ hw155_0)).trans hw155_0), ((HB.out.cell (World.block_lt_of_cell? w _ hw155_1)).trans hw155_1), ((HB.out.cell (World.block_lt_of_cell? w _ hw155_2)).trans hw155_2)⟩ (fun hHeld => ?_)
            clear hK K
            refine norm_ (a' := ?_) ?_ ?_
            rotate_left
            ·
             show Act.put _ (some 62) _ = _
             simp only [Act.put, sb_, sc0_, sc1_, i64_w, i32_w]
             rfl
            refine pure_ (i := 9) (N := some 63) (v := ?_) (a' := ?_) #[true, true, true, true, true, true, true, true, true, true] rfl rfl (any_of HT_.out (by kernel_rfl)) (fun _ _ _ h => h) (Or.inl ⟨by rfl, ?_⟩) ?_ ?_
            rotate_left
            ·
             intro w'
             go_simp
             with_reducible rfl
            rotate_left
            ·
             simp only [Act.put, sb_, sc0_, sc1_, i64_w, i32_w]
             rfl
            refine done_ (done_of HT_.out (by kernel_rfl)) ?_
            try go_wp2
            go_roundg k3
            case measure => have := HJ1.out; have := HK2.out; have := HK3.out; omega
            case rel => exact ⟨(wrap64 (x5_3 + 1)), rq, H', ⟨by have := HJ1.out; have := HK2.out; have := HK3.out; omega⟩, ⟨kz BK149⟩, ⟨bz1 HB GE149⟩⟩
           ·
            replace c22 := Bool.eq_false_iff.mpr c22
            subst c22
            rw [if_neg nt_] at H
            obtain rfl := Option.some.inj H
            have hcz26_0 : wr.cell? ⟨gb149, 0, none⟩ = some (.slice A0_0 l0_0.length c0_0) := (blk_cell BK149.out 0).trans rfl
            have hcz26_1 : wr.cell? ⟨gb149, 1, none⟩ = some (.slice A0_1 l0_1.length c0_1) := (blk_cell BK149.out 1).trans rfl
            have hfz26_0 := blk_frozen BK149.out 0
            have hfz26_1 := blk_frozen BK149.out 1
            try go_wp2
            have n0_ := Aside0.mk (blk_drew BK149.out)
            have n1_ := Aside0.mk (below_drew1 HB.out)
            clear BK149
            clear HB
            have BK149 := n0_
            have HB := n1_
            clear n0_ n1_
            have p155 : 0 ≤ (x5_3 : Int) := dz
            have q155 : x5_3 < (l0_1.length : Int) := dz
            obtain ⟨ad155, A155_0, c155_0, A155_1, c155_1, A155_2, c155_2, e155, hx155_0, hx155_1, hx155_2, hl155_0, hi155_0, hl155_1, hi155_1, hl155_2, hi155_2⟩ := at_IRule HR0_1.out x5_3 p155 q155
            have hw155_2 := hx155_2
            have hw155_1 := hx155_1
            have hw155_0 := hx155_0
            cases e155
            replace hx155_0 := xz HB hx155_0
            replace hx155_1 := xz HB hx155_1
            replace hx155_2 := xz HB hx155_2
            have HR155_0 := Aside0.mk hi155_0
            have HC155_0 := Aside0.mk hl155_0
            clear hi155_0 hl155_0
            have HR155_1 := Aside0.mk hi155_1
            have HC155_1 := Aside0.mk hl155_1
            clear hi155_1 hl155_1
            have HR155_2 := Aside0.mk hi155_2
            have HC155_2 := Aside0.mk hl155_2
            clear hi155_2 hl155_2
            replace p155 := eq_true p155
            replace q155 := eq_true q155
            refine start_ (n := 10) (S := fun w' => w'.cell? ⟨gb149, 0, none⟩ = some (.slice A0_0 l0_0.length c0_0) ∧ w'.cell? ⟨gb149, 1, none⟩ = some (.slice (some ad155) l0_1.length c0_1) ∧ w'.cell? (ad155.add ((x5_3).toNat * 3)) = some (.slice A155_0 ((rd_IRule l0_1 x5_3).f0).length c155_0) ∧ w'.cell? ⟨(ad155.add ((x5_3).toNat * 3)).block, (ad155.add ((x5_3).toNat * 3)).off + 1, none⟩ = some (.slice A155_1 ((rd_IRule l0_1 x5_3).f1).length c155_1) ∧ w'.cell? ⟨(ad155.add ((x5_3).toNat * 3)).block, (ad155.add ((x5_3).toNat * 3)).off + 2, none⟩ = some (.slice A155_2 ((rd_IRule l0_1 x5_3).f2).length c155_2)) (ds := []) #[false, false, false, false, false, false, false, false, false, false] (by kernel_rfl) rfl rfl ⟨(blk_cell BK149.out 0).trans rfl, (blk_cell BK149.out 1).trans rfl, ((HB.out.cell (World.block_lt_of_cell? w _ hw155_0)).trans hw155_0), ((HB.out.cell (World.block_lt_of_cell? w _ hw155_1)).trans hw155_1), ((HB.out.cell (World.block_lt_of_cell? w _ hw155_2)).trans hw155_2)⟩ (fun hHeld => ?_); refine with_tabW spec_SystemValid.tab13 spec_SystemValid.bits13 (fun HT_ HW_ => ?_)
            generalize wr.drew = w27 at BK149 HB HR155_0 HR155_1 HR155_2 hx155_0 hx155_1 hx155_2 hHeld ⊢
            refine pure_ (i := 0) (N := some 54) (v := ?_) (a' := ?_) #[true, false, false, false, false, false, false, false, false, false] rfl rfl (any_of HT_.out (by kernel_rfl)) (fun _ _ _ h => h) (Or.inl ⟨by rfl, ?_⟩) ?_ ?_
            rotate_left
            ·
             intro w'
             go_simp
             with_reducible rfl
            rotate_left
            ·
             simp only [Act.put, sb_, sc0_, sc1_, i64_w, i32_w]
             rfl
            refine pure_ (i := 2) (N := some 56) (v := ?_) (a' := ?_) #[true, false, true, false, false, false, false, false, false, false] rfl rfl (any_of HT_.out (by kernel_rfl)) (fun _ _ _ h => h) (Or.inl ⟨by rfl, ?_⟩) ?_ ?_
            rotate_left
            ·
             intro w'
             go_simp
             with_reducible rfl
            rotate_left
            ·
             simp only [Act.put, sb_, sc0_, sc1_, i64_w, i32_w]
             rfl
            refine pure_ (i := 5) (N := some 59) (v := ?_) (a' := ?_) #[true, false, true, false, false, true, false, false, false, false] rfl rfl (any_of HT_.out (by kernel_rfl)) (fun _ _ _ h => h) (Or.inl ⟨by rfl, ?_⟩) ?_ ?_
            rotate_left
            ·
             intro w'
             go_simp
             with_reducible rfl
            rotate_left
            ·
             simp only [Act.put, sb_, sc0_, sc1_, i64_w, i32_w]
             rfl
            refine take_ (i := 1) (N := some 55) (v := ?_) (a' := ?_) #[true, true, true, false, false, true, false, false, false, false] rfl rfl (take_ofW HT_.out HW_.out (by kernel_rfl)) (fun _ _ _ h => h) (Or.inl ⟨by rfl, ?_⟩) hHeld ?_ ?_
            rotate_left
            ·
             rintro w' ⟨s0, s1, s2, s3, s4⟩
             go_simp
             with_reducible rfl
            rotate_left
            ·
             simp only [Act.put, sb_, sc0_, sc1_, i64_w, i32_w]
             rfl
            refine pure_ (i := 3) (N := some 57) (v := ?_) (a' := ?_) #[true, true, true, true, false, true, false, false, false, false] rfl rfl (any_of HT_.out (by kernel_rfl)) (fun _ _ _ h => h) (Or.inl ⟨by rfl, ?_⟩) ?_ ?_
            rotate_left
            ·
             intro w'
             go_simp
             with_reducible rfl
            rotate_left
            ·
             simp only [Act.put, sb_, sc0_, sc1_, i64_w, i32_w]
             rfl
            refine take_ (i := 4) (N := some 58) (v := ?_) (a' := ?_) #[true, true, true, true, true, true, false, false, false, false] rfl rfl (take_ofW HT_.out HW_.out (by kernel_rfl)) (fun _ _ _ h => h) (Or.inl ⟨by rfl, ?_⟩) hHeld ?_ ?_
            rotate_left
            ·
             rintro w' ⟨s0, s1, s2, s3, s4⟩
             go_simp
             with_reducible rfl
            rotate_left
            ·
             simp only [Act.put, sb_, sc0_, sc1_, i64_w, i32_w]
             rfl
            refine take_ (i := 6) (N := some 60) (v := ?_) (a' := ?_) #[true, true, true, true, true, true, true, false, false, false] rfl rfl (take_ofW HT_.out HW_.out (by kernel_rfl)) (fun _ _ _ h => h) (Or.inl ⟨by rfl, ?_⟩) hHeld ?_ ?_
            rotate_left
            ·
             rintro w' ⟨s0, s1, s2, s3, s4⟩
             go_simp
             with_reducible rfl
            rotate_left
            ·
             simp only [Act.put, sb_, sc0_, sc1_, i64_w, i32_w]
             rfl
            refine pure_ (i := 7) (N := some 61) (v := ?_) (a' := ?_) #[true, true, true, true, true, true, true, true, false, false] rfl rfl (any_of HT_.out (by kernel_rfl)) (fun _ _ _ h => h) (Or.inl ⟨by rfl, ?_⟩) ?_ ?_
            rotate_left
            ·
             intro w'
             go_simp
             with_reducible rfl
            rotate_left
            ·
             simp only [Act.put, sb_, sc0_, sc1_, i64_w, i32_w]
             rfl
            refine one_ (i := 8) (N := some 62) #[true, true, true, true, true, true, true, true, true, false] rfl rfl (one_of HT_.out (by kernel_rfl)) (by decide) (fun K hK => ?_)
            refine goes_ Try.func115 (by kernel_rfl) rfl #[.agg #[.slice A155_0 ((rd_IRule l0_1 x5_3).f0).length c155_0, .slice A155_1 ((rd_IRule l0_1 x5_3).f1).length c155_1, .slice A155_2 ((rd_IRule l0_1 x5_3).f2).length c155_2], .int .i64 (l0_0.length : Int)] (by rfl) rfl rfl az ?_
            with_reducible refine (spec_l2Rule.calls k3 _ _ ((rd_IRule l0_1 x5_3).f0) _ _ ((rd_IRule l0_1 x5_3).f1) _ _ ((rd_IRule l0_1 x5_3).f2) (l0_0.length : Int) false _ ?side1 ?side2 ?side3 ?side4 ?side5 ?side6 A21.out).mono ?_
            (case side1 => exact cz HR155_0 HB)
            (case side2 => exact HC155_0.out)
            (case side3 => exact cz HR155_1 HB)
            (case side4 => exact HC155_1.out)
            (case side5 => exact cz HR155_2 HB)
            (case side6 => exact HC155_2.out)
            rintro e w28 ⟨rfl, hb⟩
            refine ⟨_, rfl, ?_⟩
            have n0_ := Aside0.mk (blk_below (g := gb149) (o := .cells #[.slice A0_0 l0_0.length c0_0, .slice (some ad155) l0_1.length c0_1] 43 (0, 0)) (kz BK149) hb)
            have n1_ := Aside0.mk (below_step (bz1 HB GE149) hb)
            clear BK149
            clear HB
            have BK149 := n0_
            have HB := n1_
            clear n0_ n1_
            (try clear hb)
            (try clear hb2)
            (try clear hk)
            (try clear hi)
            refine hK.out _ _ ⟨(blk_cell BK149.out 0).trans rfl, (blk_cell BK149.out 1).trans rfl, ((HB.out.cell (World.block_lt_of_cell? w _ hw155_0)).trans hw155_0), ((HB.out.cell (World.block_lt_of_cell? w _ hw155_1)).trans hw155_1), ((HB.out.cell (World.block_lt_of_cell? w _ hw155_2)).trans hw155_2)⟩ (fun hHeld => ?_)
            clear hK K
            refine norm_ (a' := ?_) ?_ ?_
            rotate_left
            ·
             show Act.put _ (some 62) _ = _
             simp only [Act.put, sb_, sc0_, sc1_, i64_w, i32_w]
             rfl
            refine pure_ (i := 9) (N := some 63) (v := ?_) (a' := ?_) #[true, true, true, true, true, true, true, true, true, true] rfl rfl (any_of HT_.out (by kernel_rfl)) (fun _ _ _ h => h) (Or.inl ⟨by rfl, ?_⟩) ?_ ?_
            rotate_left
            ·
             intro w'
             go_simp
             with_reducible rfl
            rotate_left
            ·
             simp only [Act.put, sb_, sc0_, sc1_, i64_w, i32_w]
             rfl
            refine done_ (done_of HT_.out (by kernel_rfl)) ?_
            try go_wp2
            go_ret
            exact ⟨rz, bz1 HB GE149⟩
          ·
           rw [if_neg c20] at H
           exact absurd H (by simp)
         ·
          rw [if_neg c19] at H
          have c19b0 : decide (x5_3 < (l0_1.length : Int)) = false := decide_eq_false c19
          clear c19
          obtain rfl := Option.some.inj H
          have hcz29_0 : wr.cell? ⟨gb149, 0, none⟩ = some (.slice A0_0 l0_0.length c0_0) := (blk_cell BK149.out 0).trans rfl
          have hcz29_1 : wr.cell? ⟨gb149, 1, none⟩ = some (.slice A0_1 l0_1.length c0_1) := (blk_cell BK149.out 1).trans rfl
          have hfz29_0 := blk_frozen BK149.out 0
          have hfz29_1 := blk_frozen BK149.out 1
          go_wp2
          go_ret
          exact ⟨rz, bz1 HB GE149⟩
end Go.Proofs.Ytndmhmekmkgccaa.PFnExactInRange
end
section
namespace Go.Proofs.Ytndmhmekmkgccaa.PFnExactInRange
open Go.RowKit Go.Proofs.YtndmhmekmkgccaaW.PrintWords Go.Proofs.YtndmhmekmkgccaaW.PrintLast Go.Proofs.YtndmhmekmkgccaaW.PrintMore
attribute [local go_sem] max2_int min2_int max_two min_two max_three min_three max_four min_four   -- for this text's walks alone
set_option linter.unusedVariables false
set_option linter.unusedSimpArgs false
set_option maxHeartbeats 8000000 in
set_option maxRecDepth 100000 in
theorem spec_l2In.calls (k : Nat) (A0_0 : Option Addr) (c0_0 : Nat) (l0_0 : List (IVar)) (A0_1 : Option Addr) (c0_1 : Nat) (l0_1 : List (IRule)) (A1 : Option Addr) (c1 : Nat) (l1 : List Int) (r : Bool) (w : World) (hr0_0 : Kd.C k141 w A0_0 l0_0.length l0_0) (hc0_0 : l0_0.length ≤ c0_0) (hr0_1 : Kd.C k145 w A0_1 l0_1.length l0_1) (hc0_1 : l0_1.length ≤ c0_1) (hr1 : Kd.C (Kd.int .i64) w A1 l1.length l1) (hc1 : l1.length ≤ c1) (h : spec_l2In.f k l0_0 l0_1 l1 = some r) :
  Calls Try.prog 60 #[.agg #[.slice A0_0 l0_0.length c0_0, .slice A0_1 l0_1.length c0_1], .slice A1 l1.length c1] w fun e w' => e = .returned (.bool r) ∧ Below w.heap.size w w' := by
 have hu43 := Try.underlying43
 have HR0_0 := Aside0.mk hr0_0
 have HC0_0 := Aside0.mk hc0_0
 clear hr0_0 hc0_0
 have HR0_1 := Aside0.mk hr0_1
 have HC0_1 := Aside0.mk hc0_1
 clear hr0_1 hc0_1
 have HR1 := Aside0.mk hr1
 have HC1 := Aside0.mk hc1
 clear hr1 hc1
 have HB := Aside0.mk (Below.refl w.heap.size w)
 have H : (if (l1.length : Int) = (l0_0.length : Int) then (spec_l2In.l0 k l1 0 l0_0 l0_1) else (some false)) = some r := h
 clear h
 by_cases c3 : (l1.length : Int) = (l0_0.length : Int)
 ·
  rw [if_pos c3] at H
  have c3b0 : ((l1.length : Int) == (l0_0.length : Int)) = true := beq_iff_eq.mpr c3
  have c3b1 : ((l1.length : Int) != (l0_0.length : Int)) = false := bne_eq_false_iff_eq.mpr c3
  have c3b2 : (l1.length == l0_0.length) = true := by first | simpa using c3 | (simp at c3 ⊢; omega)
  clear c3
  have H' := Aside0.mk H
  clear H
  go_enter Try.func60, Try.ntmps60
  go_wp2_with (first | ((with_reducible refine gate_dst (N := 2) rfl ?_); refine box_event ?hg (N := 2) ?hd (cs := #[.slice A0_0 l0_0.length c0_0, .slice A0_1 l0_1.length c0_1]) (t := 43) ?hr ?_; (case hd => rfl); (case hg => rfl); (case hr => first | (go_simp; done) | (go_simp; rfl)); intro gb157 hg w4 hbox hb; have n0_ := Aside0.mk (below_step (bz HB) hb); have n1_ := Aside0.mk (hbox); have n2_ := Aside0.mk ((by rw [hg]; exact (below_size (bz HB)) : w.heap.size ≤ gb157)); have n3_ := Aside0.mk ((by rw [hg]; exact (below_size (bz HB)) : w.heap.size ≤ gb157)); clear HB; have HB := n0_; have BK157 := n1_; have GW157 := n2_; have GE157 := n3_; clear n0_ n1_ n2_ n3_; clear hb hbox hg; have hcz5_0 : w4.cell? ⟨gb157, 0, none⟩ = some (.slice A0_0 l0_0.length c0_0) := (blk_cell BK157.out 0).trans rfl; have hcz5_1 : w4.cell? ⟨gb157, 1, none⟩ = some (.slice A0_1 l0_1.length c0_1) := (blk_cell BK157.out 1).trans rfl; have hfz5_0 := blk_frozen BK157.out 0; have hfz5_1 := blk_frozen BK157.out 1))
  repeat (go_quiet (first | ((with_reducible refine gate_dst (N := 2) rfl ?_); refine box_event ?hg (N := 2) ?hd (cs := #[.slice A0_0 l0_0.length c0_0, .slice A0_1 l0_1.length c0_1]) (t := 43) ?hr ?_; (case hd => rfl); (case hg => rfl); (case hr => first | (go_simp; done) | (go_simp; rfl)); intro gb157 hg w4 hbox hb; have n0_ := Aside0.mk (below_step (bz HB) hb); have n1_ := Aside0.mk (hbox); have n2_ := Aside0.mk ((by rw [hg]; exact (below_size (bz HB)) : w.heap.size ≤ gb157)); have n3_ := Aside0.mk ((by rw [hg]; exact (below_size (bz HB)) : w.heap.size ≤ gb157)); clear HB; have HB := n0_; have BK157 := n1_; have GW157 := n2_; have GE157 := n3_; clear n0_ n1_ n2_ n3_; clear hb hbox hg; have hcz5_0 : w4.cell? ⟨gb157, 0, none⟩ = some (.slice A0_0 l0_0.length c0_0) := (blk_cell BK157.out 0).trans rfl; have hcz5_1 : w4.cell? ⟨gb157, 1, none⟩ = some (.slice A0_1 l0_1.length c0_1) := (blk_cell BK157.out 1).trans rfl; have hfz5_0 := blk_frozen BK157.out 0; have hfz5_1 := blk_frozen BK157.out 1)); try go_wp2_with (first | ((with_reducible refine gate_dst (N := 2) rfl ?_); refine box_event ?hg (N := 2) ?hd (cs := #[.slice A0_0 l0_0.length c0_0, .slice A0_1 l0_1.length c0_1]) (t := 43) ?hr ?_; (case hd => rfl); (case hg => rfl); (case hr => first | (go_simp; done) | (go_simp; rfl)); intro gb157 hg w4 hbox hb; have n0_ := Aside0.mk (below_step (bz HB) hb); have n1_ := Aside0.mk (hbox); have n2_ := Aside0.mk ((by rw [hg]; exact (below_size (bz HB)) : w.heap.size ≤ gb157)); have n3_ := Aside0.mk ((by rw [hg]; exact (below_size (bz HB)) : w.heap.size ≤ gb157)); clear HB; have HB := n0_; have BK157 := n1_; have GW157 := n2_; have GE157 := n3_; clear n0_ n1_ n2_ n3_; clear hb hbox hg; have hcz5_0 : w4.cell? ⟨gb157, 0, none⟩ = some (.slice A0_0 l0_0.length c0_0) := (blk_cell BK157.out 0).trans rfl; have hcz5_1 : w4.cell? ⟨gb157, 1, none⟩ = some (.slice A0_1 l0_1.length c0_1) := (blk_cell BK157.out 1).trans rfl; have hfz5_0 := blk_frozen BK157.out 0; have hfz5_1 := blk_frozen BK157.out 1)))
  go_loopg [5] k (fun kq v5 w' => ∃ (x5_1 : Int), v5 = .int .i64 x5_1 ∧ Aside0 (spec_l2In.l0 kq l1 x5_1 l0_0 l0_1 = some r) ∧ Aside0 (kq ≤ k) ∧ Aside0 (w'.heap[gb157]? = some (.cells #[(.slice A0_0 l0_0.length c0_0), (.slice A0_1 l0_1.length c0_1)] 43 (0, 0))) ∧ Aside0 (Below w.heap.size w w'))
  case atStart => exact ⟨(0), rq, H', ⟨Nat.le_refl _⟩, ⟨kz BK157⟩, ⟨bz1 HB GE157⟩⟩
  case round =>
   clear H'
   try clear c1
   try clear p2
   try clear c3
   try clear c3b0
   try clear c3b1
   try clear c3b2
   try clear hcz5_0
   try clear hcz5_1
   try clear hfz5_0
   try clear hfz5_1
   obtain ⟨x5_1, rfl, HA, HK1, BK157, HB⟩ := hrel
   cases gk with
   | zero => exact absurd HA.out (by simp [spec_l2In.l0])
   | succ k1 =>
    have H := HA.out
    clear HA
    simp only [spec_l2In.l0] at H
    by_cases c6 : x5_1 < (l1.length : Int)
    ·
     rw [if_pos c6] at H
     have c6b0 : decide (x5_1 < (l1.length : Int)) = true := decide_eq_true c6
     clear c6
     by_cases c7 : 0 ≤ x5_1
     ·
      rw [if_pos c7] at H
      have c7b0 : decide (0 ≤ x5_1) = true := decide_eq_true c7
      clear c7
      by_cases c8 : x5_1 < (l0_0.length : Int)
      ·
       rw [if_pos c8] at H
       have c8b0 : decide (x5_1 < (l0_0.length : Int)) = true := decide_eq_true c8
       clear c8
       replace H := Option.bind_eq_some_iff.mp H
       obtain ⟨t161, A90, H⟩ := H
       have A9 := Aside0.mk A90
       clear A90
       by_cases c10 : t161 = true
       ·
        subst c10
        rw [if_pos rfl] at H
        have H' := Aside0.mk H
        clear H
        have p158 : 0 ≤ (x5_1 : Int) := dz
        have q158 : x5_1 < (l1.length : Int) := dz
        obtain ⟨ad158, e158, hx158_0⟩ := Kd.at_int HR1.out x5_1 p158 q158
        cases e158
        replace hx158_0 := xz HB hx158_0
        replace p158 := eq_true p158
        replace q158 := eq_true q158
        have hcz11_0 : wr.cell? ⟨gb157, 0, none⟩ = some (.slice A0_0 l0_0.length c0_0) := (blk_cell BK157.out 0).trans rfl
        have hcz11_1 : wr.cell? ⟨gb157, 1, none⟩ = some (.slice A0_1 l0_1.length c0_1) := (blk_cell BK157.out 1).trans rfl
        have hfz11_0 := blk_frozen BK157.out 0
        have hfz11_1 := blk_frozen BK157.out 1
        have p159 : 0 ≤ (x5_1 : Int) := dz
        have q159 : x5_1 < (l0_0.length : Int) := dz
        obtain ⟨ad159, e159, hx159_0, hx159_1, hx159_2⟩ := at_IVar HR0_0.out x5_1 p159 q159
        cases e159
        replace hx159_0 := xz HB hx159_0
        replace hx159_1 := xz HB hx159_1
        replace hx159_2 := xz HB hx159_2
        replace p159 := eq_true p159
        replace q159 := eq_true q159
        have p160 : 0 ≤ (x5_1 : Int) := dz
        have q160 : x5_1 < (l0_0.length : Int) := dz
        obtain ⟨ad160, e160, hx160_0, hx160_1, hx160_2⟩ := at_IVar HR0_0.out x5_1 p160 q160
        obtain rfl : ad159 = ad160 := (by injection e160)
        replace hx160_0 := xz HB hx160_0
        replace hx160_1 := xz HB hx160_1
        replace hx160_2 := xz HB hx160_2
        replace p160 := eq_true p160
        replace q160 := eq_true q160
        go_wp2_with (first | (go_at_call 92; (with_reducible refine (spec_l1In.calls (rd l1 x5_1) ((rd_IVar l0_0 x5_1).f0) ((rd_IVar l0_0 x5_1).f1) true _ A9.out).mono ?_); rintro e w' ⟨rfl, ⟨nd, rfl⟩⟩; (try first | exact ⟨rfl, _, World.drewN_drewN _ _ _⟩ | exact ⟨rfl, _, Eq.trans (World.drewN_drewN _ _ _) (congrArg (World.drewN _) (Nat.add_assoc _ _ _))⟩)))
        repeat (go_quiet (first | (go_at_call 92; (with_reducible refine (spec_l1In.calls (rd l1 x5_1) ((rd_IVar l0_0 x5_1).f0) ((rd_IVar l0_0 x5_1).f1) true _ A9.out).mono ?_); rintro e w' ⟨rfl, ⟨nd, rfl⟩⟩; (try first | exact ⟨rfl, _, World.drewN_drewN _ _ _⟩ | exact ⟨rfl, _, Eq.trans (World.drewN_drewN _ _ _) (congrArg (World.drewN _) (Nat.add_assoc _ _ _))⟩))); try go_wp2_with (first | (go_at_call 92; (with_reducible refine (spec_l1In.calls (rd l1 x5_1) ((rd_IVar l0_0 x5_1).f0) ((rd_IVar l0_0 x5_1).f1) true _ A9.out).mono ?_); rintro e w' ⟨rfl, ⟨nd, rfl⟩⟩; (try first | exact ⟨rfl, _, World.drewN_drewN _ _ _⟩ | exact ⟨rfl, _, Eq.trans (World.drewN_drewN _ _ _) (congrArg (World.drewN _) (Nat.add_assoc _ _ _))⟩))))
        go_roundg k1
        case measure => have := HK1.out; omega
        case rel => exact ⟨(wrap64 (x5_1 + 1)), rq, H', ⟨by have := HK1.out; omega⟩, ⟨kz BK157⟩, ⟨bz1 HB GE157⟩⟩
       ·
        replace c10 := Bool.eq_false_iff.mpr c10
        subst c10
        rw [if_neg nt_] at H
        obtain rfl := Option.some.inj H
        have p158 : 0 ≤ (x5_1 : Int) := dz
        have q158 : x5_1 < (l1.length : Int) := dz
        obtain ⟨ad158, e158, hx158_0⟩ := Kd.at_int HR1.out x5_1 p158 q158
        cases e158
        replace hx158_0 := xz HB hx158_0
        replace p158 := eq_true p158
        replace q158 := eq_true q158
        have hcz12_0 : wr.cell? ⟨gb157, 0, none⟩ = some (.slice A0_0 l0_0.length c0_0) := (blk_cell BK157.out 0).trans rfl
        have hcz12_1 : wr.cell? ⟨gb157, 1, none⟩ = some (.slice A0_1 l0_1.length c0_1) := (blk_cell BK157.out 1).trans rfl
        have hfz12_0 := blk_frozen BK157.out 0
        have hfz12_1 := blk_frozen BK157.out 1
        have p159 : 0 ≤ (x5_1 : Int) := dz
        have q159 : x5_1 < (l0_0.length : Int) := dz
        obtain ⟨ad159, e159, hx159_0, hx159_1, hx159_2⟩ := at_IVar HR0_0.out x5_1 p159 q159
        cases e159
        replace hx159_0 := xz HB hx159_0
        replace hx159_1 := xz HB hx159_1
        replace hx159_2 := xz HB hx159_2
        replace p159 := eq_true p159
        replace q159 := eq_true q159
        have p160 : 0 ≤ (x5_1 : Int) := dz
        have q160 : x5_1 < (l0_0.length : Int) := dz
        obtain ⟨ad160, e160, hx160_0, hx160_1, hx160_2⟩ := at_IVar HR0_0.out x5_1 p160 q160
        obtain rfl : ad159 = ad160 := (by injection e160)
        replace hx160_0 := xz HB hx160_0
        replace hx160_1 := xz HB hx160_1
        replace hx160_2 := xz HB hx160_2
        replace p160 := eq_true p160
        replace q160 := eq_true q160
        go_wp2_with (first | (go_at_call 92; (with_reducible refine (spec_l1In.calls (rd l1 x5_1) ((rd_IVar l0_0 x5_1).f0) ((rd_IVar l0_0 x5_1).f1) false _ A9.out).mono ?_); rintro e w' ⟨rfl, ⟨nd, rfl⟩⟩; (try first | exact ⟨rfl, _, World.drewN_drewN _ _ _⟩ | exact ⟨rfl, _, Eq.trans (World.drewN_drewN _ _ _) (congrArg (World.drewN _) (Nat.add_assoc _ _ _))⟩)))
        repeat (go_quiet (first | (go_at_call 92; (with_reducible refine (spec_l1In.calls (rd l1 x5_1) ((rd_IVar l0_0 x5_1).f0) ((rd_IVar l0_0 x5_1).f1) false _ A9.out).mono ?_); rintro e w' ⟨rfl, ⟨nd, rfl⟩⟩; (try first | exact ⟨rfl, _, World.drewN_drewN _ _ _⟩ | exact ⟨rfl, _, Eq.trans (World.drewN_drewN _ _ _) (congrArg (World.drewN _) (Nat.add_assoc _ _ _))⟩))); try go_wp2_with (first | (go_at_call 92; (with_reducible refine (spec_l1In.calls (rd l1 x5_1) ((rd_IVar l0_0 x5_1).f0) ((rd_IVar l0_0 x5_1).f1) false _ A9.out).mono ?_); rintro e w' ⟨rfl, ⟨nd, rfl⟩⟩; (try first | exact ⟨rfl, _, World.drewN_drewN _ _ _⟩ | exact ⟨rfl, _, Eq.trans (World.drewN_drewN _ _ _) (congrArg (World.drewN _) (Nat.add_assoc _ _ _))⟩))))
        go_ret
        exact ⟨rz, bz1 HB GE157⟩
      ·
       rw [if_neg c8] at H
       exact absurd H (by simp)
     ·
      rw [if_neg c7] at H
      exact absurd H (by simp)
    ·
     rw [if_neg c6] at H
     have c6b0 : decide (x5_1 < (l1.length : Int)) = false := decide_eq_false c6
     clear c6
     obtain rfl := Option.some.inj H
     go_wp2
     repeat (go_quiet (fail); try go_wp2)
     go_ret
     exact ⟨rz, bz1 HB GE157⟩
 ·
  rw [if_neg c3] at H
  have c3b0 : ((l1.length : Int) == (l0_0.length : Int)) = false := beq_eq_false_iff_ne.mpr c3
  have c3b1 : ((l1.length : Int) != (l0_0.length : Int)) = true := bne_iff_ne.mpr c3
  have c3b2 : (l1.length == l0_0.length) = false := by first | simpa using c3 | (simp at c3 ⊢; omega)
  obtain rfl := Option.some.inj H
  go_enter Try.func60, Try.ntmps60
  go_wp2_with (first | ((with_reducible refine gate_dst (N := 2) rfl ?_); refine box_event ?hg (N := 2) ?hd (cs := #[.slice A0_0 l0_0.length c0_0, .slice A0_1 l0_1.length c0_1]) (t := 43) ?hr ?_; (case hd => rfl); (case hg => rfl); (case hr => first | (go_simp; done) | (go_simp; rfl)); intro gb157 hg w13 hbox hb; have n0_ := Aside0.mk (below_step (bz HB) hb); have n1_ := Aside0.mk (hbox); have n2_ := Aside0.mk ((by rw [hg]; exact (below_size (bz HB)) : w.heap.size ≤ gb157)); have n3_ := Aside0.mk ((by rw [hg]; exact (below_size (bz HB)) : w.heap.size ≤ gb157)); clear HB; have HB := n0_; have BK157 := n1_; have GW157 := n2_; have GE157 := n3_; clear n0_ n1_ n2_ n3_; clear hb hbox hg; have hcz14_0 : w13.cell? ⟨gb157, 0, none⟩ = some (.slice A0_0 l0_0.length c0_0) := (blk_cell BK157.out 0).trans rfl; have hcz14_1 : w13.cell? ⟨gb157, 1, none⟩ = some (.slice A0_1 l0_1.length c0_1) := (blk_cell BK157.out 1).trans rfl; have hfz14_0 := blk_frozen BK157.out 0; have hfz14_1 := blk_frozen BK157.out 1))
  repeat (go_quiet (first | ((with_reducible refine gate_dst (N := 2) rfl ?_); refine box_event ?hg (N := 2) ?hd (cs := #[.slice A0_0 l0_0.length c0_0, .slice A0_1 l0_1.length c0_1]) (t := 43) ?hr ?_; (case hd => rfl); (case hg => rfl); (case hr => first | (go_simp; done) | (go_simp; rfl)); intro gb157 hg w13 hbox hb; have n0_ := Aside0.mk (below_step (bz HB) hb); have n1_ := Aside0.mk (hbox); have n2_ := Aside0.mk ((by rw [hg]; exact (below_size (bz HB)) : w.heap.size ≤ gb157)); have n3_ := Aside0.mk ((by rw [hg]; exact (below_size (bz HB)) : w.heap.size ≤ gb157)); clear HB; have HB := n0_; have BK157 := n1_; have GW157 := n2_; have GE157 := n3_; clear n0_ n1_ n2_ n3_; clear hb hbox hg; have hcz14_0 : w13.cell? ⟨gb157, 0, none⟩ = some (.slice A0_0 l0_0.length c0_0) := (blk_cell BK157.out 0).trans rfl; have hcz14_1 : w13.cell? ⟨gb157, 1, none⟩ = some (.slice A0_1 l0_1.length c0_1) := (blk_cell BK157.out 1).trans rfl; have hfz14_0 := blk_frozen BK157.out 0; have hfz14_1 := blk_frozen BK157.out 1)); try go_wp2_with (first | ((with_reducible refine gate_dst (N := 2) rfl ?_); refine box_event ?hg (N := 2) ?hd (cs := #[.slice A0_0 l0_0.length c0_0, .slice A0_1 l0_1.length c0_1]) (t := 43) ?hr ?_; (case hd => rfl); (case hg => rfl); (case hr => first | (go_simp; done) | (go_simp; rfl)); intro gb157 hg w13 hbox hb; have n0_ := Aside0.mk (below_step (bz HB) hb); have n1_ := Aside0.mk (hbox); have n2_ := Aside0.mk ((by rw [hg]; exact (below_size (bz HB)) : w.heap.size ≤ gb157)); have n3_ := Aside0.mk ((by rw [hg]; exact (below_size (bz HB)) : w.heap.size ≤ gb157)); clear HB; have HB := n0_; have BK157 := n1_; have GW157 := n2_; have GE157 := n3_; clear n0_ n1_ n2_ n3_; clear hb hbox hg; have hcz14_0 : w13.cell? ⟨gb157, 0, none⟩ = some (.slice A0_0 l0_0.length c0_0) := (blk_cell BK157.out 0).trans rfl; have hcz14_1 : w13.cell? ⟨gb157, 1, none⟩ = some (.slice A0_1 l0_1.length c0_1) := (blk_cell BK157.out 1).trans rfl; have hfz14_0 := blk_frozen BK157.out 0; have hfz14_1 := blk_frozen BK157.out 1)))
  go_ret
  exact ⟨rz, bz1 HB GE157⟩
end Go.Proofs.Ytndmhmekmkgccaa.PFnExactInRange
end
