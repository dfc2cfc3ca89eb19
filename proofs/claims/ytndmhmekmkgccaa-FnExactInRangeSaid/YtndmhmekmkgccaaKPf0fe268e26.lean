/- Walks of Go functions: each is shown to answer as the Lean function beside it tells, under the conditions that its theorem names. -/
import Derived.Test.YtndmhmekmkgccaaKP3ef63d26e3
import Derived.Test.YtndmhmekmkgccaaKP741c762594
import Derived.Test.YtndmhmekmkgccaaKP32fcce6f3b
import Derived.Test.YtndmhmekmkgccaaKPe267d55d58
namespace Go.Proofs.Ytndmhmekmkgccaa.PFnExactInRange
open Go.RowKit Go.Proofs.YtndmhmekmkgccaaW.PrintWords Go.Proofs.YtndmhmekmkgccaaW.PrintLast Go.Proofs.YtndmhmekmkgccaaW.PrintMore
attribute [local go_sem] max2_int min2_int max_two min_two max_three min_three max_four min_four   -- for this text's walks alone
set_option linter.unusedVariables false
set_option linter.unusedSimpArgs false
set_option maxHeartbeats 8000000 in
set_option maxRecDepth 100000 in
theorem laws_FnExactInRange.calls (k : Nat) (A0_0 : Option Addr) (c0_0 : Nat) (l0_0 : List (LVar)) (A0_1 : Option Addr) (c0_1 : Nat) (l0_1 : List (LRule)) (A1 : Option Addr) (c1 : Nat) (l1 : List Int) (r : Bool) (w : World) (hr0_0 : Kd.C k147 w A0_0 l0_0.length l0_0) (hc0_0 : l0_0.length ≤ c0_0) (hr0_1 : Kd.C k138 w A0_1 l0_1.length l0_1) (hc0_1 : l0_1.length ≤ c0_1) (hr1 : Kd.C (Kd.int .i64) w A1 l1.length l1) (hc1 : l1.length ≤ c1) (h : laws_FnExactInRange.f k l0_0 l0_1 l1 = some r) (hr_ : r = true) :
  Calls Try.prog 4 #[.agg #[.slice A0_0 l0_0.length c0_0, .slice A0_1 l0_1.length c0_1], .slice A1 l1.length c1] w fun e w' => e = .returned (.bool r) ∧ Below w.heap.size w w' := by
 have HR_ := Aside0.mk hr_
 clear hr_
 have hu37 := Try.underlying37
 have hu43 := Try.underlying43
 have HR0_0 := Aside0.mk hr0_0
 have HC0_0 := Aside0.mk hc0_0
 clear hr0_0 hc0_0
 have HR0_1 := Aside0.mk hr0_1
 have HC0_1 := Aside0.mk hc0_1
 clear hr0_1 hc0_1
 have HR1 := Aside0.mk hr1
 have HC1 := Aside0.mk hc1
 clear hr1 hc1
 have HB := Aside0.mk (Below.refl w.heap.size w)
 have H : (if (l1.length : Int) > 1048576 then (some true) else ((laws_szSystem.f k l0_0 l0_1 1048576).bind fun t325 => (if t325 < 0 then (some true) else ((laws_toSystem.f k l0_0 l0_1).bind fun bt326 => ((laws_toIntS.f k l1).bind fun t332 => ((spec_InRange.f k bt326.1 bt326.2 t332).bind fun t335 => ((laws_toSystem.f k l0_0 l0_1).bind fun bt336 => ((laws_toIntS.f k l1).bind fun t343 => ((impl_InRange.f k bt336.1 bt336.2 t343).bind fun t346 => (if (t346 != t335) = true then (some false) else ((laws_toSystem.f k l0_0 l0_1).bind fun bt347 => ((laws_eqSystem.f k bt336.1 bt336.2 bt347.1 bt347.2).bind fun t353 => (if t353 = true then ((laws_toIntS.f k l1).bind fun t354 => ((laws_eqIntS.f k t343 t354).bind fun t357 => (if t357 = true then (some true) else (some false)))) else (some false)))))))))))))) = some r := h
 clear h
 by_cases c3 : (l1.length : Int) > 1048576
 ·
  rw [if_pos c3] at H
  have c3b0 : decide (1048576 < (l1.length : Int)) = true := decide_eq_true c3
  have c3b1 : decide (1048576 < l1.length) = true := decide_eq_true (by omega)
  clear c3
  obtain rfl := Option.some.inj H
  go_enter Try.func4, Try.ntmps4
  go_wp2_with (first | ((with_reducible refine gate_dst (N := 2) rfl ?_); refine box_event ?hg (N := 2) ?hd (cs := #[.slice A0_0 l0_0.length c0_0, .slice A0_1 l0_1.length c0_1]) (t := 37) ?hr ?_; (case hd => rfl); (case hg => rfl); (case hr => first | (go_simp; done) | (go_simp; rfl)); intro gb324 hg w4 hbox hb; have n0_ := Aside0.mk (below_step (bz HB) hb); have n1_ := Aside0.mk (hbox); have n2_ := Aside0.mk ((by rw [hg]; exact (below_size (bz HB)) : w.heap.size ≤ gb324)); have n3_ := Aside0.mk ((by rw [hg]; exact (below_size (bz HB)) : w.heap.size ≤ gb324)); clear HB; have HB := n0_; have BK324 := n1_; have GW324 := n2_; have GE324 := n3_; clear n0_ n1_ n2_ n3_; clear hb hbox hg))
  go_ret
  exact ⟨rz, bz1 HB GE324⟩
 ·
  rw [if_neg c3] at H
  have c3b0 : decide (1048576 < (l1.length : Int)) = false := decide_eq_false c3
  have c3b1 : decide (1048576 < l1.length) = false := decide_eq_false (by omega)
  clear c3
  replace H := Option.bind_eq_some_iff.mp H
  obtain ⟨t325, A50, H⟩ := H
  have A5 := Aside0.mk A50
  clear A50
  by_cases c6 : t325 < 0
  ·
   rw [if_pos c6] at H
   have c6b0 : decide (t325 < 0) = true := decide_eq_true c6
   clear c6
   obtain rfl := Option.some.inj H
   go_enter Try.func4, Try.ntmps4
   go_wp2_with (first | ((with_reducible refine gate_dst (N := 2) rfl ?_); refine box_event ?hg (N := 2) ?hd (cs := #[.slice A0_0 l0_0.length c0_0, .slice A0_1 l0_1.length c0_1]) (t := 37) ?hr ?_; (case hd => rfl); (case hg => rfl); (case hr => first | (go_simp; done) | (go_simp; rfl)); intro gb324 hg w7 hbox hb; have n0_ := Aside0.mk (below_step (bz HB) hb); have n1_ := Aside0.mk (hbox); have n2_ := Aside0.mk ((by rw [hg]; exact (below_size (bz HB)) : w.heap.size ≤ gb324)); have n3_ := Aside0.mk ((by rw [hg]; exact (below_size (bz HB)) : w.heap.size ≤ gb324)); clear HB; have HB := n0_; have BK324 := n1_; have GW324 := n2_; have GE324 := n3_; clear n0_ n1_ n2_ n3_; clear hb hbox hg; have hcz8_0 : w7.cell? ⟨gb324, 0, none⟩ = some (.slice A0_0 l0_0.length c0_0) := (blk_cell BK324.out 0).trans rfl; have hcz8_1 : w7.cell? ⟨gb324, 1, none⟩ = some (.slice A0_1 l0_1.length c0_1) := (blk_cell BK324.out 1).trans rfl; have hfz8_0 := blk_frozen BK324.out 0; have hfz8_1 := blk_frozen BK324.out 1) | ((with_reducible refine gate_callee (f := 15) rfl ?_); refine goesL_ (some 15) rfl rfl Try.func15 (by kernel_rfl) rfl #[.agg #[.slice A0_0 l0_0.length c0_0, .slice A0_1 l0_1.length c0_1], .int .i64 1048576] rfl az ?_; (with_reducible refine (laws_szSystem.calls k _ _ l0_0 _ _ l0_1 1048576 t325 _ ?side1 HC0_0.out ?side3 HC0_1.out A5.out).mono ?_); (case side1 => exact cz HR0_0 HB); (case side3 => exact cz HR0_1 HB); rintro e w9 ⟨rfl, hb⟩; refine ⟨_, rfl, ?_⟩; replace BK324 := Aside0.mk (blk_below (g := gb324) (o := .cells #[.slice A0_0 l0_0.length c0_0, .slice A0_1 l0_1.length c0_1] 37 (0, 0)) (kz BK324) hb); replace HB := Aside0.mk (below_step (bz1 HB GE324) hb); clear hb))
   go_ret
   exact ⟨rz, bz1 HB GE324⟩
  ·
   rw [if_neg c6] at H
   have c6b0 : decide (t325 < 0) = false := decide_eq_false c6
   clear c6
   replace H := Option.bind_eq_some_iff.mp H
   obtain ⟨⟨t326, t329⟩, A100, H⟩ := H
   dsimp only at H
   have A10 := Aside0.mk A100
   clear A100
   replace H := Option.bind_eq_some_iff.mp H
   obtain ⟨t332, A110, H⟩ := H
   have A11 := Aside0.mk A110
   clear A110
   replace H := Option.bind_eq_some_iff.mp H
   obtain ⟨t335, A120, H⟩ := H
   have A12 := Aside0.mk A120
   clear A120
   replace H := Option.bind_eq_some_iff.mp H
   obtain ⟨⟨t336, t339⟩, A130, H⟩ := H
   dsimp only at H
   have A13 := Aside0.mk A130
   clear A130
   replace H := Option.bind_eq_some_iff.mp H
   obtain ⟨t343, A140, H⟩ := H
   have A14 := Aside0.mk A140
   clear A140
   replace H := Option.bind_eq_some_iff.mp H
   obtain ⟨t346, A150, H⟩ := H
   have A15 := Aside0.mk A150
   clear A150
   by_cases c16 : (t346 != t335) = true
   ·
    rw [if_pos c16] at H
    have c16b0 : (t346 != t335) = true := c16
    (try (have c16b1 : decide (t346 = t335) = false := by simpa using c16))
    (try (have c16b2 : (t346 == t335) = false := by simpa using c16))
    (try (have c16b3 : ¬ (t346 = t335) := by simpa using c16))
    clear c16
    exact absurd ((Option.some.inj H).trans HR_.out) (by decide)
   ·
    rw [if_neg c16] at H
    have c16b0 : (t346 != t335) = false := by simpa using c16
    (try (have c16b1 : decide (t346 = t335) = true := by simpa using c16))
    (try (have c16b2 : (t346 == t335) = true := by simpa using c16))
    clear c16
    replace H := Option.bind_eq_some_iff.mp H
    obtain ⟨⟨t347, t350⟩, A170, H⟩ := H
    dsimp only at H
    have A17 := Aside0.mk A170
    clear A170
    replace H := Option.bind_eq_some_iff.mp H
    obtain ⟨t353, A180, H⟩ := H
    have A18 := Aside0.mk A180
    clear A180
    by_cases c19 : t353 = true
    ·
     subst c19
     rw [if_pos rfl] at H
     replace H := Option.bind_eq_some_iff.mp H
     obtain ⟨t354, A200, H⟩ := H
     have A20 := Aside0.mk A200
     clear A200
     replace H := Option.bind_eq_some_iff.mp H
     obtain ⟨t357, A210, H⟩ := H
     have A21 := Aside0.mk A210
     clear A210
     by_cases c22 : t357 = true
     ·
      subst c22
      rw [if_pos rfl] at H
      obtain rfl := Option.some.inj H
      go_enter Try.func4, Try.ntmps4
      try go_wp2_with (first | ((with_reducible refine gate_dst (N := 2) rfl ?_); refine box_event ?hg (N := 2) ?hd (cs := #[.slice A0_0 l0_0.length c0_0, .slice A0_1 l0_1.length c0_1]) (t := 37) ?hr ?_; (case hd => rfl); (case hg => rfl); (case hr => first | (go_simp; done) | (go_simp; rfl)); intro gb324 hg w23 hbox hb; have n0_ := Aside0.mk (below_step (bz HB) hb); have n1_ := Aside0.mk (hbox); have n2_ := Aside0.mk ((by rw [hg]; exact (below_size (bz HB)) : w.heap.size ≤ gb324)); have n3_ := Aside0.mk ((by rw [hg]; exact (below_size (bz HB)) : w.heap.size ≤ gb324)); clear HB; have HB := n0_; have BK324 := n1_; have GW324 := n2_; have GE324 := n3_; clear n0_ n1_ n2_ n3_; clear hb hbox hg; have hcz24_0 : w23.cell? ⟨gb324, 0, none⟩ = some (.slice A0_0 l0_0.length c0_0) := (blk_cell BK324.out 0).trans rfl; have hcz24_1 : w23.cell? ⟨gb324, 1, none⟩ = some (.slice A0_1 l0_1.length c0_1) := (blk_cell BK324.out 1).trans rfl; have hfz24_0 := blk_frozen BK324.out 0; have hfz24_1 := blk_frozen BK324.out 1) | ((with_reducible refine gate_callee (f := 15) rfl ?_); refine goesL_ (some 15) rfl rfl Try.func15 (by kernel_rfl) rfl #[.agg #[.slice A0_0 l0_0.length c0_0, .slice A0_1 l0_1.length c0_1], .int .i64 1048576] rfl az ?_; (with_reducible refine (laws_szSystem.calls k _ _ l0_0 _ _ l0_1 1048576 t325 _ ?side1 HC0_0.out ?side3 HC0_1.out A5.out).mono ?_); (case side1 => exact cz HR0_0 HB); (case side3 => exact cz HR0_1 HB); rintro e w25 ⟨rfl, hb⟩; refine ⟨_, rfl, ?_⟩; replace BK324 := Aside0.mk (blk_below (g := gb324) (o := .cells #[.slice A0_0 l0_0.length c0_0, .slice A0_1 l0_1.length c0_1] 37 (0, 0)) (kz BK324) hb); replace HB := Aside0.mk (below_step (bz1 HB GE324) hb); clear hb; have hcz26_0 : w25.cell? ⟨gb324, 0, none⟩ = some (.slice A0_0 l0_0.length c0_0) := (blk_cell BK324.out 0).trans rfl; have hcz26_1 : w25.cell? ⟨gb324, 1, none⟩ = some (.slice A0_1 l0_1.length c0_1) := (blk_cell BK324.out 1).trans rfl; have hfz26_0 := blk_frozen BK324.out 0; have hfz26_1 := blk_frozen BK324.out 1) | ((with_reducible refine gate_callee (f := 17) rfl ?_); refine goesL_ (some 19) rfl rfl Try.func17 (by kernel_rfl) rfl #[.agg #[.slice A0_0 l0_0.length c0_0, .slice A0_1 l0_1.length c0_1]] rfl az ?_; (with_reducible refine (laws_toSystem.calls k _ _ l0_0 _ _ l0_1 t326 t329 _ ?side1 HC0_0.out ?side3 HC0_1.out A10.out).mono ?_); (case side1 => exact cz HR0_0 HB); (case side3 => exact cz HR0_1 HB); rintro e w27 ⟨v327, v330, rfl, ho0, ho1, hb⟩; refine ⟨_, rfl, ?_⟩; have HO328 := Aside0.mk (Kd.R_lower ho0 (below_size (bz1 HB GE324))); have HO331 := Aside0.mk (Kd.R_lower ho1 (below_size (bz1 HB GE324))); replace BK324 := Aside0.mk (blk_below (g := gb324) (o := .cells #[.slice A0_0 l0_0.length c0_0, .slice A0_1 l0_1.length c0_1] 37 (0, 0)) (kz BK324) hb); replace HB := Aside0.mk (below_step (bz1 HB GE324) hb); clear hb; (try clear ho0); (try clear ho1)) | ((with_reducible refine gate_callee (f := 18) rfl ?_); refine goesL_ (some 21) rfl rfl Try.func18 (by kernel_rfl) rfl #[.slice A1 l1.length c1] rfl az ?_; (with_reducible refine (laws_toIntS.calls k _ _ l1 t332 _ ?side1 HC1.out A11.out).mono ?_); (case side1 => exact cz HR1 HB); rintro e w28 ⟨v333, rfl, ho0, hb⟩; refine ⟨_, rfl, ?_⟩; replace HO328 := Aside0.mk (Kd.R_below (ozR HO328) hb); replace HO331 := Aside0.mk (Kd.R_elder' (ozR HO331) (Kd.R_base ho0) hb); have HO334 := Aside0.mk (Kd.R_lower ho0 (below_size (bz1 HB GE324))); replace BK324 := Aside0.mk (blk_below (g := gb324) (o := .cells #[.slice A0_0 l0_0.length c0_0, .slice A0_1 l0_1.length c0_1] 37 (0, 0)) (kz BK324) hb); replace HB := Aside0.mk (below_step (bz1 HB GE324) hb); clear hb; (try clear ho0); obtain ⟨Ao29, co29, eo29⟩ := Kd.R_slice HO328.out; subst eo29; obtain ⟨Ao30, co30, eo30⟩ := Kd.R_slice HO331.out; subst eo30; obtain ⟨Ao31, co31, eo31⟩ := Kd.R_slice HO334.out; subst eo31) | ((with_reducible refine gate_callee (f := 16) rfl ?_); refine goesL_ (some 22) rfl rfl Try.func16 (by kernel_rfl) rfl #[.agg #[.slice Ao29 t326.length co29, .slice Ao30 t329.length co30], .slice Ao31 t332.length co31] rfl az ?_; (with_reducible refine (spec_InRange.calls k _ _ t326 _ _ t329 _ _ t332 t335 _ ?side1 ?side2 ?side3 ?side4 ?side5 ?side6 A12.out).mono ?_); (case side1 => exact cz1 (Kd.R_reads' HO328.out).2.2); (case side2 => exact (Kd.R_reads' HO328.out).2.1); (case side3 => exact cz1 (Kd.R_reads' HO331.out).2.2); (case side4 => exact (Kd.R_reads' HO331.out).2.1); (case side5 => exact cz1 (Kd.R_reads' HO334.out).2.2); (case side6 => exact (Kd.R_reads' HO334.out).2.1); rintro e w32 ⟨rfl, hb⟩; refine ⟨_, rfl, ?_⟩; replace HO328 := Aside0.mk (Kd.R_below (ozR HO328) hb); replace HO331 := Aside0.mk (Kd.R_below (ozR HO331) hb); replace HO334 := Aside0.mk (Kd.R_below (ozR HO334) hb); replace BK324 := Aside0.mk (blk_below (g := gb324) (o := .cells #[.slice A0_0 l0_0.length c0_0, .slice A0_1 l0_1.length c0_1] 37 (0, 0)) (kz BK324) hb); replace HB := Aside0.mk (below_step (bz1 HB GE324) hb); clear hb; have hcz33_0 : w32.cell? ⟨gb324, 0, none⟩ = some (.slice A0_0 l0_0.length c0_0) := (blk_cell BK324.out 0).trans rfl; have hcz33_1 : w32.cell? ⟨gb324, 1, none⟩ = some (.slice A0_1 l0_1.length c0_1) := (blk_cell BK324.out 1).trans rfl; have hfz33_0 := blk_frozen BK324.out 0; have hfz33_1 := blk_frozen BK324.out 1) | ((with_reducible refine gate_callee (f := 17) rfl ?_); refine goesL_ (some 24) rfl rfl Try.func17 (by kernel_rfl) rfl #[.agg #[.slice A0_0 l0_0.length c0_0, .slice A0_1 l0_1.length c0_1]] rfl az ?_; (with_reducible refine (laws_toSystem.calls k _ _ l0_0 _ _ l0_1 t336 t339 _ ?side1 HC0_0.out ?side3 HC0_1.out A13.out).mono ?_); (case side1 => exact cz HR0_0 HB); (case side3 => exact cz HR0_1 HB); rintro e w34 ⟨v337, v340, rfl, ho0, ho1, hb⟩; refine ⟨_, rfl, ?_⟩; have n0_ := Aside0.mk (Kd.R_elder' (ozR HO328) (Kd.R_base ho0) hb); have n1_ := Aside0.mk (Kd.R_elder' (ozR HO331) (Kd.R_base ho1) hb); have n2_ := Aside0.mk (Kd.R_below (ozR HO334) hb); have n3_ := Aside0.mk (Kd.R_lower (Kd.R_new' ho0 (Kd.R_lt (ozR HO328))) (below_size (bz1 HB GE324))); have n4_ := Aside0.mk (Kd.R_lower (Kd.R_new' (Kd.R_new' ho1 (Kd.R_lt (ozR HO331))) (Kd.R_lt (ozR HO334))) (below_size (bz1 HB GE324))); have n5_ := Aside0.mk (blk_below (g := gb324) (o := .cells #[.slice A0_0 l0_0.length c0_0, .slice A0_1 l0_1.length c0_1] 37 (0, 0)) (kz BK324) hb); have n6_ := Aside0.mk (below_step (bz1 HB GE324) hb); clear HO328; clear HO331; clear HO334; clear BK324; clear HB; have HO328 := n0_; have HO331 := n1_; have HO334 := n2_; have HO338 := n3_; have HO341 := n4_; have BK324 := n5_; have HB := n6_; clear n0_ n1_ n2_ n3_ n4_ n5_ n6_; clear hb; (try clear ho0); (try clear ho1)) | ((with_reducible refine gate_dst (N := 7) rfl ?_); refine box_event ?hg (N := 7) ?hd (cs := #[.slice none 0 0, .slice none 0 0]) (t := 43) ?hr ?_; (case hd => rfl); (case hg => rfl); (case hr => first | (go_simp; done) | (go_simp; rfl)); intro gb342 hg w35 hbox hb; have n0_ := Aside0.mk (Kd.R_below (ozR HO328) hb); have n1_ := Aside0.mk (Kd.R_below (ozR HO331) hb); have n2_ := Aside0.mk (Kd.R_below (ozR HO334) hb); have n3_ := Aside0.mk (Kd.R_below (ozR HO338) hb); have n4_ := Aside0.mk (Kd.R_below (ozR HO341) hb); have n5_ := Aside0.mk (blk_below (g := gb324) (o := .cells #[.slice A0_0 l0_0.length c0_0, .slice A0_1 l0_1.length c0_1] 37 (0, 0)) (kz BK324) hb); have n6_ := Aside0.mk (below_step (bz1 HB GE324) hb); have n7_ := Aside0.mk (hbox); have n8_ := Aside0.mk ((by rw [hg]; exact (below_size (bz1 HB GE324)) : w.heap.size ≤ gb342)); have n9_ := Aside0.mk ((by rw [hg]; exact (below_size (bz1 HB GE324)) : w.heap.size ≤ gb342)); have n10_ := Aside0.mk ((by rw [hg]; exact Nat.ne_of_lt (blk_lt (g := gb324) (o := .cells #[.slice A0_0 l0_0.length c0_0, .slice A0_1 l0_1.length c0_1] 37 (0, 0)) (kz BK324)) : gb324 ≠ gb342)); have n11_ := Aside0.mk ((by rw [hg]; exact Nat.ne_of_gt (blk_lt (g := gb324) (o := .cells #[.slice A0_0 l0_0.length c0_0, .slice A0_1 l0_1.length c0_1] 37 (0, 0)) (kz BK324)) : gb342 ≠ gb324)); clear HO328; clear HO331; clear HO334; clear HO338; clear HO341; clear BK324; clear HB; have HO328 := n0_; have HO331 := n1_; have HO334 := n2_; have HO338 := n3_; have HO341 := n4_; have BK324 := n5_; have HB := n6_; have BK342 := n7_; have GW342 := n8_; have GE342 := n9_; have NB324_342 := n10_; have NB342_324 := n11_; clear n0_ n1_ n2_ n3_ n4_ n5_ n6_ n7_ n8_ n9_ n10_ n11_; clear hb hbox hg; obtain ⟨Ao36, co36, eo36⟩ := Kd.R_slice HO338.out; subst eo36; have hnb37 := NB342_324.out; have hnc37 := NB324_342.out; have hcz38_0 : w35.cell? ⟨gb342, 0, none⟩ = some (.slice none 0 0) := (blk_cell BK342.out 0).trans rfl; have hcz38_1 : w35.cell? ⟨gb342, 1, none⟩ = some (.slice none 0 0) := (blk_cell BK342.out 1).trans rfl; have hfz38_0 := blk_frozen BK342.out 0; have hfz38_1 := blk_frozen BK342.out 1; obtain ⟨Ao39, co39, eo39⟩ := Kd.R_slice HO341.out; subst eo39) | ((with_reducible refine gate_callee (f := 18) rfl ?_); refine goesL_ (some 26) rfl rfl Try.func18 (by kernel_rfl) rfl #[.slice A1 l1.length c1] rfl az ?_; (with_reducible refine (laws_toIntS.calls k _ _ l1 t343 _ ?side1 HC1.out A14.out).mono ?_); (case side1 => exact Kd.C_below HR1.out (bz2 HB GE324 GE342)); rintro e w40 ⟨v344, rfl, ho0, hb⟩; refine ⟨_, rfl, ?_⟩; have n0_ := Aside0.mk (Kd.R_below (by (with_reducible repeat (first | apply Kd.R_alloc | apply Kd.R_drewN | apply Kd.R_drew)); exact (Kd.R_mono (Kd.R_far (p := ⟨gb342, 1, none⟩) (Kd.R_far (p := ⟨gb342, 0, none⟩) (Kd.R_types HO328.out BK342.out (by decide)) (fun _ hk => hk.2) (.slice Ao36 t336.length co36)) (fun _ hk => hk.2) (.slice Ao39 t339.length co39)) (fun _ h_ => h_.1))) hb); have n1_ := Aside0.mk (Kd.R_elder' (by (with_reducible repeat (first | apply Kd.R_alloc | apply Kd.R_drewN | apply Kd.R_drew)); exact (Kd.R_mono (Kd.R_far (p := ⟨gb342, 1, none⟩) (Kd.R_far (p := ⟨gb342, 0, none⟩) (Kd.R_types HO331.out BK342.out (by decide)) (fun _ hk => hk.2) (.slice Ao36 t336.length co36)) (fun _ hk => hk.2) (.slice Ao39 t339.length co39)) (fun _ h_ => h_.1))) (Kd.R_base ho0) hb); have n2_ := Aside0.mk (Kd.R_elder' (by (with_reducible repeat (first | apply Kd.R_alloc | apply Kd.R_drewN | apply Kd.R_drew)); exact (Kd.R_mono (Kd.R_far (p := ⟨gb342, 1, none⟩) (Kd.R_far (p := ⟨gb342, 0, none⟩) (Kd.R_types HO334.out BK342.out (by decide)) (fun _ hk => hk.2) (.slice Ao36 t336.length co36)) (fun _ hk => hk.2) (.slice Ao39 t339.length co39)) (fun _ h_ => h_.1))) (Kd.R_base ho0) hb); have n3_ := Aside0.mk (Kd.R_below (by (with_reducible repeat (first | apply Kd.R_alloc | apply Kd.R_drewN | apply Kd.R_drew)); exact (Kd.R_mono (Kd.R_far (p := ⟨gb342, 1, none⟩) (Kd.R_far (p := ⟨gb342, 0, none⟩) (Kd.R_types HO338.out BK342.out (by decide)) (fun _ hk => hk.2) (.slice Ao36 t336.length co36)) (fun _ hk => hk.2) (.slice Ao39 t339.length co39)) (fun _ h_ => h_.1))) hb); have n4_ := Aside0.mk (Kd.R_elder' (by (with_reducible repeat (first | apply Kd.R_alloc | apply Kd.R_drewN | apply Kd.R_drew)); exact (Kd.R_mono (Kd.R_far (p := ⟨gb342, 1, none⟩) (Kd.R_far (p := ⟨gb342, 0, none⟩) (Kd.R_types HO341.out BK342.out (by decide)) (fun _ hk => hk.2) (.slice Ao36 t336.length co36)) (fun _ hk => hk.2) (.slice Ao39 t339.length co39)) (fun _ h_ => h_.1))) (Kd.R_base ho0) hb); have n5_ := Aside0.mk (Kd.R_lower (Kd.R_new' ho0 (Kd.R_lt (by (with_reducible repeat (first | apply Kd.R_alloc | apply Kd.R_drewN | apply Kd.R_drew)); exact (Kd.R_mono (Kd.R_far (p := ⟨gb342, 1, none⟩) (Kd.R_far (p := ⟨gb342, 0, none⟩) (Kd.R_types HO334.out BK342.out (by decide)) (fun _ hk => hk.2) (.slice Ao36 t336.length co36)) (fun _ hk => hk.2) (.slice Ao39 t339.length co39)) (fun _ h_ => h_.1))))) (below_size (bz2 HB GE324 GE342))); have n6_ := Aside0.mk (blk_below (g := gb324) (o := .cells #[.slice A0_0 l0_0.length c0_0, .slice A0_1 l0_1.length c0_1] 37 (0, 0)) (by (with_reducible repeat (first | refine blk_drewN ?_ _ | refine blk_drew ?_ | refine blk_alloc ?_ _)); refine blk_far ?_ NB324_342.out _; (with_reducible repeat (first | refine blk_drewN ?_ _ | refine blk_drew ?_ | refine blk_alloc ?_ _)); refine blk_far ?_ NB324_342.out _; exact kz BK324) hb); have n7_ := Aside0.mk (blk_below (g := gb342) (o := .cells #[.slice Ao36 t336.length co36, .slice Ao39 t339.length co39] 43 (0, 0)) (by (with_reducible repeat (first | refine blk_drewN ?_ _ | refine blk_drew ?_ | refine blk_alloc ?_ _)); refine blk_put (cs := #[.slice Ao36 t336.length co36, .slice none 0 0]) ?_ 1 _ rfl; (with_reducible repeat (first | refine blk_drewN ?_ _ | refine blk_drew ?_ | refine blk_alloc ?_ _)); refine blk_put (cs := #[.slice none 0 0, .slice none 0 0]) ?_ 0 _ rfl; exact kz BK342) hb); have n8_ := Aside0.mk (below_step (bz2 HB GE324 GE342) hb); clear HO328; clear HO331; clear HO334; clear HO338; clear HO341; clear BK324; clear BK342; clear HB; have HO328 := n0_; have HO331 := n1_; have HO334 := n2_; have HO338 := n3_; have HO341 := n4_; have HO345 := n5_; have BK324 := n6_; have BK342 := n7_; have HB := n8_; clear n0_ n1_ n2_ n3_ n4_ n5_ n6_ n7_ n8_; clear hb; (try clear hk); (try clear ho0); have hcz41_0 : w40.cell? ⟨gb342, 0, none⟩ = some (.slice Ao36 t336.length co36) := (blk_cell BK342.out 0).trans rfl; have hcz41_1 : w40.cell? ⟨gb342, 1, none⟩ = some (.slice Ao39 t339.length co39) := (blk_cell BK342.out 1).trans rfl; have hfz41_0 := blk_frozen BK342.out 0; have hfz41_1 := blk_frozen BK342.out 1; obtain ⟨Ao42, co42, eo42⟩ := Kd.R_slice HO345.out; subst eo42) | ((with_reducible refine gate_callee (f := 19) rfl ?_); refine goesL_ (some 29) rfl rfl Try.func19 (by kernel_rfl) rfl #[.agg #[.slice Ao36 t336.length co36, .slice Ao39 t339.length co39], .slice Ao42 t343.length co42] rfl az ?_; (with_reducible refine (impl_InRange.calls k _ _ t336 _ _ t339 _ _ t343 t346 _ ?side1 ?side2 ?side3 ?side4 ?side5 ?side6 A15.out).mono ?_); (case side1 => exact cz1 (Kd.R_reads' HO338.out).2.2); (case side2 => exact (Kd.R_reads' HO338.out).2.1); (case side3 => exact cz1 (Kd.R_reads' HO341.out).2.2); (case side4 => exact (Kd.R_reads' HO341.out).2.1); (case side5 => exact cz1 (Kd.R_reads' HO345.out).2.2); (case side6 => exact (Kd.R_reads' HO345.out).2.1); rintro e w43 ⟨rfl, hb⟩; refine ⟨_, rfl, ?_⟩; replace HO328 := Aside0.mk (Kd.R_below (ozR HO328) hb); replace HO331 := Aside0.mk (Kd.R_below (ozR HO331) hb); replace HO334 := Aside0.mk (Kd.R_below (ozR HO334) hb); replace HO338 := Aside0.mk (Kd.R_below (ozR HO338) hb); replace HO341 := Aside0.mk (Kd.R_below (ozR HO341) hb); replace HO345 := Aside0.mk (Kd.R_below (ozR HO345) hb); replace BK324 := Aside0.mk (blk_below (g := gb324) (o := .cells #[.slice A0_0 l0_0.length c0_0, .slice A0_1 l0_1.length c0_1] 37 (0, 0)) (kz BK324) hb); replace BK342 := Aside0.mk (blk_below (g := gb342) (o := .cells #[.slice Ao36 t336.length co36, .slice Ao39 t339.length co39] 43 (0, 0)) (kz BK342) hb); replace HB := Aside0.mk (below_step (bz2 HB GE324 GE342) hb); clear hb))
      have n0_ := Aside0.mk (Kd.R_drew HO328.out)
      have n1_ := Aside0.mk (Kd.R_drew HO331.out)
      have n2_ := Aside0.mk (Kd.R_drew HO334.out)
      have n3_ := Aside0.mk (Kd.R_drew HO338.out)
      have n4_ := Aside0.mk (Kd.R_drew HO341.out)
      have n5_ := Aside0.mk (Kd.R_drew HO345.out)
      have n6_ := Aside0.mk (blk_drew BK324.out)
      have n7_ := Aside0.mk (blk_drew BK342.out)
      have n8_ := Aside0.mk (below_drew1 HB.out)
      clear HO328
      clear HO331
      clear HO334
      clear HO338
      clear HO341
      clear HO345
      clear BK324
      clear BK342
      clear HB
      have HO328 := n0_
      have HO331 := n1_
      have HO334 := n2_
      have HO338 := n3_
      have HO341 := n4_
      have HO345 := n5_
      have BK324 := n6_
      have BK342 := n7_
      have HB := n8_
      clear n0_ n1_ n2_ n3_ n4_ n5_ n6_ n7_ n8_
      refine start_ (n := 5) (S := fun w' => w'.cell? ⟨gb342, 0, none⟩ = some (.slice Ao36 t336.length co36) ∧ w'.cell? ⟨gb342, 1, none⟩ = some (.slice Ao39 t339.length co39) ∧ w'.cell? ⟨gb324, 0, none⟩ = some (.slice A0_0 l0_0.length c0_0) ∧ w'.cell? ⟨gb324, 1, none⟩ = some (.slice A0_1 l0_1.length c0_1)) (ds := []) #[false, false, false, false, false] (by kernel_rfl) rfl rfl ⟨(blk_cell BK342.out 0).trans rfl, (blk_cell BK342.out 1).trans rfl, (blk_cell BK324.out 0).trans rfl, (blk_cell BK324.out 1).trans rfl⟩ (fun hHeld => ?_)
      generalize w43.drew = w44 at HO328 HO331 HO334 HO338 HO341 HO345 BK324 BK342 HB hHeld ⊢
      refine take_ (i := 0) (N := some 33) (v := ?_) (a' := ?_) #[true, false, false, false, false] rfl rfl (by kernel_rfl) (fun _ _ _ h => h) (Or.inl ⟨by rfl, ?_⟩) hHeld ?_ ?_
      rotate_left
      ·
       rintro w' ⟨s0, s1, s2, s3⟩
       go_simp
       with_reducible rfl
      rotate_left
      ·
       simp only [Act.put, sb_, sc0_, sc1_, i64_w, i32_w]
       rfl
      refine take_ (i := 1) (N := some 34) (v := ?_) (a' := ?_) #[true, true, false, false, false] rfl rfl (by kernel_rfl) (fun _ _ _ h => h) (Or.inl ⟨by rfl, ?_⟩) hHeld ?_ ?_
      rotate_left
      ·
       rintro w' ⟨s0, s1, s2, s3⟩
       go_simp
       with_reducible rfl
      rotate_left
      ·
       simp only [Act.put, sb_, sc0_, sc1_, i64_w, i32_w]
       rfl
      refine one_ (i := 2) (N := some 35) #[true, true, true, false, false] rfl rfl (by kernel_rfl) (by decide) (fun K hK => ?_)
      refine goes_ Try.func17 (by kernel_rfl) rfl #[.agg #[.slice A0_0 l0_0.length c0_0, .slice A0_1 l0_1.length c0_1]] (by rfl) rfl rfl az ?_
      with_reducible refine (laws_toSystem.calls k _ _ l0_0 _ _ l0_1 t347 t350 _ ?side1 ?side2 ?side3 ?side4 A17.out).mono ?_
      (case side1 => exact cz HR0_0 HB)
      (case side2 => exact HC0_0.out)
      (case side3 => exact cz HR0_1 HB)
      (case side4 => exact HC0_1.out)
      rintro e w45 ⟨v348, v351, rfl, ho0, ho1, hb⟩
      refine ⟨_, rfl, ?_⟩
      have n0_ := Aside0.mk (Kd.R_elder' (ozR HO328) (Kd.R_base ho0) hb)
      have n1_ := Aside0.mk (Kd.R_elder' (ozR HO331) (Kd.R_base ho1) hb)
      have n2_ := Aside0.mk (Kd.R_below (ozR HO334) hb)
      have n3_ := Aside0.mk (Kd.R_elder' (ozR HO338) (Kd.R_base ho0) hb)
      have n4_ := Aside0.mk (Kd.R_elder' (ozR HO341) (Kd.R_base ho1) hb)
      have n5_ := Aside0.mk (Kd.R_below (ozR HO345) hb)
      have n6_ := Aside0.mk (Kd.R_lower (Kd.R_new' (Kd.R_new' ho0 (Kd.R_lt (ozR HO328))) (Kd.R_lt (ozR HO338))) (below_size (bz2 HB GE324 GE342)))
      have n7_ := Aside0.mk (Kd.R_lower (Kd.R_new' (Kd.R_new' (Kd.R_new' (Kd.R_new' ho1 (Kd.R_lt (ozR HO331))) (Kd.R_lt (ozR HO334))) (Kd.R_lt (ozR HO341))) (Kd.R_lt (ozR HO345))) (below_size (bz2 HB GE324 GE342)))
      have n8_ := Aside0.mk (blk_below (g := gb324) (o := .cells #[.slice A0_0 l0_0.length c0_0, .slice A0_1 l0_1.length c0_1] 37 (0, 0)) (kz BK324) hb)
      have n9_ := Aside0.mk (blk_below (g := gb342) (o := .cells #[.slice Ao36 t336.length co36, .slice Ao39 t339.length co39] 43 (0, 0)) (kz BK342) hb)
      have n10_ := Aside0.mk (below_step (bz2 HB GE324 GE342) hb)
      clear HO328
      clear HO331
      clear HO334
      clear HO338
      clear HO341
      clear HO345
      clear BK324
      clear BK342
      clear HB
      have HO328 := n0_
      have HO331 := n1_
      have HO334 := n2_
      have HO338 := n3_
      have HO341 := n4_
      have HO345 := n5_
      have HO349 := n6_
      have HO352 := n7_
      have BK324 := n8_
      have BK342 := n9_
      have HB := n10_
      clear n0_ n1_ n2_ n3_ n4_ n5_ n6_ n7_ n8_ n9_ n10_
      (try clear hb)
      (try clear hb2)
      (try clear hk)
      (try clear hi)
      (try clear ho0)
      (try clear ho1)
      obtain ⟨Ao46, co46, eo46⟩ := Kd.R_slice HO349.out
      (first | subst eo46 | (injection eo46 with f1_ f2_ f3_; have f4_ := f1_.symm; have f5_ := f3_.symm; clear f1_ f2_ f3_; subst f4_; subst f5_))
      obtain ⟨Ao47, co47, eo47⟩ := Kd.R_slice HO352.out
      (first | subst eo47 | (injection eo47 with f1_ f2_ f3_; have f4_ := f1_.symm; have f5_ := f3_.symm; clear f1_ f2_ f3_; subst f4_; subst f5_))
      refine hK.out _ _ ⟨(blk_cell BK342.out 0).trans rfl, (blk_cell BK342.out 1).trans rfl, (blk_cell BK324.out 0).trans rfl, (blk_cell BK324.out 1).trans rfl⟩ (fun hHeld => ?_)
      clear hK K
      refine norm_ (a' := ?_) ?_ ?_
      rotate_left
      ·
       show Act.put _ (some 35) _ = _
       simp only [Act.put, sb_, sc0_, sc1_, i64_w, i32_w]
       rfl
      refine one_ (i := 3) (N := some 36) #[true, true, true, true, false] rfl rfl (by kernel_rfl) (by decide) (fun K hK => ?_)
      refine goes_ Try.func20 (by kernel_rfl) rfl #[.agg #[.slice Ao36 t336.length co36, .slice Ao39 t339.length co39], .agg #[.slice Ao46 t347.length co46, .slice Ao47 t350.length co47]] (by rfl) rfl rfl az ?_
      with_reducible refine (laws_eqSystem.calls k _ _ t336 _ _ t339 _ _ t347 _ _ t350 true _ ?side1 ?side2 ?side3 ?side4 ?side5 ?side6 ?side7 ?side8 A18.out).mono ?_
      (case side1 => exact cz1 (Kd.R_reads' HO338.out).2.2)
      (case side2 => exact (Kd.R_reads' HO338.out).2.1)
      (case side3 => exact cz1 (Kd.R_reads' HO341.out).2.2)
      (case side4 => exact (Kd.R_reads' HO341.out).2.1)
      (case side5 => exact cz1 (Kd.R_reads' HO349.out).2.2)
      (case side6 => exact (Kd.R_reads' HO349.out).2.1)
      (case side7 => exact cz1 (Kd.R_reads' HO352.out).2.2)
      (case side8 => exact (Kd.R_reads' HO352.out).2.1)
      rintro e w48 ⟨rfl, hb⟩
      refine ⟨_, rfl, ?_⟩
      have n0_ := Aside0.mk (Kd.R_below (ozR HO328) hb)
      have n1_ := Aside0.mk (Kd.R_below (ozR HO331) hb)
      have n2_ := Aside0.mk (Kd.R_below (ozR HO334) hb)
      have n3_ := Aside0.mk (Kd.R_below (ozR HO338) hb)
      have n4_ := Aside0.mk (Kd.R_below (ozR HO341) hb)
      have n5_ := Aside0.mk (Kd.R_below (ozR HO345) hb)
      have n6_ := Aside0.mk (Kd.R_below (ozR HO349) hb)
      have n7_ := Aside0.mk (Kd.R_below (ozR HO352) hb)
      have n8_ := Aside0.mk (blk_below (g := gb324) (o := .cells #[.slice A0_0 l0_0.length c0_0, .slice A0_1 l0_1.length c0_1] 37 (0, 0)) (kz BK324) hb)
      have n9_ := Aside0.mk (blk_below (g := gb342) (o := .cells #[.slice Ao36 t336.length co36, .slice Ao39 t339.length co39] 43 (0, 0)) (kz BK342) hb)
      have n10_ := Aside0.mk (below_step (bz2 HB GE324 GE342) hb)
      clear HO328
      clear HO331
      clear HO334
      clear HO338
      clear HO341
      clear HO345
      clear HO349
      clear HO352
      clear BK324
      clear BK342
      clear HB
      have HO328 := n0_
      have HO331 := n1_
      have HO334 := n2_
      have HO338 := n3_
      have HO341 := n4_
      have HO345 := n5_
      have HO349 := n6_
      have HO352 := n7_
      have BK324 := n8_
      have BK342 := n9_
      have HB := n10_
      clear n0_ n1_ n2_ n3_ n4_ n5_ n6_ n7_ n8_ n9_ n10_
      (try clear hb)
      (try clear hb2)
      (try clear hk)
      (try clear hi)
      refine hK.out _ _ ⟨(blk_cell BK342.out 0).trans rfl, (blk_cell BK342.out 1).trans rfl, (blk_cell BK324.out 0).trans rfl, (blk_cell BK324.out 1).trans rfl⟩ (fun hHeld => ?_)
      clear hK K
      refine norm_ (a' := ?_) ?_ ?_
      rotate_left
      ·
       show Act.put _ (some 36) _ = _
       simp only [Act.put, sb_, sc0_, sc1_, i64_w, i32_w]
       rfl
      refine pure_ (i := 4) (N := some 37) (v := ?_) (a' := ?_) #[true, true, true, true, true] rfl rfl (by kernel_rfl) (fun _ _ _ h => h) (Or.inl ⟨by rfl, ?_⟩) ?_ ?_
      rotate_left
      ·
       intro w'
       go_simp
       with_reducible rfl
      rotate_left
      ·
       simp only [Act.put, sb_, sc0_, sc1_, i64_w, i32_w]
       rfl
      refine done_ (by kernel_rfl) ?_
      try go_wp2_with (first | ((with_reducible refine gate_callee (f := 18) rfl ?_); refine goesL_ (some 40) rfl rfl Try.func18 (by kernel_rfl) rfl #[.slice A1 l1.length c1] rfl az ?_; (with_reducible refine (laws_toIntS.calls k _ _ l1 t354 _ ?side1 HC1.out A20.out).mono ?_); (case side1 => exact cz HR1 HB); rintro e w49 ⟨v355, rfl, ho0, hb⟩; refine ⟨_, rfl, ?_⟩; have n0_ := Aside0.mk (Kd.R_below (ozR HO328) hb); have n1_ := Aside0.mk (Kd.R_elder' (ozR HO331) (Kd.R_base ho0) hb); have n2_ := Aside0.mk (Kd.R_elder' (ozR HO334) (Kd.R_base ho0) hb); have n3_ := Aside0.mk (Kd.R_below (ozR HO338) hb); have n4_ := Aside0.mk (Kd.R_elder' (ozR HO341) (Kd.R_base ho0) hb); have n5_ := Aside0.mk (Kd.R_elder' (ozR HO345) (Kd.R_base ho0) hb); have n6_ := Aside0.mk (Kd.R_below (ozR HO349) hb); have n7_ := Aside0.mk (Kd.R_elder' (ozR HO352) (Kd.R_base ho0) hb); have n8_ := Aside0.mk (Kd.R_lower (Kd.R_new' (Kd.R_new' ho0 (Kd.R_lt (ozR HO334))) (Kd.R_lt (ozR HO345))) (below_size (bz2 HB GE324 GE342))); have n9_ := Aside0.mk (blk_below (g := gb324) (o := .cells #[.slice A0_0 l0_0.length c0_0, .slice A0_1 l0_1.length c0_1] 37 (0, 0)) (kz BK324) hb); have n10_ := Aside0.mk (blk_below (g := gb342) (o := .cells #[.slice Ao36 t336.length co36, .slice Ao39 t339.length co39] 43 (0, 0)) (kz BK342) hb); have n11_ := Aside0.mk (below_step (bz2 HB GE324 GE342) hb); clear HO328; clear HO331; clear HO334; clear HO338; clear HO341; clear HO345; clear HO349; clear HO352; clear BK324; clear BK342; clear HB; have HO328 := n0_; have HO331 := n1_; have HO334 := n2_; have HO338 := n3_; have HO341 := n4_; have HO345 := n5_; have HO349 := n6_; have HO352 := n7_; have HO356 := n8_; have BK324 := n9_; have BK342 := n10_; have HB := n11_; clear n0_ n1_ n2_ n3_ n4_ n5_ n6_ n7_ n8_ n9_ n10_ n11_; clear hb; (try clear ho0); obtain ⟨Ao50, co50, eo50⟩ := Kd.R_slice HO356.out; subst eo50) | ((with_reducible refine gate_callee (f := 21) rfl ?_); refine goesL_ (some 41) rfl rfl Try.func21 (by kernel_rfl) rfl #[.slice Ao42 t343.length co42, .slice Ao50 t354.length co50] rfl az ?_; (with_reducible refine (laws_eqIntS.calls k _ _ t343 _ _ t354 true _ ?side1 ?side2 ?side3 ?side4 A21.out).mono ?_); (case side1 => exact cz1 (Kd.R_reads' HO345.out).2.2); (case side2 => exact (Kd.R_reads' HO345.out).2.1); (case side3 => exact cz1 (Kd.R_reads' HO356.out).2.2); (case side4 => exact (Kd.R_reads' HO356.out).2.1); rintro e w' ⟨rfl, ⟨nd, rfl⟩⟩; refine ⟨_, rfl, ?_⟩))
      go_ret
      exact ⟨rz, bz2 HB GE324 GE342⟩
     ·
      replace c22 := Bool.eq_false_iff.mpr c22
      subst c22
      rw [if_neg nt_] at H
      exact absurd ((Option.some.inj H).trans HR_.out) (by decide)
    ·
     replace c19 := Bool.eq_false_iff.mpr c19
     subst c19
     rw [if_neg nt_] at H
     exact absurd ((Option.some.inj H).trans HR_.out) (by decide)
end Go.Proofs.Ytndmhmekmkgccaa.PFnExactInRange
