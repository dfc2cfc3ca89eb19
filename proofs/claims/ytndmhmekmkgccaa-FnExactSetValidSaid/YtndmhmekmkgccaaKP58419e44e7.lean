/- Walks of Go functions: each is shown to answer as the Lean function beside it tells, under the conditions that its theorem names. -/
import Derived.Test.YtndmhmekmkgccaaKPd4c36a10b8
import Derived.Test.YtndmhmekmkgccaaKPf6064c7311
import Derived.Test.YtndmhmekmkgccaaKP190196a8cd
section
namespace Go.Proofs.Ytndmhmekmkgccaa.PFnExactSetValid
open Go.RowKit Go.Proofs.YtndmhmekmkgccaaW.PrintWords Go.Proofs.YtndmhmekmkgccaaW.PrintLast Go.Proofs.YtndmhmekmkgccaaW.PrintMore
attribute [local go_sem] max2_int min2_int max_two min_two max_three min_three max_four min_four   -- for this text's walks alone
set_option linter.unusedVariables false
set_option linter.unusedSimpArgs false
set_option maxHeartbeats 8000000 in
set_option maxRecDepth 100000 in
theorem impl_setOk.calls (k : Nat) (A0 : Option Addr) (c0 : Nat) (l0 : List Int) (a1 : Int) (r : Bool) (w : World) (hr0 : Kd.C (Kd.int .i64) w A0 l0.length l0) (hc0 : l0.length ≤ c0) (h : impl_setOk.f k l0 a1 = some r) :
  Calls Try.prog 72 #[.slice A0 l0.length c0, .int .i64 a1] w fun e w' => e = .returned (.bool r) ∧ Drawn0 w w' := by
 have HR0 := Aside0.mk hr0
 have HC0 := Aside0.mk hc0
 clear hr0 hc0
 have H : (impl_setOk.l0 k l0 a1 l0 (l0.length : Int) 0) = some r := h
 clear h
 have H' := Aside0.mk H
 clear H
 go_enter Try.func72, Try.ntmps72
 go_wp2
 go_loopg [9] k (fun kq v9 w' => ∃ (x9_1 : Int), v9 = .int .i64 x9_1 ∧ Aside0 (impl_setOk.l0 kq l0 a1 l0 (l0.length : Int) x9_1 = some r) ∧ Aside0 (kq ≤ k) ∧ Drawn0 w w')
 case atStart => exact ⟨(0), rq, H', ⟨Nat.le_refl _⟩, by repeat (first | exact Drawn0.refl _ | apply Drawn0.step)⟩
 case round =>
  clear H'
  try clear p2
  obtain ⟨x9_1, rfl, HA, HK1, ⟨m1, rfl⟩⟩ := hrel
  cases gk with
  | zero => exact absurd HA.out (by simp [impl_setOk.l0])
  | succ k1 =>
   have H := HA.out
   clear HA
   simp only [impl_setOk.l0] at H
   by_cases c3 : x9_1 < (l0.length : Int)
   ·
    rw [if_pos c3] at H
    have c3b0 : decide (x9_1 < (l0.length : Int)) = true := decide_eq_true c3
    clear c3
    by_cases c4 : 0 ≤ x9_1
    ·
     rw [if_pos c4] at H
     have c4b0 : decide (0 ≤ x9_1) = true := decide_eq_true c4
     clear c4
     by_cases c5 : x9_1 < (l0.length : Int)
     ·
      rw [if_pos c5] at H
      have c5b0 : decide (x9_1 < (l0.length : Int)) = true := decide_eq_true c5
      clear c5
      have HC6 := Aside0.mk H
      clear H
      have p318 : 0 ≤ (x9_1 : Int) := dz
      have q318 : x9_1 < (l0.length : Int) := dz
      obtain ⟨ad318, e318, hx318_0⟩ := Kd.at_int HR0.out x9_1 p318 q318
      cases e318
      replace p318 := eq_true p318
      replace q318 := eq_true q318
      go_upto_region 4 with (fail)
      go_cut [31] (fun v31 wc => ∃ (kq : Nat) (x31_5 : Bool), v31 = .bool x31_5 ∧ Aside0 (impl_setOk.j1 kq l0 a1 l0 (l0.length : Int) x9_1 x31_5 = some r) ∧ Aside0 (kq ≤ k1) ∧ Drawn0 w wc)
      case first =>
       have H := HC6.out
       clear HC6
       replace H := Option.bind_eq_some_iff.mp H
       obtain ⟨t319, A70, H⟩ := H
       have A7 := Aside0.mk A70
       clear A70
       by_cases c8 : t319 = true
       ·
        subst c8
        rw [if_pos rfl] at H
        by_cases c9 : x9_1 > 0
        ·
         rw [if_pos c9] at H
         have c9b0 : decide (0 < x9_1) = true := decide_eq_true c9
         clear c9
         (first | rw [c9b0] | (simp only [i64_w, i32_w]; rw [c9b0]) | skip)
         obtain ⟨ji10, hji10⟩ : ∃ j_ : Int, (wrap64 (x9_1 - 1)) = j_ := ⟨_, rfl⟩
         replace H : (if 0 ≤ (ji10) then (if (ji10) < (l0.length : Int) then (impl_setOk.j1 k1 l0 a1 l0 (l0.length : Int) x9_1 (decide ((rd l0 (ji10)) ≥ (rd l0 x9_1)))) else (none)) else (none)) = some r := by first | (rw [hji10] at H; exact H) | (simp only [hji10] at H ⊢; exact H)
         (try rw [hji10] at A7)
         have hji10w : (IntKind.i64.wrap (x9_1 - 1)) = ji10 := (i64_w _).trans hji10
         by_cases c11 : 0 ≤ (ji10)
         ·
          rw [if_pos c11] at H
          have c11b0 : decide (0 ≤ (ji10)) = true := decide_eq_true c11
          clear c11
          by_cases c12 : (ji10) < (l0.length : Int)
          ·
           rw [if_pos c12] at H
           have c12b0 : decide ((ji10) < (l0.length : Int)) = true := decide_eq_true c12
           clear c12
           have H' := Aside0.mk H
           clear H
           go_wp2_with (first | ((with_reducible refine gate_callee (f := 96) rfl ?_); refine goesL_ (some 17) rfl rfl Try.func96 (by kernel_rfl) rfl #[.int .i64 (rd l0 x9_1), .int .i64 0, .int .i64 (wrap64 (a1 - 1))] rfl az ?_; (with_reducible refine (impl_in.calls (rd l0 x9_1) 0 (wrap64 (a1 - 1)) true _ A7.out).mono ?_); rintro e w' ⟨rfl, ⟨nd, rfl⟩⟩; refine ⟨_, rfl, ?_⟩; have p320 : 0 ≤ ((ji10) : Int) := dz; have q320 : (ji10) < (l0.length : Int) := dz; obtain ⟨ad320, e320, hx320_0⟩ := Kd.at_int HR0.out (ji10) p320 q320; obtain rfl : ad318 = ad320 := (by injection e320); replace p320 := eq_true p320; replace q320 := eq_true q320))
           go_meet
           case rel => exact ⟨_, (decide ((rd l0 (ji10)) ≥ (rd l0 x9_1))), (by first | rfl | (simp; done) | (simp only [← hji10] <;> (first | rfl | simp)) | (simp [*]; done)), H', ⟨by have := HK1.out; first | omega | exact Nat.le_refl _⟩, by repeat (first | exact Drawn0.refl _ | apply Drawn0.step)⟩
          ·
           rw [if_neg c12] at H
           exact absurd H (by simp)
         ·
          rw [if_neg c11] at H
          exact absurd H (by simp)
        ·
         rw [if_neg c9] at H
         have c9b0 : decide (0 < x9_1) = false := decide_eq_false c9
         clear c9
         (first | rw [c9b0] | (simp only [i64_w, i32_w]; rw [c9b0]) | skip)
         have H' := Aside0.mk H
         clear H
         go_wp2_with (first | ((with_reducible refine gate_callee (f := 96) rfl ?_); refine goesL_ (some 17) rfl rfl Try.func96 (by kernel_rfl) rfl #[.int .i64 (rd l0 x9_1), .int .i64 0, .int .i64 (wrap64 (a1 - 1))] rfl az ?_; (with_reducible refine (impl_in.calls (rd l0 x9_1) 0 (wrap64 (a1 - 1)) true _ A7.out).mono ?_); rintro e w' ⟨rfl, ⟨nd, rfl⟩⟩; refine ⟨_, rfl, ?_⟩))
         go_meet
         case rel => exact ⟨_, (false), rq, H', ⟨by have := HK1.out; first | omega | exact Nat.le_refl _⟩, by repeat (first | exact Drawn0.refl _ | apply Drawn0.step)⟩
       ·
        replace c8 := Bool.eq_false_iff.mpr c8
        subst c8
        rw [if_neg nt_] at H
        have H' := Aside0.mk H
        clear H
        go_wp2_with (first | ((with_reducible refine gate_callee (f := 96) rfl ?_); refine goesL_ (some 17) rfl rfl Try.func96 (by kernel_rfl) rfl #[.int .i64 (rd l0 x9_1), .int .i64 0, .int .i64 (wrap64 (a1 - 1))] rfl az ?_; (with_reducible refine (impl_in.calls (rd l0 x9_1) 0 (wrap64 (a1 - 1)) false _ A7.out).mono ?_); rintro e w' ⟨rfl, ⟨nd, rfl⟩⟩; refine ⟨_, rfl, ?_⟩))
        go_meet
        case rel => exact ⟨_, (true), rq, H', ⟨by have := HK1.out; first | omega | exact Nat.le_refl _⟩, by repeat (first | exact Drawn0.refl _ | apply Drawn0.step)⟩
      case rest =>
       clear HC6
       try clear c1
       try clear p2
       try clear c3
       try clear c3b0
       try clear p3
       try clear q3
       try clear hx3
       try clear c4
       try clear c4b0
       try clear c5
       try clear c5b0
       try clear p6
       try clear c7
       try clear c8
       try clear c9
       try clear c9b0
       try clear c11
       try clear c11b0
       try clear c12
       try clear c12b0
       try clear hx318_0
       try clear hx320_0
       try clear p2
       try clear p318
       try clear p320
       try clear q318
       try clear q320
       obtain ⟨kq, x31_5, rfl, HA, HJ5, ⟨mc5, rfl⟩⟩ := hcut
       cases kq with
       | zero => exact absurd HA.out (by simp [impl_setOk.j1])
       | succ kj5 =>
        have H := HA.out
        clear HA
        simp only [impl_setOk.j1] at H
        by_cases c13 : x31_5 = true
        ·
         subst c13
         rw [if_pos rfl] at H
         obtain rfl := Option.some.inj H
         go_wp2
         go_ret
         exact ⟨by first | rfl | (simp; done) | (simp [*]; done), by repeat (first | exact Drawn0.refl _ | apply Drawn0.step)⟩
        ·
         replace c13 := Bool.eq_false_iff.mpr c13
         subst c13
         rw [if_neg nt_] at H
         have H' := Aside0.mk H
         clear H
         go_wp2
         go_roundg kj5
         case measure => have := HK1.out; have := HJ5.out; omega
         case rel => exact ⟨(wrap64 (x9_1 + 1)), rq, H', ⟨by have := HK1.out; have := HJ5.out; omega⟩, by repeat (first | exact Drawn0.refl _ | apply Drawn0.step)⟩
     ·
      rw [if_neg c5] at H
      exact absurd H (by simp)
    ·
     rw [if_neg c4] at H
     exact absurd H (by simp)
   ·
    rw [if_neg c3] at H
    have c3b0 : decide (x9_1 < (l0.length : Int)) = false := decide_eq_false c3
    clear c3
    obtain rfl := Option.some.inj H
    go_wp2
    go_ret
    exact ⟨by first | rfl | (simp; done) | (simp [*]; done), by repeat (first | exact Drawn0.refl _ | apply Drawn0.step)⟩
end Go.Proofs.Ytndmhmekmkgccaa.PFnExactSetValid
end
section
namespace Go.Proofs.Ytndmhmekmkgccaa.PFnExactSetValid
open Go.RowKit Go.Proofs.YtndmhmekmkgccaaW.PrintWords Go.Proofs.YtndmhmekmkgccaaW.PrintLast Go.Proofs.YtndmhmekmkgccaaW.PrintMore
attribute [local go_sem] max2_int min2_int max_two min_two max_three min_three max_four min_four   -- for this text's walks alone
set_option linter.unusedVariables false
set_option linter.unusedSimpArgs false
set_option maxHeartbeats 8000000 in
set_option maxRecDepth 100000 in
theorem impl_SetValid.calls (k : Nat) (A0_0 : Option Addr) (c0_0 : Nat) (l0_0 : List (IVar)) (A0_1 : Option Addr) (c0_1 : Nat) (l0_1 : List (IRule)) (A1 : Option Addr) (c1 : Nat) (l1 : List Int) (r : Bool) (w : World) (hr0_0 : Kd.C k141 w A0_0 l0_0.length l0_0) (hc0_0 : l0_0.length ≤ c0_0) (hr0_1 : Kd.C k145 w A0_1 l0_1.length l0_1) (hc0_1 : l0_1.length ≤ c0_1) (hr1 : Kd.C (Kd.int .i64) w A1 l1.length l1) (hc1 : l1.length ≤ c1) (h : impl_SetValid.f k l0_0 l0_1 l1 = some r) :
  Calls Try.prog 35 #[.agg #[.slice A0_0 l0_0.length c0_0, .slice A0_1 l0_1.length c0_1], .slice A1 l1.length c1] w fun e w' => e = .returned (.bool r) ∧ Below w.heap.size w w' := by
 have hu43 := Try.underlying43
 have HR0_0 := Aside0.mk hr0_0
 have HC0_0 := Aside0.mk hc0_0
 clear hr0_0 hc0_0
 have HR0_1 := Aside0.mk hr0_1
 have HC0_1 := Aside0.mk hc0_1
 clear hr0_1 hc0_1
 have HR1 := Aside0.mk hr1
 have HC1 := Aside0.mk hc1
 clear hr1 hc1
 have HB := Aside0.mk (Below.refl w.heap.size w)
 have H : ((impl_SystemValid.f k l0_0 l0_1).bind fun t322 => (if t322 = true then ((impl_size.f k l0_0).bind fun t323 => ((impl_setOk.f k l1 t323).bind fun t324 => (some t324))) else (some false))) = some r := h
 clear h
 replace H := Option.bind_eq_some_iff.mp H
 obtain ⟨t322, A30, H⟩ := H
 have A3 := Aside0.mk A30
 clear A30
 by_cases c4 : t322 = true
 ·
  subst c4
  rw [if_pos rfl] at H
  replace H := Option.bind_eq_some_iff.mp H
  obtain ⟨t323, A50, H⟩ := H
  have A5 := Aside0.mk A50
  clear A50
  replace H := Option.bind_eq_some_iff.mp H
  obtain ⟨t324, A60, H⟩ := H
  have A6 := Aside0.mk A60
  clear A60
  obtain rfl := Option.some.inj H
  go_enter Try.func35, Try.ntmps35
  go_wp2_with (first | ((with_reducible refine gate_dst (N := 2) rfl ?_); refine box_event ?hg (N := 2) ?hd (cs := #[.slice A0_0 l0_0.length c0_0, .slice A0_1 l0_1.length c0_1]) (t := 43) ?hr ?_; (case hd => rfl); (case hg => rfl); (case hr => first | (go_simp; done) | (go_simp; rfl)); intro gb321 hg w7 hbox hb; have n0_ := Aside0.mk (below_step (bz HB) hb); have n1_ := Aside0.mk (hbox); have n2_ := Aside0.mk ((by rw [hg]; exact (below_size (bz HB)) : w.heap.size ≤ gb321)); have n3_ := Aside0.mk ((by rw [hg]; exact (below_size (bz HB)) : w.heap.size ≤ gb321)); clear HB; have HB := n0_; have BK321 := n1_; have GW321 := n2_; have GE321 := n3_; clear n0_ n1_ n2_ n3_; clear hb hbox hg; have hcz8_0 : w7.cell? ⟨gb321, 0, none⟩ = some (.slice A0_0 l0_0.length c0_0) := (blk_cell BK321.out 0).trans rfl; have hcz8_1 : w7.cell? ⟨gb321, 1, none⟩ = some (.slice A0_1 l0_1.length c0_1) := (blk_cell BK321.out 1).trans rfl; have hfz8_0 := blk_frozen BK321.out 0; have hfz8_1 := blk_frozen BK321.out 1) | ((with_reducible refine gate_callee (f := 63) rfl ?_); refine goesL_ (some 6) rfl rfl Try.func63 (by kernel_rfl) rfl #[.agg #[.slice A0_0 l0_0.length c0_0, .slice A0_1 l0_1.length c0_1]] rfl az ?_; (with_reducible refine (impl_SystemValid.calls k _ _ l0_0 _ _ l0_1 true _ ?side1 ?side2 ?side3 HC0_1.out A3.out).mono ?_); (case side1 => exact cz HR0_0 HB); (case side2 => exact HC0_0.out); (case side3 => exact cz HR0_1 HB); rintro e w9 ⟨rfl, hb⟩; refine ⟨_, rfl, ?_⟩; replace BK321 := Aside0.mk (blk_below (g := gb321) (o := .cells #[.slice A0_0 l0_0.length c0_0, .slice A0_1 l0_1.length c0_1] 43 (0, 0)) (kz BK321) hb); replace HB := Aside0.mk (below_step (bz1 HB GE321) hb); clear hb; have hcz10_0 : w9.cell? ⟨gb321, 0, none⟩ = some (.slice A0_0 l0_0.length c0_0) := (blk_cell BK321.out 0).trans rfl; have hcz10_1 : w9.cell? ⟨gb321, 1, none⟩ = some (.slice A0_1 l0_1.length c0_1) := (blk_cell BK321.out 1).trans rfl; have hfz10_0 := blk_frozen BK321.out 0; have hfz10_1 := blk_frozen BK321.out 1) | (go_at_call 93; (with_reducible refine (impl_size.calls k _ _ l0_0 t323 _ ?side1 ?side2 A5.out).mono ?_); (case side1 => exact cz HR0_0 HB); (case side2 => exact HC0_0.out); rintro e w11 ⟨rfl, hb⟩; replace BK321 := Aside0.mk (blk_below (g := gb321) (o := .cells #[.slice A0_0 l0_0.length c0_0, .slice A0_1 l0_1.length c0_1] 43 (0, 0)) (kz BK321) hb); replace HB := Aside0.mk (below_step (bz1 HB GE321) hb); clear hb) | (go_at_call 72; (with_reducible refine (impl_setOk.calls k _ _ l1 t323 t324 _ ?side1 ?side2 A6.out).mono ?_); (case side1 => exact cz HR1 HB); (case side2 => exact HC1.out); rintro e w' ⟨rfl, ⟨nd, rfl⟩⟩))
  go_ret
  exact ⟨rz, bz1 HB GE321⟩
 ·
  replace c4 := Bool.eq_false_iff.mpr c4
  subst c4
  rw [if_neg nt_] at H
  obtain rfl := Option.some.inj H
  go_enter Try.func35, Try.ntmps35
  go_wp2_with (first | ((with_reducible refine gate_dst (N := 2) rfl ?_); refine box_event ?hg (N := 2) ?hd (cs := #[.slice A0_0 l0_0.length c0_0, .slice A0_1 l0_1.length c0_1]) (t := 43) ?hr ?_; (case hd => rfl); (case hg => rfl); (case hr => first | (go_simp; done) | (go_simp; rfl)); intro gb321 hg w12 hbox hb; have n0_ := Aside0.mk (below_step (bz HB) hb); have n1_ := Aside0.mk (hbox); have n2_ := Aside0.mk ((by rw [hg]; exact (below_size (bz HB)) : w.heap.size ≤ gb321)); have n3_ := Aside0.mk ((by rw [hg]; exact (below_size (bz HB)) : w.heap.size ≤ gb321)); clear HB; have HB := n0_; have BK321 := n1_; have GW321 := n2_; have GE321 := n3_; clear n0_ n1_ n2_ n3_; clear hb hbox hg; have hcz13_0 : w12.cell? ⟨gb321, 0, none⟩ = some (.slice A0_0 l0_0.length c0_0) := (blk_cell BK321.out 0).trans rfl; have hcz13_1 : w12.cell? ⟨gb321, 1, none⟩ = some (.slice A0_1 l0_1.length c0_1) := (blk_cell BK321.out 1).trans rfl; have hfz13_0 := blk_frozen BK321.out 0; have hfz13_1 := blk_frozen BK321.out 1) | ((with_reducible refine gate_callee (f := 63) rfl ?_); refine goesL_ (some 6) rfl rfl Try.func63 (by kernel_rfl) rfl #[.agg #[.slice A0_0 l0_0.length c0_0, .slice A0_1 l0_1.length c0_1]] rfl az ?_; (with_reducible refine (impl_SystemValid.calls k _ _ l0_0 _ _ l0_1 false _ ?side1 HC0_0.out ?side3 HC0_1.out A3.out).mono ?_); (case side1 => exact cz HR0_0 HB); (case side3 => exact cz HR0_1 HB); rintro e w14 ⟨rfl, hb⟩; refine ⟨_, rfl, ?_⟩; replace BK321 := Aside0.mk (blk_below (g := gb321) (o := .cells #[.slice A0_0 l0_0.length c0_0, .slice A0_1 l0_1.length c0_1] 43 (0, 0)) (kz BK321) hb); replace HB := Aside0.mk (below_step (bz1 HB GE321) hb); clear hb))
  go_ret
  exact ⟨rz, bz1 HB GE321⟩
end Go.Proofs.Ytndmhmekmkgccaa.PFnExactSetValid
end
section
namespace Go.Proofs.Ytndmhmekmkgccaa.PFnExactSetValid
open Go.RowKit Go.Proofs.YtndmhmekmkgccaaW.PrintWords Go.Proofs.YtndmhmekmkgccaaW.PrintLast Go.Proofs.YtndmhmekmkgccaaW.PrintMore
attribute [local go_sem] max2_int min2_int max_two min_two max_three min_three max_four min_four   -- for this text's walks alone
set_option linter.unusedVariables false
set_option linter.unusedSimpArgs false
set_option maxHeartbeats 8000000 in
set_option maxRecDepth 100000 in
theorem laws_FnExactSetValid.calls (k : Nat) (A0_0 : Option Addr) (c0_0 : Nat) (l0_0 : List (LVar)) (A0_1 : Option Addr) (c0_1 : Nat) (l0_1 : List (LRule)) (A1 : Option Addr) (c1 : Nat) (l1 : List Int) (r : Bool) (w : World) (hr0_0 : Kd.C k147 w A0_0 l0_0.length l0_0) (hc0_0 : l0_0.length ≤ c0_0) (hr0_1 : Kd.C k138 w A0_1 l0_1.length l0_1) (hc0_1 : l0_1.length ≤ c0_1) (hr1 : Kd.C (Kd.int .i64) w A1 l1.length l1) (hc1 : l1.length ≤ c1) (h : laws_FnExactSetValid.f k l0_0 l0_1 l1 = some r) (hr_ : r = true) :
  Calls Try.prog 7 #[.agg #[.slice A0_0 l0_0.length c0_0, .slice A0_1 l0_1.length c0_1], .slice A1 l1.length c1] w fun e w' => e = .returned (.bool r) ∧ Below w.heap.size w w' := by
 have HR_ := Aside0.mk hr_
 clear hr_
 have hu37 := Try.underlying37
 have hu43 := Try.underlying43
 have HR0_0 := Aside0.mk hr0_0
 have HC0_0 := Aside0.mk hc0_0
 clear hr0_0 hc0_0
 have HR0_1 := Aside0.mk hr0_1
 have HC0_1 := Aside0.mk hc0_1
 clear hr0_1 hc0_1
 have HR1 := Aside0.mk hr1
 have HC1 := Aside0.mk hc1
 clear hr1 hc1
 have HB := Aside0.mk (Below.refl w.heap.size w)
 have H : (if (l1.length : Int) > 1048576 then (some true) else ((laws_szSystem.f k l0_0 l0_1 1048576).bind fun t326 => (if t326 < 0 then (some true) else ((laws_toSystem.f k l0_0 l0_1).bind fun bt327 => ((laws_toIntS.f k l1).bind fun t333 => ((spec_SetValid.f k bt327.1 bt327.2 t333).bind fun t336 => ((laws_toSystem.f k l0_0 l0_1).bind fun bt337 => ((laws_toIntS.f k l1).bind fun t344 => ((impl_SetValid.f k bt337.1 bt337.2 t344).bind fun t347 => (if (t347 != t336) = true then (some false) else ((laws_toSystem.f k l0_0 l0_1).bind fun bt348 => ((laws_eqSystem.f k bt337.1 bt337.2 bt348.1 bt348.2).bind fun t354 => (if t354 = true then ((laws_toIntS.f k l1).bind fun t355 => ((laws_eqIntS.f k t344 t355).bind fun t358 => (if t358 = true then (some true) else (some false)))) else (some false)))))))))))))) = some r := h
 clear h
 by_cases c3 : (l1.length : Int) > 1048576
 ·
  rw [if_pos c3] at H
  have c3b0 : decide (1048576 < (l1.length : Int)) = true := decide_eq_true c3
  have c3b1 : decide (1048576 < l1.length) = true := decide_eq_true (by omega)
  clear c3
  obtain rfl := Option.some.inj H
  go_enter Try.func7, Try.ntmps7
  go_wp2_with (first | ((with_reducible refine gate_dst (N := 2) rfl ?_); refine box_event ?hg (N := 2) ?hd (cs := #[.slice A0_0 l0_0.length c0_0, .slice A0_1 l0_1.length c0_1]) (t := 37) ?hr ?_; (case hd => rfl); (case hg => rfl); (case hr => first | (go_simp; done) | (go_simp; rfl)); intro gb325 hg w4 hbox hb; have n0_ := Aside0.mk (below_step (bz HB) hb); have n1_ := Aside0.mk (hbox); have n2_ := Aside0.mk ((by rw [hg]; exact (below_size (bz HB)) : w.heap.size ≤ gb325)); have n3_ := Aside0.mk ((by rw [hg]; exact (below_size (bz HB)) : w.heap.size ≤ gb325)); clear HB; have HB := n0_; have BK325 := n1_; have GW325 := n2_; have GE325 := n3_; clear n0_ n1_ n2_ n3_; clear hb hbox hg))
  go_ret
  exact ⟨rz, bz1 HB GE325⟩
 ·
  rw [if_neg c3] at H
  have c3b0 : decide (1048576 < (l1.length : Int)) = false := decide_eq_false c3
  have c3b1 : decide (1048576 < l1.length) = false := decide_eq_false (by omega)
  clear c3
  replace H := Option.bind_eq_some_iff.mp H
  obtain ⟨t326, A50, H⟩ := H
  have A5 := Aside0.mk A50
  clear A50
  by_cases c6 : t326 < 0
  ·
   rw [if_pos c6] at H
   have c6b0 : decide (t326 < 0) = true := decide_eq_true c6
   clear c6
   obtain rfl := Option.some.inj H
   go_enter Try.func7, Try.ntmps7
   go_wp2_with (first | ((with_reducible refine gate_dst (N := 2) rfl ?_); refine box_event ?hg (N := 2) ?hd (cs := #[.slice A0_0 l0_0.length c0_0, .slice A0_1 l0_1.length c0_1]) (t := 37) ?hr ?_; (case hd => rfl); (case hg => rfl); (case hr => first | (go_simp; done) | (go_simp; rfl)); intro gb325 hg w7 hbox hb; have n0_ := Aside0.mk (below_step (bz HB) hb); have n1_ := Aside0.mk (hbox); have n2_ := Aside0.mk ((by rw [hg]; exact (below_size (bz HB)) : w.heap.size ≤ gb325)); have n3_ := Aside0.mk ((by rw [hg]; exact (below_size (bz HB)) : w.heap.size ≤ gb325)); clear HB; have HB := n0_; have BK325 := n1_; have GW325 := n2_; have GE325 := n3_; clear n0_ n1_ n2_ n3_; clear hb hbox hg; have hcz8_0 : w7.cell? ⟨gb325, 0, none⟩ = some (.slice A0_0 l0_0.length c0_0) := (blk_cell BK325.out 0).trans rfl; have hcz8_1 : w7.cell? ⟨gb325, 1, none⟩ = some (.slice A0_1 l0_1.length c0_1) := (blk_cell BK325.out 1).trans rfl; have hfz8_0 := blk_frozen BK325.out 0; have hfz8_1 := blk_frozen BK325.out 1) | ((with_reducible refine gate_callee (f := 15) rfl ?_); refine goesL_ (some 15) rfl rfl Try.func15 (by kernel_rfl) rfl #[.agg #[.slice A0_0 l0_0.length c0_0, .slice A0_1 l0_1.length c0_1], .int .i64 1048576] rfl az ?_; (with_reducible refine (laws_szSystem.calls k _ _ l0_0 _ _ l0_1 1048576 t326 _ ?side1 HC0_0.out ?side3 HC0_1.out A5.out).mono ?_); (case side1 => exact cz HR0_0 HB); (case side3 => exact cz HR0_1 HB); rintro e w9 ⟨rfl, hb⟩; refine ⟨_, rfl, ?_⟩; replace BK325 := Aside0.mk (blk_below (g := gb325) (o := .cells #[.slice A0_0 l0_0.length c0_0, .slice A0_1 l0_1.length c0_1] 37 (0, 0)) (kz BK325) hb); replace HB := Aside0.mk (below_step (bz1 HB GE325) hb); clear hb))
   go_ret
   exact ⟨rz, bz1 HB GE325⟩
  ·
   rw [if_neg c6] at H
   have c6b0 : decide (t326 < 0) = false := decide_eq_false c6
   clear c6
   replace H := Option.bind_eq_some_iff.mp H
   obtain ⟨⟨t327, t330⟩, A100, H⟩ := H
   dsimp only at H
   have A10 := Aside0.mk A100
   clear A100
   replace H := Option.bind_eq_some_iff.mp H
   obtain ⟨t333, A110, H⟩ := H
   have A11 := Aside0.mk A110
   clear A110
   replace H := Option.bind_eq_some_iff.mp H
   obtain ⟨t336, A120, H⟩ := H
   have A12 := Aside0.mk A120
   clear A120
   replace H := Option.bind_eq_some_iff.mp H
   obtain ⟨⟨t337, t340⟩, A130, H⟩ := H
   dsimp only at H
   have A13 := Aside0.mk A130
   clear A130
   replace H := Option.bind_eq_some_iff.mp H
   obtain ⟨t344, A140, H⟩ := H
   have A14 := Aside0.mk A140
   clear A140
   replace H := Option.bind_eq_some_iff.mp H
   obtain ⟨t347, A150, H⟩ := H
   have A15 := Aside0.mk A150
   clear A150
   by_cases c16 : (t347 != t336) = true
   ·
    rw [if_pos c16] at H
    have c16b0 : (t347 != t336) = true := c16
    (try (have c16b1 : decide (t347 = t336) = false := by simpa using c16))
    (try (have c16b2 : (t347 == t336) = false := by simpa using c16))
    (try (have c16b3 : ¬ (t347 = t336) := by simpa using c16))
    clear c16
    exact absurd ((Option.some.inj H).trans HR_.out) (by decide)
   ·
    rw [if_neg c16] at H
    have c16b0 : (t347 != t336) = false := by simpa using c16
    (try (have c16b1 : decide (t347 = t336) = true := by simpa using c16))
    (try (have c16b2 : (t347 == t336) = true := by simpa using c16))
    clear c16
    replace H := Option.bind_eq_some_iff.mp H
    obtain ⟨⟨t348, t351⟩, A170, H⟩ := H
    dsimp only at H
    have A17 := Aside0.mk A170
    clear A170
    replace H := Option.bind_eq_some_iff.mp H
    obtain ⟨t354, A180, H⟩ := H
    have A18 := Aside0.mk A180
    clear A180
    by_cases c19 : t354 = true
    ·
     subst c19
     rw [if_pos rfl] at H
     replace H := Option.bind_eq_some_iff.mp H
     obtain ⟨t355, A200, H⟩ := H
     have A20 := Aside0.mk A200
     clear A200
     replace H := Option.bind_eq_some_iff.mp H
     obtain ⟨t358, A210, H⟩ := H
     have A21 := Aside0.mk A210
     clear A210
     by_cases c22 : t358 = true
     ·
      subst c22
      rw [if_pos rfl] at H
      obtain rfl := Option.some.inj H
      go_enter Try.func7, Try.ntmps7
      try go_wp2_with (first | ((with_reducible refine gate_dst (N := 2) rfl ?_); refine box_event ?hg (N := 2) ?hd (cs := #[.slice A0_0 l0_0.length c0_0, .slice A0_1 l0_1.length c0_1]) (t := 37) ?hr ?_; (case hd => rfl); (case hg => rfl); (case hr => first | (go_simp; done) | (go_simp; rfl)); intro gb325 hg w23 hbox hb; have n0_ := Aside0.mk (below_step (bz HB) hb); have n1_ := Aside0.mk (hbox); have n2_ := Aside0.mk ((by rw [hg]; exact (below_size (bz HB)) : w.heap.size ≤ gb325)); have n3_ := Aside0.mk ((by rw [hg]; exact (below_size (bz HB)) : w.heap.size ≤ gb325)); clear HB; have HB := n0_; have BK325 := n1_; have GW325 := n2_; have GE325 := n3_; clear n0_ n1_ n2_ n3_; clear hb hbox hg; have hcz24_0 : w23.cell? ⟨gb325, 0, none⟩ = some (.slice A0_0 l0_0.length c0_0) := (blk_cell BK325.out 0).trans rfl; have hcz24_1 : w23.cell? ⟨gb325, 1, none⟩ = some (.slice A0_1 l0_1.length c0_1) := (blk_cell BK325.out 1).trans rfl; have hfz24_0 := blk_frozen BK325.out 0; have hfz24_1 := blk_frozen BK325.out 1) | ((with_reducible refine gate_callee (f := 15) rfl ?_); refine goesL_ (some 15) rfl rfl Try.func15 (by kernel_rfl) rfl #[.agg #[.slice A0_0 l0_0.length c0_0, .slice A0_1 l0_1.length c0_1], .int .i64 1048576] rfl az ?_; (with_reducible refine (laws_szSystem.calls k _ _ l0_0 _ _ l0_1 1048576 t326 _ ?side1 HC0_0.out ?side3 HC0_1.out A5.out).mono ?_); (case side1 => exact cz HR0_0 HB); (case side3 => exact cz HR0_1 HB); rintro e w25 ⟨rfl, hb⟩; refine ⟨_, rfl, ?_⟩; replace BK325 := Aside0.mk (blk_below (g := gb325) (o := .cells #[.slice A0_0 l0_0.length c0_0, .slice A0_1 l0_1.length c0_1] 37 (0, 0)) (kz BK325) hb); replace HB := Aside0.mk (below_step (bz1 HB GE325) hb); clear hb; have hcz26_0 : w25.cell? ⟨gb325, 0, none⟩ = some (.slice A0_0 l0_0.length c0_0) := (blk_cell BK325.out 0).trans rfl; have hcz26_1 : w25.cell? ⟨gb325, 1, none⟩ = some (.slice A0_1 l0_1.length c0_1) := (blk_cell BK325.out 1).trans rfl; have hfz26_0 := blk_frozen BK325.out 0; have hfz26_1 := blk_frozen BK325.out 1) | ((with_reducible refine gate_callee (f := 17) rfl ?_); refine goesL_ (some 19) rfl rfl Try.func17 (by kernel_rfl) rfl #[.agg #[.slice A0_0 l0_0.length c0_0, .slice A0_1 l0_1.length c0_1]] rfl az ?_; (with_reducible refine (laws_toSystem.calls k _ _ l0_0 _ _ l0_1 t327 t330 _ ?side1 HC0_0.out ?side3 HC0_1.out A10.out).mono ?_); (case side1 => exact cz HR0_0 HB); (case side3 => exact cz HR0_1 HB); rintro e w27 ⟨v328, v331, rfl, ho0, ho1, hb⟩; refine ⟨_, rfl, ?_⟩; have HO329 := Aside0.mk (Kd.R_lower ho0 (below_size (bz1 HB GE325))); have HO332 := Aside0.mk (Kd.R_lower ho1 (below_size (bz1 HB GE325))); replace BK325 := Aside0.mk (blk_below (g := gb325) (o := .cells #[.slice A0_0 l0_0.length c0_0, .slice A0_1 l0_1.length c0_1] 37 (0, 0)) (kz BK325) hb); replace HB := Aside0.mk (below_step (bz1 HB GE325) hb); clear hb; (try clear ho0); (try clear ho1)) | ((with_reducible refine gate_callee (f := 18) rfl ?_); refine goesL_ (some 21) rfl rfl Try.func18 (by kernel_rfl) rfl #[.slice A1 l1.length c1] rfl az ?_; (with_reducible refine (laws_toIntS.calls k _ _ l1 t333 _ ?side1 HC1.out A11.out).mono ?_); (case side1 => exact cz HR1 HB); rintro e w28 ⟨v334, rfl, ho0, hb⟩; refine ⟨_, rfl, ?_⟩; replace HO329 := Aside0.mk (Kd.R_below (ozR HO329) hb); replace HO332 := Aside0.mk (Kd.R_elder' (ozR HO332) (Kd.R_base ho0) hb); have HO335 := Aside0.mk (Kd.R_lower ho0 (below_size (bz1 HB GE325))); replace BK325 := Aside0.mk (blk_below (g := gb325) (o := .cells #[.slice A0_0 l0_0.length c0_0, .slice A0_1 l0_1.length c0_1] 37 (0, 0)) (kz BK325) hb); replace HB := Aside0.mk (below_step (bz1 HB GE325) hb); clear hb; (try clear ho0); obtain ⟨Ao29, co29, eo29⟩ := Kd.R_slice HO329.out; subst eo29; obtain ⟨Ao30, co30, eo30⟩ := Kd.R_slice HO332.out; subst eo30; obtain ⟨Ao31, co31, eo31⟩ := Kd.R_slice HO335.out; subst eo31) | ((with_reducible refine gate_callee (f := 34) rfl ?_); refine goesL_ (some 22) rfl rfl Try.func34 (by kernel_rfl) rfl #[.agg #[.slice Ao29 t327.length co29, .slice Ao30 t330.length co30], .slice Ao31 t333.length co31] rfl az ?_; (with_reducible refine (spec_SetValid.calls k _ _ t327 _ _ t330 _ _ t333 t336 _ ?side1 ?side2 ?side3 ?side4 ?side5 ?side6 A12.out).mono ?_); (case side1 => exact cz1 (Kd.R_reads' HO329.out).2.2); (case side2 => exact (Kd.R_reads' HO329.out).2.1); (case side3 => exact cz1 (Kd.R_reads' HO332.out).2.2); (case side4 => exact (Kd.R_reads' HO332.out).2.1); (case side5 => exact cz1 (Kd.R_reads' HO335.out).2.2); (case side6 => exact (Kd.R_reads' HO335.out).2.1); rintro e w32 ⟨rfl, hb⟩; refine ⟨_, rfl, ?_⟩; replace HO329 := Aside0.mk (Kd.R_below (ozR HO329) hb); replace HO332 := Aside0.mk (Kd.R_below (ozR HO332) hb); replace HO335 := Aside0.mk (Kd.R_below (ozR HO335) hb); replace BK325 := Aside0.mk (blk_below (g := gb325) (o := .cells #[.slice A0_0 l0_0.length c0_0, .slice A0_1 l0_1.length c0_1] 37 (0, 0)) (kz BK325) hb); replace HB := Aside0.mk (below_step (bz1 HB GE325) hb); clear hb; have hcz33_0 : w32.cell? ⟨gb325, 0, none⟩ = some (.slice A0_0 l0_0.length c0_0) := (blk_cell BK325.out 0).trans rfl; have hcz33_1 : w32.cell? ⟨gb325, 1, none⟩ = some (.slice A0_1 l0_1.length c0_1) := (blk_cell BK325.out 1).trans rfl; have hfz33_0 := blk_frozen BK325.out 0; have hfz33_1 := blk_frozen BK325.out 1) | ((with_reducible refine gate_callee (f := 17) rfl ?_); refine goesL_ (some 24) rfl rfl Try.func17 (by kernel_rfl) rfl #[.agg #[.slice A0_0 l0_0.length c0_0, .slice A0_1 l0_1.length c0_1]] rfl az ?_; (with_reducible refine (laws_toSystem.calls k _ _ l0_0 _ _ l0_1 t337 t340 _ ?side1 HC0_0.out ?side3 HC0_1.out A13.out).mono ?_); (case side1 => exact cz HR0_0 HB); (case side3 => exact cz HR0_1 HB); rintro e w34 ⟨v338, v341, rfl, ho0, ho1, hb⟩; refine ⟨_, rfl, ?_⟩; have n0_ := Aside0.mk (Kd.R_elder' (ozR HO329) (Kd.R_base ho0) hb); have n1_ := Aside0.mk (Kd.R_elder' (ozR HO332) (Kd.R_base ho1) hb); have n2_ := Aside0.mk (Kd.R_below (ozR HO335) hb); have n3_ := Aside0.mk (Kd.R_lower (Kd.R_new' ho0 (Kd.R_lt (ozR HO329))) (below_size (bz1 HB GE325))); have n4_ := Aside0.mk (Kd.R_lower (Kd.R_new' (Kd.R_new' ho1 (Kd.R_lt (ozR HO332))) (Kd.R_lt (ozR HO335))) (below_size (bz1 HB GE325))); have n5_ := Aside0.mk (blk_below (g := gb325) (o := .cells #[.slice A0_0 l0_0.length c0_0, .slice A0_1 l0_1.length c0_1] 37 (0, 0)) (kz BK325) hb); have n6_ := Aside0.mk (below_step (bz1 HB GE325) hb); clear HO329; clear HO332; clear HO335; clear BK325; clear HB; have HO329 := n0_; have HO332 := n1_; have HO335 := n2_; have HO339 := n3_; have HO342 := n4_; have BK325 := n5_; have HB := n6_; clear n0_ n1_ n2_ n3_ n4_ n5_ n6_; clear hb; (try clear ho0); (try clear ho1)) | ((with_reducible refine gate_dst (N := 7) rfl ?_); refine box_event ?hg (N := 7) ?hd (cs := #[.slice none 0 0, .slice none 0 0]) (t := 43) ?hr ?_; (case hd => rfl); (case hg => rfl); (case hr => first | (go_simp; done) | (go_simp; rfl)); intro gb343 hg w35 hbox hb; have n0_ := Aside0.mk (Kd.R_below (ozR HO329) hb); have n1_ := Aside0.mk (Kd.R_below (ozR HO332) hb); have n2_ := Aside0.mk (Kd.R_below (ozR HO335) hb); have n3_ := Aside0.mk (Kd.R_below (ozR HO339) hb); have n4_ := Aside0.mk (Kd.R_below (ozR HO342) hb); have n5_ := Aside0.mk (blk_below (g := gb325) (o := .cells #[.slice A0_0 l0_0.length c0_0, .slice A0_1 l0_1.length c0_1] 37 (0, 0)) (kz BK325) hb); have n6_ := Aside0.mk (below_step (bz1 HB GE325) hb); have n7_ := Aside0.mk (hbox); have n8_ := Aside0.mk ((by rw [hg]; exact (below_size (bz1 HB GE325)) : w.heap.size ≤ gb343)); have n9_ := Aside0.mk ((by rw [hg]; exact (below_size (bz1 HB GE325)) : w.heap.size ≤ gb343)); have n10_ := Aside0.mk ((by rw [hg]; exact Nat.ne_of_lt (blk_lt (g := gb325) (o := .cells #[.slice A0_0 l0_0.length c0_0, .slice A0_1 l0_1.length c0_1] 37 (0, 0)) (kz BK325)) : gb325 ≠ gb343)); have n11_ := Aside0.mk ((by rw [hg]; exact Nat.ne_of_gt (blk_lt (g := gb325) (o := .cells #[.slice A0_0 l0_0.length c0_0, .slice A0_1 l0_1.length c0_1] 37 (0, 0)) (kz BK325)) : gb343 ≠ gb325)); clear HO329; clear HO332; clear HO335; clear HO339; clear HO342; clear BK325; clear HB; have HO329 := n0_; have HO332 := n1_; have HO335 := n2_; have HO339 := n3_; have HO342 := n4_; have BK325 := n5_; have HB := n6_; have BK343 := n7_; have GW343 := n8_; have GE343 := n9_; have NB325_343 := n10_; have NB343_325 := n11_; clear n0_ n1_ n2_ n3_ n4_ n5_ n6_ n7_ n8_ n9_ n10_ n11_; clear hb hbox hg; obtain ⟨Ao36, co36, eo36⟩ := Kd.R_slice HO339.out; subst eo36; have hnb37 := NB343_325.out; have hnc37 := NB325_343.out; have hcz38_0 : w35.cell? ⟨gb343, 0, none⟩ = some (.slice none 0 0) := (blk_cell BK343.out 0).trans rfl; have hcz38_1 : w35.cell? ⟨gb343, 1, none⟩ = some (.slice none 0 0) := (blk_cell BK343.out 1).trans rfl; have hfz38_0 := blk_frozen BK343.out 0; have hfz38_1 := blk_frozen BK343.out 1; obtain ⟨Ao39, co39, eo39⟩ := Kd.R_slice HO342.out; subst eo39) | ((with_reducible refine gate_callee (f := 18) rfl ?_); refine goesL_ (some 26) rfl rfl Try.func18 (by kernel_rfl) rfl #[.slice A1 l1.length c1] rfl az ?_; (with_reducible refine (laws_toIntS.calls k _ _ l1 t344 _ ?side1 HC1.out A14.out).mono ?_); (case side1 => exact Kd.C_below HR1.out (bz2 HB GE325 GE343)); rintro e w40 ⟨v345, rfl, ho0, hb⟩; refine ⟨_, rfl, ?_⟩; have n0_ := Aside0.mk (Kd.R_below (by (with_reducible repeat (first | apply Kd.R_alloc | apply Kd.R_drewN | apply Kd.R_drew)); exact (Kd.R_mono (Kd.R_far (p := ⟨gb343, 1, none⟩) (Kd.R_far (p := ⟨gb343, 0, none⟩) (Kd.R_types HO329.out BK343.out (by decide)) (fun _ hk => hk.2) (.slice Ao36 t337.length co36)) (fun _ hk => hk.2) (.slice Ao39 t340.length co39)) (fun _ h_ => h_.1))) hb); have n1_ := Aside0.mk (Kd.R_elder' (by (with_reducible repeat (first | apply Kd.R_alloc | apply Kd.R_drewN | apply Kd.R_drew)); exact (Kd.R_mono (Kd.R_far (p := ⟨gb343, 1, none⟩) (Kd.R_far (p := ⟨gb343, 0, none⟩) (Kd.R_types HO332.out BK343.out (by decide)) (fun _ hk => hk.2) (.slice Ao36 t337.length co36)) (fun _ hk => hk.2) (.slice Ao39 t340.length co39)) (fun _ h_ => h_.1))) (Kd.R_base ho0) hb); have n2_ := Aside0.mk (Kd.R_elder' (by (with_reducible repeat (first | apply Kd.R_alloc | apply Kd.R_drewN | apply Kd.R_drew)); exact (Kd.R_mono (Kd.R_far (p := ⟨gb343, 1, none⟩) (Kd.R_far (p := ⟨gb343, 0, none⟩) (Kd.R_types HO335.out BK343.out (by decide)) (fun _ hk => hk.2) (.slice Ao36 t337.length co36)) (fun _ hk => hk.2) (.slice Ao39 t340.length co39)) (fun _ h_ => h_.1))) (Kd.R_base ho0) hb); have n3_ := Aside0.mk (Kd.R_below (by (with_reducible repeat (first | apply Kd.R_alloc | apply Kd.R_drewN | apply Kd.R_drew)); exact (Kd.R_mono (Kd.R_far (p := ⟨gb343, 1, none⟩) (Kd.R_far (p := ⟨gb343, 0, none⟩) (Kd.R_types HO339.out BK343.out (by decide)) (fun _ hk => hk.2) (.slice Ao36 t337.length co36)) (fun _ hk => hk.2) (.slice Ao39 t340.length co39)) (fun _ h_ => h_.1))) hb); have n4_ := Aside0.mk (Kd.R_elder' (by (with_reducible repeat (first | apply Kd.R_alloc | apply Kd.R_drewN | apply Kd.R_drew)); exact (Kd.R_mono (Kd.R_far (p := ⟨gb343, 1, none⟩) (Kd.R_far (p := ⟨gb343, 0, none⟩) (Kd.R_types HO342.out BK343.out (by decide)) (fun _ hk => hk.2) (.slice Ao36 t337.length co36)) (fun _ hk => hk.2) (.slice Ao39 t340.length co39)) (fun _ h_ => h_.1))) (Kd.R_base ho0) hb); have n5_ := Aside0.mk (Kd.R_lower (Kd.R_new' ho0 (Kd.R_lt (by (with_reducible repeat (first | apply Kd.R_alloc | apply Kd.R_drewN | apply Kd.R_drew)); exact (Kd.R_mono (Kd.R_far (p := ⟨gb343, 1, none⟩) (Kd.R_far (p := ⟨gb343, 0, none⟩) (Kd.R_types HO335.out BK343.out (by decide)) (fun _ hk => hk.2) (.slice Ao36 t337.length co36)) (fun _ hk => hk.2) (.slice Ao39 t340.length co39)) (fun _ h_ => h_.1))))) (below_size (bz2 HB GE325 GE343))); have n6_ := Aside0.mk (blk_below (g := gb325) (o := .cells #[.slice A0_0 l0_0.length c0_0, .slice A0_1 l0_1.length c0_1] 37 (0, 0)) (by (with_reducible repeat (first | refine blk_drewN ?_ _ | refine blk_drew ?_ | refine blk_alloc ?_ _)); refine blk_far ?_ NB325_343.out _; (with_reducible repeat (first | refine blk_drewN ?_ _ | refine blk_drew ?_ | refine blk_alloc ?_ _)); refine blk_far ?_ NB325_343.out _; exact kz BK325) hb); have n7_ := Aside0.mk (blk_below (g := gb343) (o := .cells #[.slice Ao36 t337.length co36, .slice Ao39 t340.length co39] 43 (0, 0)) (by (with_reducible repeat (first | refine blk_drewN ?_ _ | refine blk_drew ?_ | refine blk_alloc ?_ _)); refine blk_put (cs := #[.slice Ao36 t337.length co36, .slice none 0 0]) ?_ 1 _ rfl; (with_reducible repeat (first | refine blk_drewN ?_ _ | refine blk_drew ?_ | refine blk_alloc ?_ _)); refine blk_put (cs := #[.slice none 0 0, .slice none 0 0]) ?_ 0 _ rfl; exact kz BK343) hb); have n8_ := Aside0.mk (below_step (bz2 HB GE325 GE343) hb); clear HO329; clear HO332; clear HO335; clear HO339; clear HO342; clear BK325; clear BK343; clear HB; have HO329 := n0_; have HO332 := n1_; have HO335 := n2_; have HO339 := n3_; have HO342 := n4_; have HO346 := n5_; have BK325 := n6_; have BK343 := n7_; have HB := n8_; clear n0_ n1_ n2_ n3_ n4_ n5_ n6_ n7_ n8_; clear hb; (try clear hk); (try clear ho0); have hcz41_0 : w40.cell? ⟨gb343, 0, none⟩ = some (.slice Ao36 t337.length co36) := (blk_cell BK343.out 0).trans rfl; have hcz41_1 : w40.cell? ⟨gb343, 1, none⟩ = some (.slice Ao39 t340.length co39) := (blk_cell BK343.out 1).trans rfl; have hfz41_0 := blk_frozen BK343.out 0; have hfz41_1 := blk_frozen BK343.out 1; obtain ⟨Ao42, co42, eo42⟩ := Kd.R_slice HO346.out; subst eo42) | ((with_reducible refine gate_callee (f := 35) rfl ?_); refine goesL_ (some 29) rfl rfl Try.func35 (by kernel_rfl) rfl #[.agg #[.slice Ao36 t337.length co36, .slice Ao39 t340.length co39], .slice Ao42 t344.length co42] rfl az ?_; (with_reducible refine (impl_SetValid.calls k _ _ t337 _ _ t340 _ _ t344 t347 _ ?side1 ?side2 ?side3 ?side4 ?side5 ?side6 A15.out).mono ?_); (case side1 => exact cz1 (Kd.R_reads' HO339.out).2.2); (case side2 => exact (Kd.R_reads' HO339.out).2.1); (case side3 => exact cz1 (Kd.R_reads' HO342.out).2.2); (case side4 => exact (Kd.R_reads' HO342.out).2.1); (case side5 => exact cz1 (Kd.R_reads' HO346.out).2.2); (case side6 => exact (Kd.R_reads' HO346.out).2.1); rintro e w43 ⟨rfl, hb⟩; refine ⟨_, rfl, ?_⟩; replace HO329 := Aside0.mk (Kd.R_below (ozR HO329) hb); replace HO332 := Aside0.mk (Kd.R_below (ozR HO332) hb); replace HO335 := Aside0.mk (Kd.R_below (ozR HO335) hb); replace HO339 := Aside0.mk (Kd.R_below (ozR HO339) hb); replace HO342 := Aside0.mk (Kd.R_below (ozR HO342) hb); replace HO346 := Aside0.mk (Kd.R_below (ozR HO346) hb); replace BK325 := Aside0.mk (blk_below (g := gb325) (o := .cells #[.slice A0_0 l0_0.length c0_0, .slice A0_1 l0_1.length c0_1] 37 (0, 0)) (kz BK325) hb); replace BK343 := Aside0.mk (blk_below (g := gb343) (o := .cells #[.slice Ao36 t337.length co36, .slice Ao39 t340.length co39] 43 (0, 0)) (kz BK343) hb); replace HB := Aside0.mk (below_step (bz2 HB GE325 GE343) hb); clear hb))
      have n0_ := Aside0.mk (Kd.R_drew HO329.out)
      have n1_ := Aside0.mk (Kd.R_drew HO332.out)
      have n2_ := Aside0.mk (Kd.R_drew HO335.out)
      have n3_ := Aside0.mk (Kd.R_drew HO339.out)
      have n4_ := Aside0.mk (Kd.R_drew HO342.out)
      have n5_ := Aside0.mk (Kd.R_drew HO346.out)
      have n6_ := Aside0.mk (blk_drew BK325.out)
      have n7_ := Aside0.mk (blk_drew BK343.out)
      have n8_ := Aside0.mk (below_drew1 HB.out)
      clear HO329
      clear HO332
      clear HO335
      clear HO339
      clear HO342
      clear HO346
      clear BK325
      clear BK343
      clear HB
      have HO329 := n0_
      have HO332 := n1_
      have HO335 := n2_
      have HO339 := n3_
      have HO342 := n4_
      have HO346 := n5_
      have BK325 := n6_
      have BK343 := n7_
      have HB := n8_
      clear n0_ n1_ n2_ n3_ n4_ n5_ n6_ n7_ n8_
      refine start_ (n := 5) (S := fun w' => w'.cell? ⟨gb343, 0, none⟩ = some (.slice Ao36 t337.length co36) ∧ w'.cell? ⟨gb343, 1, none⟩ = some (.slice Ao39 t340.length co39) ∧ w'.cell? ⟨gb325, 0, none⟩ = some (.slice A0_0 l0_0.length c0_0) ∧ w'.cell? ⟨gb325, 1, none⟩ = some (.slice A0_1 l0_1.length c0_1)) (ds := []) #[false, false, false, false, false] (by kernel_rfl) rfl rfl ⟨(blk_cell BK343.out 0).trans rfl, (blk_cell BK343.out 1).trans rfl, (blk_cell BK325.out 0).trans rfl, (blk_cell BK325.out 1).trans rfl⟩ (fun hHeld => ?_)
      generalize w43.drew = w44 at HO329 HO332 HO335 HO339 HO342 HO346 BK325 BK343 HB hHeld ⊢
      refine take_ (i := 0) (N := some 33) (v := ?_) (a' := ?_) #[true, false, false, false, false] rfl rfl (by kernel_rfl) (fun _ _ _ h => h) (Or.inl ⟨by rfl, ?_⟩) hHeld ?_ ?_
      rotate_left
      ·
       rintro w' ⟨s0, s1, s2, s3⟩
       go_simp
       with_reducible rfl
      rotate_left
      ·
       simp only [Act.put, sb_, sc0_, sc1_, i64_w, i32_w]
       rfl
      refine take_ (i := 1) (N := some 34) (v := ?_) (a' := ?_) #[true, true, false, false, false] rfl rfl (by kernel_rfl) (fun _ _ _ h => h) (Or.inl ⟨by rfl, ?_⟩) hHeld ?_ ?_
      rotate_left
      ·
       rintro w' ⟨s0, s1, s2, s3⟩
       go_simp
       with_reducible rfl
      rotate_left
      ·
       simp only [Act.put, sb_, sc0_, sc1_, i64_w, i32_w]
       rfl
      refine one_ (i := 2) (N := some 35) #[true, true, true, false, false] rfl rfl (by kernel_rfl) (by decide) (fun K hK => ?_)
      refine goes_ Try.func17 (by kernel_rfl) rfl #[.agg #[.slice A0_0 l0_0.length c0_0, .slice A0_1 l0_1.length c0_1]] (by rfl) rfl rfl az ?_
      with_reducible refine (laws_toSystem.calls k _ _ l0_0 _ _ l0_1 t348 t351 _ ?side1 ?side2 ?side3 ?side4 A17.out).mono ?_
      (case side1 => exact cz HR0_0 HB)
      (case side2 => exact HC0_0.out)
      (case side3 => exact cz HR0_1 HB)
      (case side4 => exact HC0_1.out)
      rintro e w45 ⟨v349, v352, rfl, ho0, ho1, hb⟩
      refine ⟨_, rfl, ?_⟩
      have n0_ := Aside0.mk (Kd.R_elder' (ozR HO329) (Kd.R_base ho0) hb)
      have n1_ := Aside0.mk (Kd.R_elder' (ozR HO332) (Kd.R_base ho1) hb)
      have n2_ := Aside0.mk (Kd.R_below (ozR HO335) hb)
      have n3_ := Aside0.mk (Kd.R_elder' (ozR HO339) (Kd.R_base ho0) hb)
      have n4_ := Aside0.mk (Kd.R_elder' (ozR HO342) (Kd.R_base ho1) hb)
      have n5_ := Aside0.mk (Kd.R_below (ozR HO346) hb)
      have n6_ := Aside0.mk (Kd.R_lower (Kd.R_new' (Kd.R_new' ho0 (Kd.R_lt (ozR HO329))) (Kd.R_lt (ozR HO339))) (below_size (bz2 HB GE325 GE343)))
      have n7_ := Aside0.mk (Kd.R_lower (Kd.R_new' (Kd.R_new' (Kd.R_new' (Kd.R_new' ho1 (Kd.R_lt (ozR HO332))) (Kd.R_lt (ozR HO335))) (Kd.R_lt (ozR HO342))) (Kd.R_lt (ozR HO346))) (below_size (bz2 HB GE325 GE343)))
      have n8_ := Aside0.mk (blk_below (g := gb325) (o := .cells #[.slice A0_0 l0_0.length c0_0, .slice A0_1 l0_1.length c0_1] 37 (0, 0)) (kz BK325) hb)
      have n9_ := Aside0.mk (blk_below (g := gb343) (o := .cells #[.slice Ao36 t337.length co36, .slice Ao39 t340.length co39] 43 (0, 0)) (kz BK343) hb)
      have n10_ := Aside0.mk (below_step (bz2 HB GE325 GE343) hb)
      clear HO329
      clear HO332
      clear HO335
      clear HO339
      clear HO342
      clear HO346
      clear BK325
      clear BK343
      clear HB
      have HO329 := n0_
      have HO332 := n1_
      have HO335 := n2_
      have HO339 := n3_
      have HO342 := n4_
      have HO346 := n5_
      have HO350 := n6_
      have HO353 := n7_
      have BK325 := n8_
      have BK343 := n9_
      have HB := n10_
      clear n0_ n1_ n2_ n3_ n4_ n5_ n6_ n7_ n8_ n9_ n10_
      (try clear hb)
      (try clear hb2)
      (try clear hk)
      (try clear hi)
      (try clear ho0)
      (try clear ho1)
      obtain ⟨Ao46, co46, eo46⟩ := Kd.R_slice HO350.out
      (first | subst eo46 | (injection eo46 with f1_ f2_ f3_; have f4_ := f1_.symm; have f5_ := f3_.symm; clear f1_ f2_ f3_; subst f4_; subst f5_))
      obtain ⟨Ao47, co47, eo47⟩ := Kd.R_slice HO353.out
      (first | subst eo47 | (injection eo47 with f1_ f2_ f3_; have f4_ := f1_.symm; have f5_ := f3_.symm; clear f1_ f2_ f3_; subst f4_; subst f5_))
      refine hK.out _ _ ⟨(blk_cell BK343.out 0).trans rfl, (blk_cell BK343.out 1).trans rfl, (blk_cell BK325.out 0).trans rfl, (blk_cell BK325.out 1).trans rfl⟩ (fun hHeld => ?_)
      clear hK K
      refine norm_ (a' := ?_) ?_ ?_
      rotate_left
      ·
       show Act.put _ (some 35) _ = _
       simp only [Act.put, sb_, sc0_, sc1_, i64_w, i32_w]
       rfl
      refine one_ (i := 3) (N := some 36) #[true, true, true, true, false] rfl rfl (by kernel_rfl) (by decide) (fun K hK => ?_)
      refine goes_ Try.func20 (by kernel_rfl) rfl #[.agg #[.slice Ao36 t337.length co36, .slice Ao39 t340.length co39], .agg #[.slice Ao46 t348.length co46, .slice Ao47 t351.length co47]] (by rfl) rfl rfl az ?_
      with_reducible refine (laws_eqSystem.calls k _ _ t337 _ _ t340 _ _ t348 _ _ t351 true _ ?side1 ?side2 ?side3 ?side4 ?side5 ?side6 ?side7 ?side8 A18.out).mono ?_
      (case side1 => exact cz1 (Kd.R_reads' HO339.out).2.2)
      (case side2 => exact (Kd.R_reads' HO339.out).2.1)
      (case side3 => exact cz1 (Kd.R_reads' HO342.out).2.2)
      (case side4 => exact (Kd.R_reads' HO342.out).2.1)
      (case side5 => exact cz1 (Kd.R_reads' HO350.out).2.2)
      (case side6 => exact (Kd.R_reads' HO350.out).2.1)
      (case side7 => exact cz1 (Kd.R_reads' HO353.out).2.2)
      (case side8 => exact (Kd.R_reads' HO353.out).2.1)
      rintro e w48 ⟨rfl, hb⟩
      refine ⟨_, rfl, ?_⟩
      have n0_ := Aside0.mk (Kd.R_below (ozR HO329) hb)
      have n1_ := Aside0.mk (Kd.R_below (ozR HO332) hb)
      have n2_ := Aside0.mk (Kd.R_below (ozR HO335) hb)
      have n3_ := Aside0.mk (Kd.R_below (ozR HO339) hb)
      have n4_ := Aside0.mk (Kd.R_below (ozR HO342) hb)
      have n5_ := Aside0.mk (Kd.R_below (ozR HO346) hb)
      have n6_ := Aside0.mk (Kd.R_below (ozR HO350) hb)
      have n7_ := Aside0.mk (Kd.R_below (ozR HO353) hb)
      have n8_ := Aside0.mk (blk_below (g := gb325) (o := .cells #[.slice A0_0 l0_0.length c0_0, .slice A0_1 l0_1.length c0_1] 37 (0, 0)) (kz BK325) hb)
      have n9_ := Aside0.mk (blk_below (g := gb343) (o := .cells #[.slice Ao36 t337.length co36, .slice Ao39 t340.length co39] 43 (0, 0)) (kz BK343) hb)
      have n10_ := Aside0.mk (below_step (bz2 HB GE325 GE343) hb)
      clear HO329
      clear HO332
      clear HO335
      clear HO339
      clear HO342
      clear HO346
      clear HO350
      clear HO353
      clear BK325
      clear BK343
      clear HB
      have HO329 := n0_
      have HO332 := n1_
      have HO335 := n2_
      have HO339 := n3_
      have HO342 := n4_
      have HO346 := n5_
      have HO350 := n6_
      have HO353 := n7_
      have BK325 := n8_
      have BK343 := n9_
      have HB := n10_
      clear n0_ n1_ n2_ n3_ n4_ n5_ n6_ n7_ n8_ n9_ n10_
      (try clear hb)
      (try clear hb2)
      (try clear hk)
      (try clear hi)
      refine hK.out _ _ ⟨(blk_cell BK343.out 0).trans rfl, (blk_cell BK343.out 1).trans rfl, (blk_cell BK325.out 0).trans rfl, (blk_cell BK325.out 1).trans rfl⟩ (fun hHeld => ?_)
      clear hK K
      refine norm_ (a' := ?_) ?_ ?_
      rotate_left
      ·
       show Act.put _ (some 36) _ = _
       simp only [Act.put, sb_, sc0_, sc1_, i64_w, i32_w]
       rfl
      refine pure_ (i := 4) (N := some 37) (v := ?_) (a' := ?_) #[true, true, true, true, true] rfl rfl (by kernel_rfl) (fun _ _ _ h => h) (Or.inl ⟨by rfl, ?_⟩) ?_ ?_
      rotate_left
      ·
       intro w'
       go_simp
       with_reducible rfl
      rotate_left
      ·
       simp only [Act.put, sb_, sc0_, sc1_, i64_w, i32_w]
       rfl
      refine done_ (by kernel_rfl) ?_
      try go_wp2_with (first | ((with_reducible refine gate_callee (f := 18) rfl ?_); refine goesL_ (some 40) rfl rfl Try.func18 (by kernel_rfl) rfl #[.slice A1 l1.length c1] rfl az ?_; (with_reducible refine (laws_toIntS.calls k _ _ l1 t355 _ ?side1 HC1.out A20.out).mono ?_); (case side1 => exact cz HR1 HB); rintro e w49 ⟨v356, rfl, ho0, hb⟩; refine ⟨_, rfl, ?_⟩; have n0_ := Aside0.mk (Kd.R_below (ozR HO329) hb); have n1_ := Aside0.mk (Kd.R_elder' (ozR HO332) (Kd.R_base ho0) hb); have n2_ := Aside0.mk (Kd.R_elder' (ozR HO335) (Kd.R_base ho0) hb); have n3_ := Aside0.mk (Kd.R_below (ozR HO339) hb); have n4_ := Aside0.mk (Kd.R_elder' (ozR HO342) (Kd.R_base ho0) hb); have n5_ := Aside0.mk (Kd.R_elder' (ozR HO346) (Kd.R_base ho0) hb); have n6_ := Aside0.mk (Kd.R_below (ozR HO350) hb); have n7_ := Aside0.mk (Kd.R_elder' (ozR HO353) (Kd.R_base ho0) hb); have n8_ := Aside0.mk (Kd.R_lower (Kd.R_new' (Kd.R_new' ho0 (Kd.R_lt (ozR HO335))) (Kd.R_lt (ozR HO346))) (below_size (bz2 HB GE325 GE343))); have n9_ := Aside0.mk (blk_below (g := gb325) (o := .cells #[.slice A0_0 l0_0.length c0_0, .slice A0_1 l0_1.length c0_1] 37 (0, 0)) (kz BK325) hb); have n10_ := Aside0.mk (blk_below (g := gb343) (o := .cells #[.slice Ao36 t337.length co36, .slice Ao39 t340.length co39] 43 (0, 0)) (kz BK343) hb); have n11_ := Aside0.mk (below_step (bz2 HB GE325 GE343) hb); clear HO329; clear HO332; clear HO335; clear HO339; clear HO342; clear HO346; clear HO350; clear HO353; clear BK325; clear BK343; clear HB; have HO329 := n0_; have HO332 := n1_; have HO335 := n2_; have HO339 := n3_; have HO342 := n4_; have HO346 := n5_; have HO350 := n6_; have HO353 := n7_; have HO357 := n8_; have BK325 := n9_; have BK343 := n10_; have HB := n11_; clear n0_ n1_ n2_ n3_ n4_ n5_ n6_ n7_ n8_ n9_ n10_ n11_; clear hb; (try clear ho0); obtain ⟨Ao50, co50, eo50⟩ := Kd.R_slice HO357.out; subst eo50) | ((with_reducible refine gate_callee (f := 21) rfl ?_); refine goesL_ (some 41) rfl rfl Try.func21 (by kernel_rfl) rfl #[.slice Ao42 t344.length co42, .slice Ao50 t355.length co50] rfl az ?_; (with_reducible refine (laws_eqIntS.calls k _ _ t344 _ _ t355 true _ ?side1 ?side2 ?side3 ?side4 A21.out).mono ?_); (case side1 => exact cz1 (Kd.R_reads' HO346.out).2.2); (case side2 => exact (Kd.R_reads' HO346.out).2.1); (case side3 => exact cz1 (Kd.R_reads' HO357.out).2.2); (case side4 => exact (Kd.R_reads' HO357.out).2.1); rintro e w' ⟨rfl, ⟨nd, rfl⟩⟩; refine ⟨_, rfl, ?_⟩))
      go_ret
      exact ⟨rz, bz2 HB GE325 GE343⟩
     ·
      replace c22 := Bool.eq_false_iff.mpr c22
      subst c22
      rw [if_neg nt_] at H
      exact absurd ((Option.some.inj H).trans HR_.out) (by decide)
    ·
     replace c19 := Bool.eq_false_iff.mpr c19
     subst c19
     rw [if_neg nt_] at H
     exact absurd ((Option.some.inj H).trans HR_.out) (by decide)
end Go.Proofs.Ytndmhmekmkgccaa.PFnExactSetValid
end
