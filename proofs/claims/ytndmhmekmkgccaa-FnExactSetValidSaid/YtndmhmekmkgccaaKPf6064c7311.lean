/- Walks of Go functions: each is shown to answer as the Lean function beside it tells, under the conditions that its theorem names. -/
import Derived.Test.YtndmhmekmkgccaaKPd4c36a10b8
import Derived.Test.YtndmhmekmkgccaaKP190196a8cd
import Derived.Test.YtndmhmekmkgccaaKPc958b50014
section
namespace Go.Proofs.Ytndmhmekmkgccaa.PFnExactSetValid
open Go.RowKit Go.Proofs.YtndmhmekmkgccaaW.PrintWords Go.Proofs.YtndmhmekmkgccaaW.PrintLast Go.Proofs.YtndmhmekmkgccaaW.PrintMore
attribute [local go_sem] max2_int min2_int max_two min_two max_three min_three max_four min_four   -- for this text's walks alone
set_option linter.unusedVariables false
set_option linter.unusedSimpArgs false
set_option maxHeartbeats 8000000 in
set_option maxRecDepth 100000 in
theorem spec_SetValid.calls (k : Nat) (A0_0 : Option Addr) (c0_0 : Nat) (l0_0 : List (IVar)) (A0_1 : Option Addr) (c0_1 : Nat) (l0_1 : List (IRule)) (A1 : Option Addr) (c1 : Nat) (l1 : List Int) (r : Bool) (w : World) (hr0_0 : Kd.C k141 w A0_0 l0_0.length l0_0) (hc0_0 : l0_0.length ≤ c0_0) (hr0_1 : Kd.C k145 w A0_1 l0_1.length l0_1) (hc0_1 : l0_1.length ≤ c0_1) (hr1 : Kd.C (Kd.int .i64) w A1 l1.length l1) (hc1 : l1.length ≤ c1) (h : spec_SetValid.f k l0_0 l0_1 l1 = some r) :
  Calls Try.prog 34 #[.agg #[.slice A0_0 l0_0.length c0_0, .slice A0_1 l0_1.length c0_1], .slice A1 l1.length c1] w fun e w' => e = .returned (.bool r) ∧ Below w.heap.size w w' := by
 have hu43 := Try.underlying43
 have HR0_0 := Aside0.mk hr0_0
 have HC0_0 := Aside0.mk hc0_0
 clear hr0_0 hc0_0
 have HR0_1 := Aside0.mk hr0_1
 have HC0_1 := Aside0.mk hc0_1
 clear hr0_1 hc0_1
 have HR1 := Aside0.mk hr1
 have HC1 := Aside0.mk hc1
 clear hr1 hc1
 have HB := Aside0.mk (Below.refl w.heap.size w)
 have H : ((spec_SizeOf.f k l0_0 l0_1).bind fun t260 => (spec_SetValid.l0 k l1 t260 0)) = some r := h
 clear h
 replace H := Option.bind_eq_some_iff.mp H
 obtain ⟨t260, A30, H⟩ := H
 have A3 := Aside0.mk A30
 clear A30
 have H' := Aside0.mk H
 clear H
 go_enter Try.func34, Try.ntmps34
 go_wp2_with (first | ((with_reducible refine gate_dst (N := 2) rfl ?_); refine box_event ?hg (N := 2) ?hd (cs := #[.slice A0_0 l0_0.length c0_0, .slice A0_1 l0_1.length c0_1]) (t := 43) ?hr ?_; (case hd => rfl); (case hg => rfl); (case hr => first | (go_simp; done) | (go_simp; rfl)); intro gb259 hg w4 hbox hb; have n0_ := Aside0.mk (below_step (bz HB) hb); have n1_ := Aside0.mk (hbox); have n2_ := Aside0.mk ((by rw [hg]; exact (below_size (bz HB)) : w.heap.size ≤ gb259)); have n3_ := Aside0.mk ((by rw [hg]; exact (below_size (bz HB)) : w.heap.size ≤ gb259)); clear HB; have HB := n0_; have BK259 := n1_; have GW259 := n2_; have GE259 := n3_; clear n0_ n1_ n2_ n3_; clear hb hbox hg; have hcz5_0 : w4.cell? ⟨gb259, 0, none⟩ = some (.slice A0_0 l0_0.length c0_0) := (blk_cell BK259.out 0).trans rfl; have hcz5_1 : w4.cell? ⟨gb259, 1, none⟩ = some (.slice A0_1 l0_1.length c0_1) := (blk_cell BK259.out 1).trans rfl; have hfz5_0 := blk_frozen BK259.out 0; have hfz5_1 := blk_frozen BK259.out 1) | (go_at_call 91; (with_reducible refine (spec_SizeOf.calls k _ _ l0_0 _ _ l0_1 t260 _ ?side1 HC0_0.out ?side3 HC0_1.out A3.out).mono ?_); (case side1 => exact cz HR0_0 HB); (case side3 => exact cz HR0_1 HB); rintro e w6 ⟨rfl, hb⟩; replace BK259 := Aside0.mk (blk_below (g := gb259) (o := .cells #[.slice A0_0 l0_0.length c0_0, .slice A0_1 l0_1.length c0_1] 43 (0, 0)) (kz BK259) hb); replace HB := Aside0.mk (below_step (bz1 HB GE259) hb); clear hb))
 repeat (go_quiet (first | ((with_reducible refine gate_dst (N := 2) rfl ?_); refine box_event ?hg (N := 2) ?hd (cs := #[.slice A0_0 l0_0.length c0_0, .slice A0_1 l0_1.length c0_1]) (t := 43) ?hr ?_; (case hd => rfl); (case hg => rfl); (case hr => first | (go_simp; done) | (go_simp; rfl)); intro gb259 hg w4 hbox hb; have n0_ := Aside0.mk (below_step (bz HB) hb); have n1_ := Aside0.mk (hbox); have n2_ := Aside0.mk ((by rw [hg]; exact (below_size (bz HB)) : w.heap.size ≤ gb259)); have n3_ := Aside0.mk ((by rw [hg]; exact (below_size (bz HB)) : w.heap.size ≤ gb259)); clear HB; have HB := n0_; have BK259 := n1_; have GW259 := n2_; have GE259 := n3_; clear n0_ n1_ n2_ n3_; clear hb hbox hg; have hcz5_0 : w4.cell? ⟨gb259, 0, none⟩ = some (.slice A0_0 l0_0.length c0_0) := (blk_cell BK259.out 0).trans rfl; have hcz5_1 : w4.cell? ⟨gb259, 1, none⟩ = some (.slice A0_1 l0_1.length c0_1) := (blk_cell BK259.out 1).trans rfl; have hfz5_0 := blk_frozen BK259.out 0; have hfz5_1 := blk_frozen BK259.out 1) | (go_at_call 91; (with_reducible refine (spec_SizeOf.calls k _ _ l0_0 _ _ l0_1 t260 _ ?side1 HC0_0.out ?side3 HC0_1.out A3.out).mono ?_); (case side1 => exact cz HR0_0 HB); (case side3 => exact cz HR0_1 HB); rintro e w6 ⟨rfl, hb⟩; replace BK259 := Aside0.mk (blk_below (g := gb259) (o := .cells #[.slice A0_0 l0_0.length c0_0, .slice A0_1 l0_1.length c0_1] 43 (0, 0)) (kz BK259) hb); replace HB := Aside0.mk (below_step (bz1 HB GE259) hb); clear hb)); try go_wp2_with (first | ((with_reducible refine gate_dst (N := 2) rfl ?_); refine box_event ?hg (N := 2) ?hd (cs := #[.slice A0_0 l0_0.length c0_0, .slice A0_1 l0_1.length c0_1]) (t := 43) ?hr ?_; (case hd => rfl); (case hg => rfl); (case hr => first | (go_simp; done) | (go_simp; rfl)); intro gb259 hg w4 hbox hb; have n0_ := Aside0.mk (below_step (bz HB) hb); have n1_ := Aside0.mk (hbox); have n2_ := Aside0.mk ((by rw [hg]; exact (below_size (bz HB)) : w.heap.size ≤ gb259)); have n3_ := Aside0.mk ((by rw [hg]; exact (below_size (bz HB)) : w.heap.size ≤ gb259)); clear HB; have HB := n0_; have BK259 := n1_; have GW259 := n2_; have GE259 := n3_; clear n0_ n1_ n2_ n3_; clear hb hbox hg; have hcz5_0 : w4.cell? ⟨gb259, 0, none⟩ = some (.slice A0_0 l0_0.length c0_0) := (blk_cell BK259.out 0).trans rfl; have hcz5_1 : w4.cell? ⟨gb259, 1, none⟩ = some (.slice A0_1 l0_1.length c0_1) := (blk_cell BK259.out 1).trans rfl; have hfz5_0 := blk_frozen BK259.out 0; have hfz5_1 := blk_frozen BK259.out 1) | (go_at_call 91; (with_reducible refine (spec_SizeOf.calls k _ _ l0_0 _ _ l0_1 t260 _ ?side1 HC0_0.out ?side3 HC0_1.out A3.out).mono ?_); (case side1 => exact cz HR0_0 HB); (case side3 => exact cz HR0_1 HB); rintro e w6 ⟨rfl, hb⟩; replace BK259 := Aside0.mk (blk_below (g := gb259) (o := .cells #[.slice A0_0 l0_0.length c0_0, .slice A0_1 l0_1.length c0_1] 43 (0, 0)) (kz BK259) hb); replace HB := Aside0.mk (below_step (bz1 HB GE259) hb); clear hb)))
 go_loopg [6] k (fun kq v6 w' => ∃ (x6_1 : Int), v6 = .int .i64 x6_1 ∧ Aside0 (spec_SetValid.l0 kq l1 t260 x6_1 = some r) ∧ Aside0 (kq ≤ k) ∧ Aside0 (w'.heap[gb259]? = some (.cells #[(.slice A0_0 l0_0.length c0_0), (.slice A0_1 l0_1.length c0_1)] 43 (0, 0))) ∧ Aside0 (Below w.heap.size w w'))
 case atStart => exact ⟨(0), rq, H', ⟨Nat.le_refl _⟩, ⟨kz BK259⟩, ⟨bz1 HB GE259⟩⟩
 case round =>
  clear H'
  try clear c1
  try clear p2
  try clear c3
  try clear hcz5_0
  try clear hcz5_1
  try clear hfz5_0
  try clear hfz5_1
  obtain ⟨x6_1, rfl, HA, HK1, BK259, HB⟩ := hrel
  cases gk with
  | zero => exact absurd HA.out (by simp [spec_SetValid.l0])
  | succ k1 =>
   have H := HA.out
   clear HA
   simp only [spec_SetValid.l0] at H
   by_cases c7 : x6_1 < (l1.length : Int)
   ·
    rw [if_pos c7] at H
    have c7b0 : decide (x6_1 < (l1.length : Int)) = true := decide_eq_true c7
    clear c7
    have HC8 := Aside0.mk H
    clear H
    go_upto_region 5 with (fail)
    repeat (go_quiet (fail); go_upto_region 5 with (fail))
    go_cut [38] (fun v38 wc => ∃ (kq : Nat) (x38_7 : Bool), v38 = .bool x38_7 ∧ Aside0 (spec_SetValid.j1 kq l1 t260 x6_1 x38_7 = some r) ∧ Aside0 (kq ≤ k1) ∧ Aside0 (wc.heap[gb259]? = some (.cells #[(.slice A0_0 l0_0.length c0_0), (.slice A0_1 l0_1.length c0_1)] 43 (0, 0))) ∧ Aside0 (Below w.heap.size w wc))
    case first =>
     have H := HC8.out
     clear HC8
     by_cases c9 : 0 ≤ x6_1
     ·
      rw [if_pos c9] at H
      have c9b0 : decide (0 ≤ x6_1) = true := decide_eq_true c9
      clear c9
      (first | rw [c9b0] | (simp only [i64_w, i32_w]; rw [c9b0]) | skip)
      replace H := Option.bind_eq_some_iff.mp H
      obtain ⟨t262, A100, H⟩ := H
      have A10 := Aside0.mk A100
      clear A100
      by_cases c11 : t262 = true
      ·
       subst c11
       rw [if_pos rfl] at H
       by_cases c12 : x6_1 > 0
       ·
        rw [if_pos c12] at H
        have c12b0 : decide (0 < x6_1) = true := decide_eq_true c12
        clear c12
        obtain ⟨ji13, hji13⟩ : ∃ j_ : Int, (wrap64 (x6_1 - 1)) = j_ := ⟨_, rfl⟩
        replace H : (if 0 ≤ (ji13) then (if (ji13) < (l1.length : Int) then (spec_SetValid.j1 k1 l1 t260 x6_1 (decide ((rd l1 x6_1) ≤ (rd l1 (ji13))))) else (none)) else (none)) = some r := by first | (rw [hji13] at H; exact H) | (simp only [hji13] at H ⊢; exact H)
        (try rw [hji13] at A10)
        have hji13w : (IntKind.i64.wrap (x6_1 - 1)) = ji13 := (i64_w _).trans hji13
        by_cases c14 : 0 ≤ (ji13)
        ·
         rw [if_pos c14] at H
         have c14b0 : decide (0 ≤ (ji13)) = true := decide_eq_true c14
         clear c14
         by_cases c15 : (ji13) < (l1.length : Int)
         ·
          rw [if_pos c15] at H
          have c15b0 : decide ((ji13) < (l1.length : Int)) = true := decide_eq_true c15
          clear c15
          have H' := Aside0.mk H
          clear H
          have p261 : 0 ≤ (x6_1 : Int) := dz
          have q261 : x6_1 < (l1.length : Int) := dz
          obtain ⟨ad261, e261, hx261_0⟩ := Kd.at_int HR1.out x6_1 p261 q261
          cases e261
          replace hx261_0 := xz HB hx261_0
          replace p261 := eq_true p261
          replace q261 := eq_true q261
          go_wp2_with (first | (go_at_call 92; (first | with_reducible refine (spec_l1In.calls (rd l1 x6_1) 0 (wrap64 (t260 - 1)) true _ A10.out).mono ?_ | refine calls_of_args (args' := #[.int .i64 (rd l1 x6_1), .int .i64 0, .int .i64 (wrap64 (t260 - 1))]) (by simp only [i64_w]) ((spec_l1In.calls (rd l1 x6_1) 0 (wrap64 (t260 - 1)) true _ A10.out).mono ?_)); rintro e w' ⟨rfl, ⟨nd, rfl⟩⟩; (try first | exact ⟨rfl, _, World.drewN_drewN _ _ _⟩ | exact ⟨rfl, _, Eq.trans (World.drewN_drewN _ _ _) (congrArg (World.drewN _) (Nat.add_assoc _ _ _))⟩); all_goals (have p263 : 0 ≤ (x6_1 : Int) := dz; have q263 : x6_1 < (l1.length : Int) := dz; obtain ⟨ad263, e263, hx263_0⟩ := Kd.at_int HR1.out x6_1 p263 q263; obtain rfl : ad261 = ad263 := (by injection e263); replace hx263_0 := xz HB hx263_0; replace p263 := eq_true p263; replace q263 := eq_true q263; have p264 : 0 ≤ ((ji13) : Int) := dz; have q264 : (ji13) < (l1.length : Int) := dz; obtain ⟨ad264, e264, hx264_0⟩ := Kd.at_int HR1.out (ji13) p264 q264; obtain rfl : ad261 = ad264 := (by injection e264); replace hx264_0 := xz HB hx264_0; replace p264 := eq_true p264; replace q264 := eq_true q264)))
          repeat (go_quiet (first | (go_at_call 92; (first | with_reducible refine (spec_l1In.calls (rd l1 x6_1) 0 (wrap64 (t260 - 1)) true _ A10.out).mono ?_ | refine calls_of_args (args' := #[.int .i64 (rd l1 x6_1), .int .i64 0, .int .i64 (wrap64 (t260 - 1))]) (by simp only [i64_w]) ((spec_l1In.calls (rd l1 x6_1) 0 (wrap64 (t260 - 1)) true _ A10.out).mono ?_)); rintro e w' ⟨rfl, ⟨nd, rfl⟩⟩; (try first | exact ⟨rfl, _, World.drewN_drewN _ _ _⟩ | exact ⟨rfl, _, Eq.trans (World.drewN_drewN _ _ _) (congrArg (World.drewN _) (Nat.add_assoc _ _ _))⟩); all_goals (have p263 : 0 ≤ (x6_1 : Int) := dz; have q263 : x6_1 < (l1.length : Int) := dz; obtain ⟨ad263, e263, hx263_0⟩ := Kd.at_int HR1.out x6_1 p263 q263; obtain rfl : ad261 = ad263 := (by injection e263); replace hx263_0 := xz HB hx263_0; replace p263 := eq_true p263; replace q263 := eq_true q263; have p264 : 0 ≤ ((ji13) : Int) := dz; have q264 : (ji13) < (l1.length : Int) := dz; obtain ⟨ad264, e264, hx264_0⟩ := Kd.at_int HR1.out (ji13) p264 q264; obtain rfl : ad261 = ad264 := (by injection e264); replace hx264_0 := xz HB hx264_0; replace p264 := eq_true p264; replace q264 := eq_true q264))); try go_wp2_with (first | (go_at_call 92; (first | with_reducible refine (spec_l1In.calls (rd l1 x6_1) 0 (wrap64 (t260 - 1)) true _ A10.out).mono ?_ | refine calls_of_args (args' := #[.int .i64 (rd l1 x6_1), .int .i64 0, .int .i64 (wrap64 (t260 - 1))]) (by simp only [i64_w]) ((spec_l1In.calls (rd l1 x6_1) 0 (wrap64 (t260 - 1)) true _ A10.out).mono ?_)); rintro e w' ⟨rfl, ⟨nd, rfl⟩⟩; (try first | exact ⟨rfl, _, World.drewN_drewN _ _ _⟩ | exact ⟨rfl, _, Eq.trans (World.drewN_drewN _ _ _) (congrArg (World.drewN _) (Nat.add_assoc _ _ _))⟩); all_goals (have p263 : 0 ≤ (x6_1 : Int) := dz; have q263 : x6_1 < (l1.length : Int) := dz; obtain ⟨ad263, e263, hx263_0⟩ := Kd.at_int HR1.out x6_1 p263 q263; obtain rfl : ad261 = ad263 := (by injection e263); replace hx263_0 := xz HB hx263_0; replace p263 := eq_true p263; replace q263 := eq_true q263; have p264 : 0 ≤ ((ji13) : Int) := dz; have q264 : (ji13) < (l1.length : Int) := dz; obtain ⟨ad264, e264, hx264_0⟩ := Kd.at_int HR1.out (ji13) p264 q264; obtain rfl : ad261 = ad264 := (by injection e264); replace hx264_0 := xz HB hx264_0; replace p264 := eq_true p264; replace q264 := eq_true q264))))
          go_meet
          case rel => exact ⟨_, (decide ((rd l1 x6_1) ≤ (rd l1 (ji13)))), (by first | rfl | (simp; done) | (simp only [← hji13] <;> (first | rfl | simp)) | (simp [*]; done)), H', ⟨by have := HK1.out; first | omega | exact Nat.le_refl _⟩, ⟨kz BK259⟩, ⟨bz1 HB GE259⟩⟩
         ·
          rw [if_neg c15] at H
          exact absurd H (by simp)
        ·
         rw [if_neg c14] at H
         exact absurd H (by simp)
       ·
        rw [if_neg c12] at H
        have c12b0 : decide (0 < x6_1) = false := decide_eq_false c12
        clear c12
        have H' := Aside0.mk H
        clear H
        have p261 : 0 ≤ (x6_1 : Int) := dz
        have q261 : x6_1 < (l1.length : Int) := dz
        obtain ⟨ad261, e261, hx261_0⟩ := Kd.at_int HR1.out x6_1 p261 q261
        cases e261
        replace hx261_0 := xz HB hx261_0
        replace p261 := eq_true p261
        replace q261 := eq_true q261
        go_wp2_with (first | (go_at_call 92; (first | with_reducible refine (spec_l1In.calls (rd l1 x6_1) 0 (wrap64 (t260 - 1)) true _ A10.out).mono ?_ | refine calls_of_args (args' := #[.int .i64 (rd l1 x6_1), .int .i64 0, .int .i64 (wrap64 (t260 - 1))]) (by simp only [i64_w]) ((spec_l1In.calls (rd l1 x6_1) 0 (wrap64 (t260 - 1)) true _ A10.out).mono ?_)); rintro e w' ⟨rfl, ⟨nd, rfl⟩⟩; (try first | exact ⟨rfl, _, World.drewN_drewN _ _ _⟩ | exact ⟨rfl, _, Eq.trans (World.drewN_drewN _ _ _) (congrArg (World.drewN _) (Nat.add_assoc _ _ _))⟩)))
        repeat (go_quiet (first | (go_at_call 92; (first | with_reducible refine (spec_l1In.calls (rd l1 x6_1) 0 (wrap64 (t260 - 1)) true _ A10.out).mono ?_ | refine calls_of_args (args' := #[.int .i64 (rd l1 x6_1), .int .i64 0, .int .i64 (wrap64 (t260 - 1))]) (by simp only [i64_w]) ((spec_l1In.calls (rd l1 x6_1) 0 (wrap64 (t260 - 1)) true _ A10.out).mono ?_)); rintro e w' ⟨rfl, ⟨nd, rfl⟩⟩; (try first | exact ⟨rfl, _, World.drewN_drewN _ _ _⟩ | exact ⟨rfl, _, Eq.trans (World.drewN_drewN _ _ _) (congrArg (World.drewN _) (Nat.add_assoc _ _ _))⟩))); try go_wp2_with (first | (go_at_call 92; (first | with_reducible refine (spec_l1In.calls (rd l1 x6_1) 0 (wrap64 (t260 - 1)) true _ A10.out).mono ?_ | refine calls_of_args (args' := #[.int .i64 (rd l1 x6_1), .int .i64 0, .int .i64 (wrap64 (t260 - 1))]) (by simp only [i64_w]) ((spec_l1In.calls (rd l1 x6_1) 0 (wrap64 (t260 - 1)) true _ A10.out).mono ?_)); rintro e w' ⟨rfl, ⟨nd, rfl⟩⟩; (try first | exact ⟨rfl, _, World.drewN_drewN _ _ _⟩ | exact ⟨rfl, _, Eq.trans (World.drewN_drewN _ _ _) (congrArg (World.drewN _) (Nat.add_assoc _ _ _))⟩))))
        go_meet
        case rel => exact ⟨_, (false), rq, H', ⟨by have := HK1.out; first | omega | exact Nat.le_refl _⟩, ⟨kz BK259⟩, ⟨bz1 HB GE259⟩⟩
      ·
       replace c11 := Bool.eq_false_iff.mpr c11
       subst c11
       rw [if_neg nt_] at H
       have H' := Aside0.mk H
       clear H
       have p261 : 0 ≤ (x6_1 : Int) := dz
       have q261 : x6_1 < (l1.length : Int) := dz
       obtain ⟨ad261, e261, hx261_0⟩ := Kd.at_int HR1.out x6_1 p261 q261
       cases e261
       replace hx261_0 := xz HB hx261_0
       replace p261 := eq_true p261
       replace q261 := eq_true q261
       go_wp2_with (first | (go_at_call 92; (first | with_reducible refine (spec_l1In.calls (rd l1 x6_1) 0 (wrap64 (t260 - 1)) false _ A10.out).mono ?_ | refine calls_of_args (args' := #[.int .i64 (rd l1 x6_1), .int .i64 0, .int .i64 (wrap64 (t260 - 1))]) (by simp only [i64_w]) ((spec_l1In.calls (rd l1 x6_1) 0 (wrap64 (t260 - 1)) false _ A10.out).mono ?_)); rintro e w' ⟨rfl, ⟨nd, rfl⟩⟩; (try first | exact ⟨rfl, _, World.drewN_drewN _ _ _⟩ | exact ⟨rfl, _, Eq.trans (World.drewN_drewN _ _ _) (congrArg (World.drewN _) (Nat.add_assoc _ _ _))⟩)))
       repeat (go_quiet (first | (go_at_call 92; (first | with_reducible refine (spec_l1In.calls (rd l1 x6_1) 0 (wrap64 (t260 - 1)) false _ A10.out).mono ?_ | refine calls_of_args (args' := #[.int .i64 (rd l1 x6_1), .int .i64 0, .int .i64 (wrap64 (t260 - 1))]) (by simp only [i64_w]) ((spec_l1In.calls (rd l1 x6_1) 0 (wrap64 (t260 - 1)) false _ A10.out).mono ?_)); rintro e w' ⟨rfl, ⟨nd, rfl⟩⟩; (try first | exact ⟨rfl, _, World.drewN_drewN _ _ _⟩ | exact ⟨rfl, _, Eq.trans (World.drewN_drewN _ _ _) (congrArg (World.drewN _) (Nat.add_assoc _ _ _))⟩))); try go_wp2_with (first | (go_at_call 92; (first | with_reducible refine (spec_l1In.calls (rd l1 x6_1) 0 (wrap64 (t260 - 1)) false _ A10.out).mono ?_ | refine calls_of_args (args' := #[.int .i64 (rd l1 x6_1), .int .i64 0, .int .i64 (wrap64 (t260 - 1))]) (by simp only [i64_w]) ((spec_l1In.calls (rd l1 x6_1) 0 (wrap64 (t260 - 1)) false _ A10.out).mono ?_)); rintro e w' ⟨rfl, ⟨nd, rfl⟩⟩; (try first | exact ⟨rfl, _, World.drewN_drewN _ _ _⟩ | exact ⟨rfl, _, Eq.trans (World.drewN_drewN _ _ _) (congrArg (World.drewN _) (Nat.add_assoc _ _ _))⟩))))
       go_meet
       case rel => exact ⟨_, (true), rq, H', ⟨by have := HK1.out; first | omega | exact Nat.le_refl _⟩, ⟨kz BK259⟩, ⟨bz1 HB GE259⟩⟩
     ·
      rw [if_neg c9] at H
      exact absurd H (by simp)
    case rest =>
     clear HC8
     try clear c1
     try clear p2
     try clear q2
     try clear hx2
     try clear c3
     try clear p6
     try clear c7
     try clear c7b0
     try clear c9
     try clear c9b0
     try clear c11
     try clear c12
     try clear c12b0
     try clear c14
     try clear c14b0
     try clear c15
     try clear c15b0
     try clear hcz5_0
     try clear hcz5_1
     try clear hfz5_0
     try clear hfz5_1
     try clear hx261_0
     try clear hx263_0
     try clear hx264_0
     try clear p2
     try clear p261
     try clear p263
     try clear p264
     try clear q261
     try clear q263
     try clear q264
     obtain ⟨kq, x38_7, rfl, HA, HJ7, BK259, HB⟩ := hcut
     cases kq with
     | zero => exact absurd HA.out (by simp [spec_SetValid.j1])
     | succ kj7 =>
      have H := HA.out
      clear HA
      simp only [spec_SetValid.j1] at H
      by_cases c16 : x38_7 = true
      ·
       subst c16
       rw [if_pos rfl] at H
       obtain rfl := Option.some.inj H
       go_wp2
       repeat (go_quiet (fail); try go_wp2)
       go_ret
       exact ⟨rz, bz1 HB GE259⟩
      ·
       replace c16 := Bool.eq_false_iff.mpr c16
       subst c16
       rw [if_neg nt_] at H
       have H' := Aside0.mk H
       clear H
       go_wp2
       repeat (go_quiet (fail); try go_wp2)
       go_roundg kj7
       case measure => have := HK1.out; have := HJ7.out; omega
       case rel => exact ⟨(wrap64 (x6_1 + 1)), rq, H', ⟨by have := HK1.out; have := HJ7.out; omega⟩, ⟨kz BK259⟩, ⟨bz1 HB GE259⟩⟩
   ·
    rw [if_neg c7] at H
    have c7b0 : decide (x6_1 < (l1.length : Int)) = false := decide_eq_false c7
    clear c7
    obtain rfl := Option.some.inj H
    go_wp2
    repeat (go_quiet (fail); try go_wp2)
    go_ret
    exact ⟨rz, bz1 HB GE259⟩
end Go.Proofs.Ytndmhmekmkgccaa.PFnExactSetValid
end
section
namespace Go.Proofs.Ytndmhmekmkgccaa.PFnExactSetValid
open Go.RowKit Go.Proofs.YtndmhmekmkgccaaW.PrintWords Go.Proofs.YtndmhmekmkgccaaW.PrintLast Go.Proofs.YtndmhmekmkgccaaW.PrintMore
attribute [local go_sem] max2_int min2_int max_two min_two max_three min_three max_four min_four   -- for this text's walks alone
set_option linter.unusedVariables false
set_option linter.unusedSimpArgs false
set_option maxHeartbeats 8000000 in
set_option maxRecDepth 100000 in
theorem impl_size.calls (k : Nat) (A0 : Option Addr) (c0 : Nat) (l0 : List (IVar)) (r : Int) (w : World) (hr0 : Kd.C k141 w A0 l0.length l0) (hc0 : l0.length ≤ c0) (h : impl_size.f k l0 = some r) :
  Calls Try.prog 93 #[.slice A0 l0.length c0] w fun e w' => e = .returned (.int .i64 r) ∧ Below w.heap.size w w' := by
 have hu141 := Try.underlying141
 have HR0 := Aside0.mk hr0
 have HC0 := Aside0.mk hc0
 clear hr0 hc0
 have HB := Aside0.mk (Below.refl w.heap.size w)
 have H : (impl_size.l0 k 1 l0 (l0.length : Int) 0) = some r := h
 clear h
 have H' := Aside0.mk H
 clear H
 go_enter Try.func93, Try.ntmps93
 go_wp2
 go_loopg [3, 8] k (fun kq v3 v8 w' => ∃ (x3_1 : Int) (x8_1 : Int), v3 = .int .i64 x3_1 ∧ v8 = .int .i64 x8_1 ∧ Aside0 (impl_size.l0 kq x3_1 l0 (l0.length : Int) x8_1 = some r) ∧ Aside0 (kq ≤ k) ∧ Aside0 (Below w.heap.size w w'))
 case atStart => exact ⟨(1), (0), rq, rq, H', ⟨Nat.le_refl _⟩, ⟨bz HB⟩⟩
 case round =>
  clear H'
  obtain ⟨x3_1, x8_1, rfl, rfl, HA, HK1, HB⟩ := hrel
  cases gk with
  | zero => exact absurd HA.out (by simp [impl_size.l0])
  | succ k1 =>
   have H := HA.out
   clear HA
   simp only [impl_size.l0] at H
   by_cases c2 : x8_1 < (l0.length : Int)
   ·
    rw [if_pos c2] at H
    have c2b0 : decide (x8_1 < (l0.length : Int)) = true := decide_eq_true c2
    clear c2
    by_cases c3 : 0 ≤ x8_1
    ·
     rw [if_pos c3] at H
     have c3b0 : decide (0 ≤ x8_1) = true := decide_eq_true c3
     clear c3
     by_cases c4 : x8_1 < (l0.length : Int)
     ·
      rw [if_pos c4] at H
      have c4b0 : decide (x8_1 < (l0.length : Int)) = true := decide_eq_true c4
      clear c4
      have H' := Aside0.mk H
      clear H
      have p265 : 0 ≤ (x8_1 : Int) := dz
      have q265 : x8_1 < (l0.length : Int) := dz
      obtain ⟨ad265, e265, hx265_0, hx265_1, hx265_2⟩ := at_IVar HR0.out x8_1 p265 q265
      cases e265
      replace hx265_0 := xz HB hx265_0
      replace hx265_1 := xz HB hx265_1
      replace hx265_2 := xz HB hx265_2
      replace p265 := eq_true p265
      replace q265 := eq_true q265
      go_wp2_with (first | ((with_reducible refine gate_dst (N := 5) rfl ?_); refine box_event ?hg (N := 5) ?hd (cs := #[.int .i64 0, .int .i64 0, .int .i64 0]) (t := 141) ?hr ?_; (case hd => rfl); (case hg => rfl); (case hr => first | (go_simp; done) | (go_simp; rfl)); intro gb266 hg w5 hbox hb; have n0_ := Aside0.mk (below_step (bz HB) hb); have n1_ := Aside0.mk (hbox); have n2_ := Aside0.mk ((by rw [hg]; exact (below_size (bz HB)) : w.heap.size ≤ gb266)); have n3_ := Aside0.mk ((by rw [hg]; exact (below_size (bz HB)) : w.heap.size ≤ gb266)); clear HB; have HB := n0_; have BK266 := n1_; have GW266 := n2_; have GE266 := n3_; clear n0_ n1_ n2_ n3_; clear hb hbox hg; have hcz6_0 : w5.cell? ⟨gb266, 0, none⟩ = some (.int .i64 0) := (blk_cell BK266.out 0).trans rfl; have hcz6_1 : w5.cell? ⟨gb266, 1, none⟩ = some (.int .i64 0) := (blk_cell BK266.out 1).trans rfl; have hcz6_2 : w5.cell? ⟨gb266, 2, none⟩ = some (.int .i64 0) := (blk_cell BK266.out 2).trans rfl; have hfz6_0 := blk_frozen BK266.out 0; have hfz6_1 := blk_frozen BK266.out 1; have hfz6_2 := blk_frozen BK266.out 2))
      go_roundg k1
      case measure => have := HK1.out; omega
      case rel => exact ⟨(wrap64 (x3_1 * (wrap64 ((wrap64 (((rd_IVar l0 x8_1).f1) - ((rd_IVar l0 x8_1).f0))) + 1)))), (wrap64 (x8_1 + 1)), rq, rq, H', ⟨by have := HK1.out; omega⟩, ⟨bz1 HB GE266⟩⟩
     ·
      rw [if_neg c4] at H
      exact absurd H (by simp)
    ·
     rw [if_neg c3] at H
     exact absurd H (by simp)
   ·
    rw [if_neg c2] at H
    have c2b0 : decide (x8_1 < (l0.length : Int)) = false := decide_eq_false c2
    clear c2
    obtain rfl := Option.some.inj H
    go_wp2
    go_ret
    exact ⟨rz, bz HB⟩
end Go.Proofs.Ytndmhmekmkgccaa.PFnExactSetValid
end
section
namespace Go.Proofs.Ytndmhmekmkgccaa.PFnExactSetValid
open Go.RowKit Go.Proofs.YtndmhmekmkgccaaW.PrintWords Go.Proofs.YtndmhmekmkgccaaW.PrintLast Go.Proofs.YtndmhmekmkgccaaW.PrintMore
attribute [local go_sem] max2_int min2_int max_two min_two max_three min_three max_four min_four   -- for this text's walks alone
set_option linter.unusedVariables false
set_option linter.unusedSimpArgs false
set_option maxHeartbeats 8000000 in
set_option maxRecDepth 100000 in
theorem impl_in.calls (a0 : Int) (a1 : Int) (a2 : Int) (r : Bool) (w : World) (h : impl_in.f a0 a1 a2 = some r) :
  Calls Try.prog 96 #[.int .i64 a0, .int .i64 a1, .int .i64 a2] w fun e w' => e = .returned (.bool r) ∧ Drawn0 w w' := by
 have H : (if a0 ≥ a1 then (some (decide (a0 ≤ a2))) else (some false)) = some r := h
 clear h
 by_cases c4 : a0 ≥ a1
 ·
  rw [if_pos c4] at H
  have c4b0 : decide (a1 ≤ a0) = true := decide_eq_true c4
  clear c4
  obtain rfl := Option.some.inj H
  go_enter Try.func96, Try.ntmps96
  go_wp2
  go_ret
  exact ⟨by first | rfl | (simp; done) | (simp [*]; done), by repeat (first | exact Drawn0.refl _ | apply Drawn0.step)⟩
 ·
  rw [if_neg c4] at H
  have c4b0 : decide (a1 ≤ a0) = false := decide_eq_false c4
  clear c4
  obtain rfl := Option.some.inj H
  go_enter Try.func96, Try.ntmps96
  go_wp2
  go_ret
  exact ⟨by first | rfl | (simp; done) | (simp [*]; done), by repeat (first | exact Drawn0.refl _ | apply Drawn0.step)⟩
end Go.Proofs.Ytndmhmekmkgccaa.PFnExactSetValid
end
section
namespace Go.Proofs.Ytndmhmekmkgccaa.PFnExactSetValid
open Go.RowKit Go.Proofs.YtndmhmekmkgccaaW.PrintWords Go.Proofs.YtndmhmekmkgccaaW.PrintLast Go.Proofs.YtndmhmekmkgccaaW.PrintMore
attribute [local go_sem] max2_int min2_int max_two min_two max_three min_three max_four min_four   -- for this text's walks alone
set_option linter.unusedVariables false
set_option linter.unusedSimpArgs false
set_option maxHeartbeats 8000000 in
set_option maxRecDepth 100000 in
theorem impl_varOk.calls (a0_0 : Int) (a0_1 : Int) (a0_2 : Int) (r : Bool) (w : World) (h : impl_varOk.f a0_0 a0_1 a0_2 = some r) :
  Calls Try.prog 120 #[.agg #[.int .i64 a0_0, .int .i64 a0_1, .int .i64 a0_2]] w fun e w' => e = .returned (.bool r) ∧ Below w.heap.size w w' := by
 have hu141 := Try.underlying141
 have HB := Aside0.mk (Below.refl w.heap.size w)
 have H : ((impl_in.f a0_0 (-9999) 9999).bind fun t268 => (if t268 = true then ((impl_in.f a0_1 a0_0 9999).bind fun t269 => (if t269 = true then (if (wrap64 (a0_1 - a0_0)) < 20 then ((impl_in.f a0_2 a0_0 a0_1).bind fun t270 => (some t270)) else (some false)) else (some false))) else (some false))) = some r := h
 clear h
 replace H := Option.bind_eq_some_iff.mp H
 obtain ⟨t268, A20, H⟩ := H
 have A2 := Aside0.mk A20
 clear A20
 by_cases c3 : t268 = true
 ·
  subst c3
  rw [if_pos rfl] at H
  replace H := Option.bind_eq_some_iff.mp H
  obtain ⟨t269, A40, H⟩ := H
  have A4 := Aside0.mk A40
  clear A40
  by_cases c5 : t269 = true
  ·
   subst c5
   rw [if_pos rfl] at H
   by_cases c6 : (wrap64 (a0_1 - a0_0)) < 20
   ·
    rw [if_pos c6] at H
    have c6b0 : decide ((wrap64 (a0_1 - a0_0)) < 20) = true := decide_eq_true c6
    clear c6
    replace H := Option.bind_eq_some_iff.mp H
    obtain ⟨t270, A70, H⟩ := H
    have A7 := Aside0.mk A70
    clear A70
    obtain rfl := Option.some.inj H
    go_enter Try.func120, Try.ntmps120
    go_wp2_with (first | ((with_reducible refine gate_dst (N := 1) rfl ?_); refine box_event ?hg (N := 1) ?hd (cs := #[.int .i64 a0_0, .int .i64 a0_1, .int .i64 a0_2]) (t := 141) ?hr ?_; (case hd => rfl); (case hg => rfl); (case hr => first | (go_simp; done) | (go_simp; rfl)); intro gb267 hg w8 hbox hb; have n0_ := Aside0.mk (below_step (bz HB) hb); have n1_ := Aside0.mk (hbox); have n2_ := Aside0.mk ((by rw [hg]; exact (below_size (bz HB)) : w.heap.size ≤ gb267)); have n3_ := Aside0.mk ((by rw [hg]; exact (below_size (bz HB)) : w.heap.size ≤ gb267)); clear HB; have HB := n0_; have BK267 := n1_; have GW267 := n2_; have GE267 := n3_; clear n0_ n1_ n2_ n3_; clear hb hbox hg; have hcz9_0 : w8.cell? ⟨gb267, 0, none⟩ = some (.int .i64 a0_0) := (blk_cell BK267.out 0).trans rfl; have hcz9_1 : w8.cell? ⟨gb267, 1, none⟩ = some (.int .i64 a0_1) := (blk_cell BK267.out 1).trans rfl; have hcz9_2 : w8.cell? ⟨gb267, 2, none⟩ = some (.int .i64 a0_2) := (blk_cell BK267.out 2).trans rfl; have hfz9_0 := blk_frozen BK267.out 0; have hfz9_1 := blk_frozen BK267.out 1; have hfz9_2 := blk_frozen BK267.out 2) | ((with_reducible refine gate_callee (f := 96) rfl ?_); refine goesL_ (some 5) rfl rfl Try.func96 (by kernel_rfl) rfl #[.int .i64 a0_0, .int .i64 (-9999), .int .i64 9999] rfl az ?_; (with_reducible refine (impl_in.calls a0_0 (-9999) 9999 true _ A2.out).mono ?_); rintro e w' ⟨rfl, ⟨nd, rfl⟩⟩; refine ⟨_, rfl, ?_⟩) | (go_at_call 96; (with_reducible refine (impl_in.calls a0_1 a0_0 9999 true _ A4.out).mono ?_); rintro e w' ⟨rfl, ⟨nd, rfl⟩⟩) | (go_at_call 96; (with_reducible refine (impl_in.calls a0_2 a0_0 a0_1 t270 _ A7.out).mono ?_); rintro e w' ⟨rfl, ⟨nd, rfl⟩⟩))
    go_ret
    exact ⟨rz, bz1 HB GE267⟩
   ·
    rw [if_neg c6] at H
    have c6b0 : decide ((wrap64 (a0_1 - a0_0)) < 20) = false := decide_eq_false c6
    clear c6
    obtain rfl := Option.some.inj H
    go_enter Try.func120, Try.ntmps120
    go_wp2_with (first | ((with_reducible refine gate_dst (N := 1) rfl ?_); refine box_event ?hg (N := 1) ?hd (cs := #[.int .i64 a0_0, .int .i64 a0_1, .int .i64 a0_2]) (t := 141) ?hr ?_; (case hd => rfl); (case hg => rfl); (case hr => first | (go_simp; done) | (go_simp; rfl)); intro gb267 hg w10 hbox hb; have n0_ := Aside0.mk (below_step (bz HB) hb); have n1_ := Aside0.mk (hbox); have n2_ := Aside0.mk ((by rw [hg]; exact (below_size (bz HB)) : w.heap.size ≤ gb267)); have n3_ := Aside0.mk ((by rw [hg]; exact (below_size (bz HB)) : w.heap.size ≤ gb267)); clear HB; have HB := n0_; have BK267 := n1_; have GW267 := n2_; have GE267 := n3_; clear n0_ n1_ n2_ n3_; clear hb hbox hg; have hcz11_0 : w10.cell? ⟨gb267, 0, none⟩ = some (.int .i64 a0_0) := (blk_cell BK267.out 0).trans rfl; have hcz11_1 : w10.cell? ⟨gb267, 1, none⟩ = some (.int .i64 a0_1) := (blk_cell BK267.out 1).trans rfl; have hcz11_2 : w10.cell? ⟨gb267, 2, none⟩ = some (.int .i64 a0_2) := (blk_cell BK267.out 2).trans rfl; have hfz11_0 := blk_frozen BK267.out 0; have hfz11_1 := blk_frozen BK267.out 1; have hfz11_2 := blk_frozen BK267.out 2) | ((with_reducible refine gate_callee (f := 96) rfl ?_); refine goesL_ (some 5) rfl rfl Try.func96 (by kernel_rfl) rfl #[.int .i64 a0_0, .int .i64 (-9999), .int .i64 9999] rfl az ?_; (with_reducible refine (impl_in.calls a0_0 (-9999) 9999 true _ A2.out).mono ?_); rintro e w' ⟨rfl, ⟨nd, rfl⟩⟩; refine ⟨_, rfl, ?_⟩) | (go_at_call 96; (with_reducible refine (impl_in.calls a0_1 a0_0 9999 true _ A4.out).mono ?_); rintro e w' ⟨rfl, ⟨nd, rfl⟩⟩))
    go_ret
    exact ⟨rz, bz1 HB GE267⟩
  ·
   replace c5 := Bool.eq_false_iff.mpr c5
   subst c5
   rw [if_neg nt_] at H
   obtain rfl := Option.some.inj H
   go_enter Try.func120, Try.ntmps120
   go_wp2_with (first | ((with_reducible refine gate_dst (N := 1) rfl ?_); refine box_event ?hg (N := 1) ?hd (cs := #[.int .i64 a0_0, .int .i64 a0_1, .int .i64 a0_2]) (t := 141) ?hr ?_; (case hd => rfl); (case hg => rfl); (case hr => first | (go_simp; done) | (go_simp; rfl)); intro gb267 hg w12 hbox hb; have n0_ := Aside0.mk (below_step (bz HB) hb); have n1_ := Aside0.mk (hbox); have n2_ := Aside0.mk ((by rw [hg]; exact (below_size (bz HB)) : w.heap.size ≤ gb267)); have n3_ := Aside0.mk ((by rw [hg]; exact (below_size (bz HB)) : w.heap.size ≤ gb267)); clear HB; have HB := n0_; have BK267 := n1_; have GW267 := n2_; have GE267 := n3_; clear n0_ n1_ n2_ n3_; clear hb hbox hg; have hcz13_0 : w12.cell? ⟨gb267, 0, none⟩ = some (.int .i64 a0_0) := (blk_cell BK267.out 0).trans rfl; have hcz13_1 : w12.cell? ⟨gb267, 1, none⟩ = some (.int .i64 a0_1) := (blk_cell BK267.out 1).trans rfl; have hcz13_2 : w12.cell? ⟨gb267, 2, none⟩ = some (.int .i64 a0_2) := (blk_cell BK267.out 2).trans rfl; have hfz13_0 := blk_frozen BK267.out 0; have hfz13_1 := blk_frozen BK267.out 1; have hfz13_2 := blk_frozen BK267.out 2) | ((with_reducible refine gate_callee (f := 96) rfl ?_); refine goesL_ (some 5) rfl rfl Try.func96 (by kernel_rfl) rfl #[.int .i64 a0_0, .int .i64 (-9999), .int .i64 9999] rfl az ?_; (with_reducible refine (impl_in.calls a0_0 (-9999) 9999 true _ A2.out).mono ?_); rintro e w' ⟨rfl, ⟨nd, rfl⟩⟩; refine ⟨_, rfl, ?_⟩) | (go_at_call 96; (with_reducible refine (impl_in.calls a0_1 a0_0 9999 false _ A4.out).mono ?_); rintro e w' ⟨rfl, ⟨nd, rfl⟩⟩))
   go_ret
   exact ⟨rz, bz1 HB GE267⟩
 ·
  replace c3 := Bool.eq_false_iff.mpr c3
  subst c3
  rw [if_neg nt_] at H
  obtain rfl := Option.some.inj H
  go_enter Try.func120, Try.ntmps120
  go_wp2_with (first | ((with_reducible refine gate_dst (N := 1) rfl ?_); refine box_event ?hg (N := 1) ?hd (cs := #[.int .i64 a0_0, .int .i64 a0_1, .int .i64 a0_2]) (t := 141) ?hr ?_; (case hd => rfl); (case hg => rfl); (case hr => first | (go_simp; done) | (go_simp; rfl)); intro gb267 hg w14 hbox hb; have n0_ := Aside0.mk (below_step (bz HB) hb); have n1_ := Aside0.mk (hbox); have n2_ := Aside0.mk ((by rw [hg]; exact (below_size (bz HB)) : w.heap.size ≤ gb267)); have n3_ := Aside0.mk ((by rw [hg]; exact (below_size (bz HB)) : w.heap.size ≤ gb267)); clear HB; have HB := n0_; have BK267 := n1_; have GW267 := n2_; have GE267 := n3_; clear n0_ n1_ n2_ n3_; clear hb hbox hg; have hcz15_0 : w14.cell? ⟨gb267, 0, none⟩ = some (.int .i64 a0_0) := (blk_cell BK267.out 0).trans rfl; have hcz15_1 : w14.cell? ⟨gb267, 1, none⟩ = some (.int .i64 a0_1) := (blk_cell BK267.out 1).trans rfl; have hcz15_2 : w14.cell? ⟨gb267, 2, none⟩ = some (.int .i64 a0_2) := (blk_cell BK267.out 2).trans rfl; have hfz15_0 := blk_frozen BK267.out 0; have hfz15_1 := blk_frozen BK267.out 1; have hfz15_2 := blk_frozen BK267.out 2) | ((with_reducible refine gate_callee (f := 96) rfl ?_); refine goesL_ (some 5) rfl rfl Try.func96 (by kernel_rfl) rfl #[.int .i64 a0_0, .int .i64 (-9999), .int .i64 9999] rfl az ?_; (with_reducible refine (impl_in.calls a0_0 (-9999) 9999 false _ A2.out).mono ?_); rintro e w' ⟨rfl, ⟨nd, rfl⟩⟩; refine ⟨_, rfl, ?_⟩))
  go_ret
  exact ⟨rz, bz1 HB GE267⟩
end Go.Proofs.Ytndmhmekmkgccaa.PFnExactSetValid
end
section
namespace Go.Proofs.Ytndmhmekmkgccaa.PFnExactSetValid
open Go.RowKit Go.Proofs.YtndmhmekmkgccaaW.PrintWords Go.Proofs.YtndmhmekmkgccaaW.PrintLast Go.Proofs.YtndmhmekmkgccaaW.PrintMore
attribute [local go_sem] max2_int min2_int max_two min_two max_three min_three max_four min_four   -- for this text's walks alone
set_option linter.unusedVariables false
set_option linter.unusedSimpArgs false
set_option maxHeartbeats 8000000 in
set_option maxRecDepth 100000 in
theorem impl_SystemValid_1.calls (a0_0 : Int) (a0_1 : Int) (a0_2 : Int) (r : Bool) (w : World) (h : impl_SystemValid_1.f a0_0 a0_1 a0_2 = some r) :
  Calls Try.prog 119 #[.agg #[.int .i64 a0_0, .int .i64 a0_1, .int .i64 a0_2]] w fun e w' => e = .returned (.bool r) ∧ Below w.heap.size w w' := by
 have hu141 := Try.underlying141
 have HB := Aside0.mk (Below.refl w.heap.size w)
 have H : ((impl_varOk.f a0_0 a0_1 a0_2).bind fun t301 => (some (!t301))) = some r := h
 clear h
 replace H := Option.bind_eq_some_iff.mp H
 obtain ⟨t301, A20, H⟩ := H
 have A2 := Aside0.mk A20
 clear A20
 obtain rfl := Option.some.inj H
 go_enter Try.func119, Try.ntmps119
 go_wp2_with (first | ((with_reducible refine gate_dst (N := 1) rfl ?_); refine box_event ?hg (N := 1) ?hd (cs := #[.int .i64 a0_0, .int .i64 a0_1, .int .i64 a0_2]) (t := 141) ?hr ?_; (case hd => rfl); (case hg => rfl); (case hr => first | (go_simp; done) | (go_simp; rfl)); intro gb300 hg w3 hbox hb; have n0_ := Aside0.mk (below_step (bz HB) hb); have n1_ := Aside0.mk (hbox); have n2_ := Aside0.mk ((by rw [hg]; exact (below_size (bz HB)) : w.heap.size ≤ gb300)); have n3_ := Aside0.mk ((by rw [hg]; exact (below_size (bz HB)) : w.heap.size ≤ gb300)); clear HB; have HB := n0_; have BK300 := n1_; have GW300 := n2_; have GE300 := n3_; clear n0_ n1_ n2_ n3_; clear hb hbox hg; have hcz4_0 : w3.cell? ⟨gb300, 0, none⟩ = some (.int .i64 a0_0) := (blk_cell BK300.out 0).trans rfl; have hcz4_1 : w3.cell? ⟨gb300, 1, none⟩ = some (.int .i64 a0_1) := (blk_cell BK300.out 1).trans rfl; have hcz4_2 : w3.cell? ⟨gb300, 2, none⟩ = some (.int .i64 a0_2) := (blk_cell BK300.out 2).trans rfl; have hfz4_0 := blk_frozen BK300.out 0; have hfz4_1 := blk_frozen BK300.out 1; have hfz4_2 := blk_frozen BK300.out 2) | ((with_reducible refine gate_callee (f := 120) rfl ?_); refine goesL_ (some 4) rfl rfl Try.func120 (by kernel_rfl) rfl #[.agg #[.int .i64 a0_0, .int .i64 a0_1, .int .i64 a0_2]] rfl az ?_; (with_reducible refine (impl_varOk.calls a0_0 a0_1 a0_2 t301 _ A2.out).mono ?_); rintro e w5 ⟨rfl, hb⟩; refine ⟨_, rfl, ?_⟩; replace BK300 := Aside0.mk (blk_below (g := gb300) (o := .cells #[.int .i64 a0_0, .int .i64 a0_1, .int .i64 a0_2] 141 (0, 0)) (kz BK300) hb); replace HB := Aside0.mk (below_step (bz1 HB GE300) hb); clear hb))
 go_ret
 exact ⟨rz, bz1 HB GE300⟩
end Go.Proofs.Ytndmhmekmkgccaa.PFnExactSetValid
end
section
namespace Go.Proofs.Ytndmhmekmkgccaa.PFnExactSetValid
open Go.RowKit Go.Proofs.YtndmhmekmkgccaaW.PrintWords Go.Proofs.YtndmhmekmkgccaaW.PrintLast Go.Proofs.YtndmhmekmkgccaaW.PrintMore
attribute [local go_sem] max2_int min2_int max_two min_two max_three min_three max_four min_four   -- for this text's walks alone
set_option linter.unusedVariables false
set_option linter.unusedSimpArgs false
set_option maxHeartbeats 8000000 in
set_option maxRecDepth 100000 in
theorem slices_IndexFunc_at_impl_SystemValid_1.calls (k : Nat) (A0 : Option Addr) (c0 : Nat) (l0 : List (IVar))  (r : Int) (w : World) (hr0 : Kd.C k141 w A0 l0.length l0) (hc0 : l0.length ≤ c0) (h : slices_IndexFunc_at_impl_SystemValid_1.f k l0 = some r) :
  Calls Try.prog 159 #[.slice A0 l0.length c0, .func (.func 119) #[] #[]] w fun e w' => e = .returned (.int .i64 r) ∧ Below w.heap.size w w' := by
 have hu141 := Try.underlying141
 have HR0 := Aside0.mk hr0
 have HC0 := Aside0.mk hc0
 clear hr0 hc0
 have HB := Aside0.mk (Below.refl w.heap.size w)
 have H : (slices_IndexFunc_at_impl_SystemValid_1.l0 k l0 (l0.length : Int) 0) = some r := h
 clear h
 have H' := Aside0.mk H
 clear H
 go_enter Try.func159, Try.ntmps159
 go_wp2
 go_loopg [8] k (fun kq v8 w' => ∃ (x8_1 : Int), v8 = .int .i64 x8_1 ∧ Aside0 (slices_IndexFunc_at_impl_SystemValid_1.l0 kq l0 (l0.length : Int) x8_1 = some r) ∧ Aside0 (kq ≤ k) ∧ Aside0 (Below w.heap.size w w'))
 case atStart => exact ⟨(0), rq, H', ⟨Nat.le_refl _⟩, ⟨bz HB⟩⟩
 case round =>
  clear H'
  try clear p2
  obtain ⟨x8_1, rfl, HA, HK1, HB⟩ := hrel
  cases gk with
  | zero => exact absurd HA.out (by simp [slices_IndexFunc_at_impl_SystemValid_1.l0])
  | succ k1 =>
   have H := HA.out
   clear HA
   simp only [slices_IndexFunc_at_impl_SystemValid_1.l0] at H
   by_cases c3 : x8_1 < (l0.length : Int)
   ·
    rw [if_pos c3] at H
    have c3b0 : decide (x8_1 < (l0.length : Int)) = true := decide_eq_true c3
    clear c3
    by_cases c4 : 0 ≤ x8_1
    ·
     rw [if_pos c4] at H
     have c4b0 : decide (0 ≤ x8_1) = true := decide_eq_true c4
     clear c4
     by_cases c5 : x8_1 < (l0.length : Int)
     ·
      rw [if_pos c5] at H
      have c5b0 : decide (x8_1 < (l0.length : Int)) = true := decide_eq_true c5
      clear c5
      replace H := Option.bind_eq_some_iff.mp H
      obtain ⟨t303, A60, H⟩ := H
      have A6 := Aside0.mk A60
      clear A60
      by_cases c7 : t303 = true
      ·
       subst c7
       rw [if_pos rfl] at H
       obtain rfl := Option.some.inj H
       have p302 : 0 ≤ (x8_1 : Int) := dz
       have q302 : x8_1 < (l0.length : Int) := dz
       obtain ⟨ad302, e302, hx302_0, hx302_1, hx302_2⟩ := at_IVar HR0.out x8_1 p302 q302
       cases e302
       replace hx302_0 := xz HB hx302_0
       replace hx302_1 := xz HB hx302_1
       replace hx302_2 := xz HB hx302_2
       replace p302 := eq_true p302
       replace q302 := eq_true q302
       go_wp2_with (first | ((with_reducible refine gate_value (cal := .tmp 11) rfl ?_); refine goesV_ (some 16) rfl rfl Try.func119 (by kernel_rfl) rfl #[.agg #[.int .i64 ((rd_IVar l0 x8_1).f0), .int .i64 ((rd_IVar l0 x8_1).f1), .int .i64 ((rd_IVar l0 x8_1).f2)]] rfl rfl az ?_; (with_reducible refine (impl_SystemValid_1.calls ((rd_IVar l0 x8_1).f0) ((rd_IVar l0 x8_1).f1) ((rd_IVar l0 x8_1).f2) true _ A6.out).mono ?_); rintro e w8 ⟨rfl, hb⟩; refine ⟨_, rfl, ?_⟩; replace HB := Aside0.mk (below_step (bz HB) hb); clear hb))
       go_ret
       exact ⟨rz, bz HB⟩
      ·
       replace c7 := Bool.eq_false_iff.mpr c7
       subst c7
       rw [if_neg nt_] at H
       have H' := Aside0.mk H
       clear H
       have p302 : 0 ≤ (x8_1 : Int) := dz
       have q302 : x8_1 < (l0.length : Int) := dz
       obtain ⟨ad302, e302, hx302_0, hx302_1, hx302_2⟩ := at_IVar HR0.out x8_1 p302 q302
       cases e302
       replace hx302_0 := xz HB hx302_0
       replace hx302_1 := xz HB hx302_1
       replace hx302_2 := xz HB hx302_2
       replace p302 := eq_true p302
       replace q302 := eq_true q302
       go_wp2_with (first | ((with_reducible refine gate_value (cal := .tmp 11) rfl ?_); refine goesV_ (some 16) rfl rfl Try.func119 (by kernel_rfl) rfl #[.agg #[.int .i64 ((rd_IVar l0 x8_1).f0), .int .i64 ((rd_IVar l0 x8_1).f1), .int .i64 ((rd_IVar l0 x8_1).f2)]] rfl rfl az ?_; (with_reducible refine (impl_SystemValid_1.calls ((rd_IVar l0 x8_1).f0) ((rd_IVar l0 x8_1).f1) ((rd_IVar l0 x8_1).f2) false _ A6.out).mono ?_); rintro e w9 ⟨rfl, hb⟩; refine ⟨_, rfl, ?_⟩; replace HB := Aside0.mk (below_step (bz HB) hb); clear hb))
       go_roundg k1
       case measure => have := HK1.out; omega
       case rel => exact ⟨(wrap64 (x8_1 + 1)), rq, H', ⟨by have := HK1.out; omega⟩, ⟨bz HB⟩⟩
     ·
      rw [if_neg c5] at H
      exact absurd H (by simp)
    ·
     rw [if_neg c4] at H
     exact absurd H (by simp)
   ·
    rw [if_neg c3] at H
    have c3b0 : decide (x8_1 < (l0.length : Int)) = false := decide_eq_false c3
    clear c3
    obtain rfl := Option.some.inj H
    go_wp2
    go_ret
    exact ⟨rz, bz HB⟩
end Go.Proofs.Ytndmhmekmkgccaa.PFnExactSetValid
end
section
namespace Go.Proofs.Ytndmhmekmkgccaa.PFnExactSetValid
open Go.RowKit Go.Proofs.YtndmhmekmkgccaaW.PrintWords Go.Proofs.YtndmhmekmkgccaaW.PrintLast Go.Proofs.YtndmhmekmkgccaaW.PrintMore
attribute [local go_sem] max2_int min2_int max_two min_two max_three min_three max_four min_four   -- for this text's walks alone
set_option linter.unusedVariables false
set_option linter.unusedSimpArgs false
set_option maxHeartbeats 8000000 in
set_option maxRecDepth 100000 in
theorem slices_ContainsFunc_at_impl_SystemValid_1.calls (k : Nat) (A0 : Option Addr) (c0 : Nat) (l0 : List (IVar))  (r : Bool) (w : World) (hr0 : Kd.C k141 w A0 l0.length l0) (hc0 : l0.length ≤ c0) (h : slices_ContainsFunc_at_impl_SystemValid_1.f k l0 = some r) :
  Calls Try.prog 118 #[.slice A0 l0.length c0, .func (.func 119) #[] #[]] w fun e w' => e = .returned (.bool r) ∧ Below w.heap.size w w' := by
 have HR0 := Aside0.mk hr0
 have HC0 := Aside0.mk hc0
 clear hr0 hc0
 have HB := Aside0.mk (Below.refl w.heap.size w)
 have H : ((slices_IndexFunc_at_impl_SystemValid_1.f k l0).bind fun t304 => (some (decide (t304 ≥ 0)))) = some r := h
 clear h
 replace H := Option.bind_eq_some_iff.mp H
 obtain ⟨t304, A30, H⟩ := H
 have A3 := Aside0.mk A30
 clear A30
 obtain rfl := Option.some.inj H
 go_enter Try.func118, Try.ntmps118
 go_wp2_with (first | ((with_reducible refine gate_callee (f := 159) rfl ?_); refine goesL_ (some 7) rfl rfl Try.func159 (by kernel_rfl) rfl #[.slice A0 l0.length c0, .func (.func 119) #[] #[]] rfl az ?_; (with_reducible refine (slices_IndexFunc_at_impl_SystemValid_1.calls k _ _ l0  t304 _ ?side1 HC0.out A3.out).mono ?_); (case side1 => exact cz0 HR0); rintro e w4 ⟨rfl, hb⟩; refine ⟨_, rfl, ?_⟩; replace HB := Aside0.mk (below_step (bz HB) hb); clear hb))
 go_ret
 exact ⟨rz, bz HB⟩
end Go.Proofs.Ytndmhmekmkgccaa.PFnExactSetValid
end
section
namespace Go.Proofs.Ytndmhmekmkgccaa.PFnExactSetValid
open Go.RowKit Go.Proofs.YtndmhmekmkgccaaW.PrintWords Go.Proofs.YtndmhmekmkgccaaW.PrintLast Go.Proofs.YtndmhmekmkgccaaW.PrintMore
attribute [local go_sem] max2_int min2_int max_two min_two max_three min_three max_four min_four   -- for this text's walks alone
set_option linter.unusedVariables false
set_option linter.unusedSimpArgs false
set_option maxHeartbeats 8000000 in
set_option maxRecDepth 100000 in
theorem impl_parts.calls (k : Nat) (a0 : Int) (r1 : Int) (r2 : Int) (r3 : Int) (w : World) (h : impl_parts.f k a0 = some (r1, r2, r3)) :
  Calls Try.prog 168 #[.int .i64 a0] w fun e w' => e = .returned (.tuple #[.int .i64 r1, .int .i64 r2, .int .i64 r3]) ∧ Drawn0 w w' := by
 have H : (if a0 = 2 then (impl_parts.j0 k a0 (a0 == 2)) else (if a0 = 3 then (impl_parts.j0 k a0 (a0 == 3)) else (impl_parts.j0 k a0 (a0 == 4)))) = some (r1, r2, r3) := h
 clear h
 have HC2 := Aside0.mk H
 clear H
 go_enter Try.func168, Try.ntmps168
 go_upto_if 6 with (fail)
 go_cut [6] (fun v6 wc => ∃ (kq : Nat) (x6_1 : Bool), v6 = .bool x6_1 ∧ Aside0 (impl_parts.j0 kq a0 x6_1 = some (r1, r2, r3)) ∧ Aside0 (kq ≤ k) ∧ Drawn0 w wc)
 case first =>
  have H := HC2.out
  clear HC2
  by_cases c3 : a0 = 2
  ·
   rw [if_pos c3] at H
   have c3b0 : (a0 == 2) = true := beq_iff_eq.mpr c3
   have c3b1 : (a0 != 2) = false := bne_eq_false_iff_eq.mpr c3
   clear c3
   (first | rw [c3b0] | (simp only [i64_w, i32_w]; rw [c3b0]) | skip)
   have H' := Aside0.mk H
   clear H
   go_wp2
   go_meet
   case rel => exact ⟨_, ((a0 == 2)), rq, H', ⟨by first | omega | exact Nat.le_refl _⟩, by repeat (first | exact Drawn0.refl _ | apply Drawn0.step)⟩
  ·
   rw [if_neg c3] at H
   have c3b0 : (a0 == 2) = false := beq_eq_false_iff_ne.mpr c3
   have c3b1 : (a0 != 2) = true := bne_iff_ne.mpr c3
   (first | rw [c3b0] | (simp only [i64_w, i32_w]; rw [c3b0]) | skip)
   by_cases c4 : a0 = 3
   ·
    rw [if_pos c4] at H
    have c4b0 : (a0 == 3) = true := beq_iff_eq.mpr c4
    have c4b1 : (a0 != 3) = false := bne_eq_false_iff_eq.mpr c4
    clear c4
    have H' := Aside0.mk H
    clear H
    go_wp2
    go_meet
    case rel => exact ⟨_, ((a0 == 3)), rq, H', ⟨by first | omega | exact Nat.le_refl _⟩, by repeat (first | exact Drawn0.refl _ | apply Drawn0.step)⟩
   ·
    rw [if_neg c4] at H
    have c4b0 : (a0 == 3) = false := beq_eq_false_iff_ne.mpr c4
    have c4b1 : (a0 != 3) = true := bne_iff_ne.mpr c4
    have H' := Aside0.mk H
    clear H
    go_wp2
    go_meet
    case rel => exact ⟨_, ((a0 == 4)), rq, H', ⟨by first | omega | exact Nat.le_refl _⟩, by repeat (first | exact Drawn0.refl _ | apply Drawn0.step)⟩
 case rest =>
  clear HC2
  try clear c1
  try clear p2
  try clear c3
  try clear c3b0
  try clear c3b1
  try clear c4
  try clear c4b0
  try clear c4b1
  obtain ⟨kq, x6_1, rfl, HA, HJ1, ⟨mc1, rfl⟩⟩ := hcut
  cases kq with
  | zero => exact absurd HA.out (by simp [impl_parts.j0])
  | succ kj1 =>
   have H := HA.out
   clear HA
   simp only [impl_parts.j0] at H
   by_cases c5 : x6_1 = true
   ·
    subst c5
    rw [if_pos rfl] at H
    simp only [Option.some.injEq, Prod.mk.injEq] at H
    obtain ⟨rfl, rfl, rfl⟩ := H
    go_wp2
    go_ret3
    exact ⟨by first | rfl | (simp; done) | (simp [*]; done), by repeat (first | exact Drawn0.refl _ | apply Drawn0.step)⟩
   ·
    replace c5 := Bool.eq_false_iff.mpr c5
    subst c5
    rw [if_neg nt_] at H
    have HC6 := Aside0.mk H
    clear H
    go_upto_if 10 with (fail)
    go_cut [10] (fun v10 wc => ∃ (kq : Nat) (x10_5 : Bool), v10 = .bool x10_5 ∧ Aside0 (impl_parts.j1 kq a0 x10_5 = some (r1, r2, r3)) ∧ Aside0 (kq ≤ kj1) ∧ Drawn0 w wc)
    case first =>
     have H := HC6.out
     clear HC6
     by_cases c7 : a0 = 5
     ·
      rw [if_pos c7] at H
      have c7b0 : (a0 == 5) = true := beq_iff_eq.mpr c7
      have c7b1 : (a0 != 5) = false := bne_eq_false_iff_eq.mpr c7
      clear c7
      (first | rw [c7b0] | (simp only [i64_w, i32_w]; rw [c7b0]) | skip)
      have H' := Aside0.mk H
      clear H
      go_wp2
      go_meet
      case rel => exact ⟨_, ((a0 == 5)), rq, H', ⟨by have := HJ1.out; first | omega | exact Nat.le_refl _⟩, by repeat (first | exact Drawn0.refl _ | apply Drawn0.step)⟩
     ·
      rw [if_neg c7] at H
      have c7b0 : (a0 == 5) = false := beq_eq_false_iff_ne.mpr c7
      have c7b1 : (a0 != 5) = true := bne_iff_ne.mpr c7
      (first | rw [c7b0] | (simp only [i64_w, i32_w]; rw [c7b0]) | skip)
      have H' := Aside0.mk H
      clear H
      go_wp2
      go_meet
      case rel => exact ⟨_, ((a0 == 6)), rq, H', ⟨by have := HJ1.out; first | omega | exact Nat.le_refl _⟩, by repeat (first | exact Drawn0.refl _ | apply Drawn0.step)⟩
    case rest =>
     clear HC6
     try clear c1
     try clear p2
     try clear c3
     try clear c3b0
     try clear c3b1
     try clear c4
     try clear c4b0
     try clear c4b1
     try clear c5
     try clear c7
     try clear c7b0
     try clear c7b1
     try clear p2
     obtain ⟨kq, x10_5, rfl, HA, HJ5, ⟨mc5, rfl⟩⟩ := hcut
     cases kq with
     | zero => exact absurd HA.out (by simp [impl_parts.j1])
     | succ kj5 =>
      have H := HA.out
      clear HA
      simp only [impl_parts.j1] at H
      by_cases c8 : x10_5 = true
      ·
       subst c8
       rw [if_pos rfl] at H
       simp only [Option.some.injEq, Prod.mk.injEq] at H
       obtain ⟨rfl, rfl, rfl⟩ := H
       go_wp2
       go_ret3
       exact ⟨by first | rfl | (simp; done) | (simp [*]; done), by repeat (first | exact Drawn0.refl _ | apply Drawn0.step)⟩
      ·
       replace c8 := Bool.eq_false_iff.mpr c8
       subst c8
       rw [if_neg nt_] at H
       by_cases c9 : a0 = 7
       ·
        rw [if_pos c9] at H
        have c9b0 : (a0 == 7) = true := beq_iff_eq.mpr c9
        have c9b1 : (a0 != 7) = false := bne_eq_false_iff_eq.mpr c9
        clear c9
        simp only [Option.some.injEq, Prod.mk.injEq] at H
        obtain ⟨rfl, rfl, rfl⟩ := H
        go_wp2
        go_ret3
        exact ⟨by first | rfl | (simp; done) | (simp [*]; done), by repeat (first | exact Drawn0.refl _ | apply Drawn0.step)⟩
       ·
        rw [if_neg c9] at H
        have c9b0 : (a0 == 7) = false := beq_eq_false_iff_ne.mpr c9
        have c9b1 : (a0 != 7) = true := bne_iff_ne.mpr c9
        have HC10 := Aside0.mk H
        clear H
        go_upto_if 15 with (fail)
        go_cut [15] (fun v15 wc => ∃ (kq : Nat) (x15_9 : Bool), v15 = .bool x15_9 ∧ Aside0 (impl_parts.j2 kq x15_9 = some (r1, r2, r3)) ∧ Aside0 (kq ≤ kj5) ∧ Drawn0 w wc)
        case first =>
         have H := HC10.out
         clear HC10
         by_cases c11 : a0 = 8
         ·
          rw [if_pos c11] at H
          have c11b0 : (a0 == 8) = true := beq_iff_eq.mpr c11
          have c11b1 : (a0 != 8) = false := bne_eq_false_iff_eq.mpr c11
          clear c11
          (first | rw [c11b0] | (simp only [i64_w, i32_w]; rw [c11b0]) | skip)
          have H' := Aside0.mk H
          clear H
          go_wp2
          go_meet
          case rel => exact ⟨_, ((a0 == 8)), rq, H', ⟨by have := HJ1.out; have := HJ5.out; first | omega | exact Nat.le_refl _⟩, by repeat (first | exact Drawn0.refl _ | apply Drawn0.step)⟩
         ·
          rw [if_neg c11] at H
          have c11b0 : (a0 == 8) = false := beq_eq_false_iff_ne.mpr c11
          have c11b1 : (a0 != 8) = true := bne_iff_ne.mpr c11
          (first | rw [c11b0] | (simp only [i64_w, i32_w]; rw [c11b0]) | skip)
          have H' := Aside0.mk H
          clear H
          go_wp2
          go_meet
          case rel => exact ⟨_, ((a0 == 9)), rq, H', ⟨by have := HJ1.out; have := HJ5.out; first | omega | exact Nat.le_refl _⟩, by repeat (first | exact Drawn0.refl _ | apply Drawn0.step)⟩
        case rest =>
         clear HC10
         try clear c1
         try clear p2
         try clear c3
         try clear c3b0
         try clear c3b1
         try clear c4
         try clear c4b0
         try clear c4b1
         try clear c5
         try clear c7
         try clear c7b0
         try clear c7b1
         try clear c8
         try clear c9
         try clear c9b0
         try clear c9b1
         try clear c11
         try clear c11b0
         try clear c11b1
         try clear p2
         obtain ⟨kq, x15_9, rfl, HA, HJ9, ⟨mc9, rfl⟩⟩ := hcut
         cases kq with
         | zero => exact absurd HA.out (by simp [impl_parts.j2])
         | succ kj9 =>
          have H := HA.out
          clear HA
          simp only [impl_parts.j2] at H
          by_cases c12 : x15_9 = true
          ·
           subst c12
           rw [if_pos rfl] at H
           simp only [Option.some.injEq, Prod.mk.injEq] at H
           obtain ⟨rfl, rfl, rfl⟩ := H
           go_wp2
           go_ret3
           exact ⟨by first | rfl | (simp; done) | (simp [*]; done), by repeat (first | exact Drawn0.refl _ | apply Drawn0.step)⟩
          ·
           replace c12 := Bool.eq_false_iff.mpr c12
           subst c12
           rw [if_neg nt_] at H
           simp only [Option.some.injEq, Prod.mk.injEq] at H
           obtain ⟨rfl, rfl, rfl⟩ := H
           go_wp2
           go_ret3
           exact ⟨by first | rfl | (simp; done) | (simp [*]; done), by repeat (first | exact Drawn0.refl _ | apply Drawn0.step)⟩
end Go.Proofs.Ytndmhmekmkgccaa.PFnExactSetValid
end
section
namespace Go.Proofs.Ytndmhmekmkgccaa.PFnExactSetValid
open Go.RowKit Go.Proofs.YtndmhmekmkgccaaW.PrintWords Go.Proofs.YtndmhmekmkgccaaW.PrintLast Go.Proofs.YtndmhmekmkgccaaW.PrintMore
attribute [local go_sem] max2_int min2_int max_two min_two max_three min_three max_four min_four   -- for this text's walks alone
set_option linter.unusedVariables false
set_option linter.unusedSimpArgs false
set_option maxHeartbeats 8000000 in
set_option maxRecDepth 100000 in
theorem impl_kindsOf.calls (k : Nat) (A0 : Option Addr) (c0 : Nat) (l0 : List (ITerm)) (a1 : Int) (r : List Int) (w : World) (hr0 : Kd.C k107 w A0 l0.length l0) (hc0 : l0.length ≤ c0) (h : impl_kindsOf.f k l0 a1 = some r) :
  Calls Try.prog 137 #[.slice A0 l0.length c0, .int .i64 a1] w fun e w' => ∃ v0_ : Value, e = .returned (v0_) ∧ Kd.R (Kd.int .i64) 3 w' w.heap.size (fun _ => True) v0_ r ∧ Below w.heap.size w w' ∧ NilIf r v0_ := by
 have hu107 := Try.underlying107
 have HR0 := Aside0.mk hr0
 have HC0 := Aside0.mk hc0
 clear hr0 hc0
 have HB := Aside0.mk (Below.refl w.heap.size w)
 have H : ((impl_in.f a1 0 5).bind fun t271 => (if t271 = true then ((impl_in.f (l0.length : Int) 1 40).bind fun t272 => (impl_kindsOf.j0 k l0 a1 (!t272))) else (impl_kindsOf.j0 k l0 a1 true))) = some r := h
 clear h
 have HC3 := Aside0.mk H
 clear H
 go_enter Try.func137, Try.ntmps137
 go_upto_region 1 with (fail)
 go_cut [20] (fun v20 wc => ∃ (kq : Nat) (x20_2 : Bool), v20 = .bool x20_2 ∧ Aside0 (impl_kindsOf.j0 kq l0 a1 x20_2 = some r) ∧ Aside0 (kq ≤ k) ∧ Aside0 (Below w.heap.size w wc))
 case first =>
  have H := HC3.out
  clear HC3
  replace H := Option.bind_eq_some_iff.mp H
  obtain ⟨t271, A40, H⟩ := H
  have A4 := Aside0.mk A40
  clear A40
  by_cases c5 : t271 = true
  ·
   subst c5
   rw [if_pos rfl] at H
   replace H := Option.bind_eq_some_iff.mp H
   obtain ⟨t272, A60, H⟩ := H
   have A6 := Aside0.mk A60
   clear A60
   have H' := Aside0.mk H
   clear H
   go_wp2_with (first | ((with_reducible refine gate_callee (f := 96) rfl ?_); refine goesL_ (some 13) rfl rfl Try.func96 (by kernel_rfl) rfl #[.int .i64 a1, .int .i64 0, .int .i64 5] rfl az ?_; (with_reducible refine (impl_in.calls a1 0 5 true _ A4.out).mono ?_); rintro e w' ⟨rfl, ⟨nd, rfl⟩⟩; refine ⟨_, rfl, ?_⟩) | (go_at_call 96; (with_reducible refine (impl_in.calls (l0.length : Int) 1 40 t272 _ A6.out).mono ?_); rintro e w' ⟨rfl, ⟨nd, rfl⟩⟩))
   go_meet
   case rel => exact ⟨_, (!t272), rq, H', ⟨by first | omega | exact Nat.le_refl _⟩, ⟨bz HB⟩⟩
  ·
   replace c5 := Bool.eq_false_iff.mpr c5
   subst c5
   rw [if_neg nt_] at H
   have H' := Aside0.mk H
   clear H
   go_wp2_with (first | ((with_reducible refine gate_callee (f := 96) rfl ?_); refine goesL_ (some 13) rfl rfl Try.func96 (by kernel_rfl) rfl #[.int .i64 a1, .int .i64 0, .int .i64 5] rfl az ?_; (with_reducible refine (impl_in.calls a1 0 5 false _ A4.out).mono ?_); rintro e w' ⟨rfl, ⟨nd, rfl⟩⟩; refine ⟨_, rfl, ?_⟩))
   go_meet
   case rel => exact ⟨_, (true), rq, H', ⟨by first | omega | exact Nat.le_refl _⟩, ⟨bz HB⟩⟩
 case rest =>
  clear HC3
  try clear c1
  try clear p2
  try clear c5
  obtain ⟨kq, x20_2, rfl, HA, HJ2, HB⟩ := hcut
  cases kq with
  | zero => exact absurd HA.out (by simp [impl_kindsOf.j0])
  | succ kj2 =>
   have H := HA.out
   clear HA
   simp only [impl_kindsOf.j0] at H
   by_cases c7 : x20_2 = true
   ·
    subst c7
    rw [if_pos rfl] at H
    obtain rfl := Option.some.inj H
    go_wp2
    go_ret
    exact ⟨_, rz, nz, bz HB, by first | exact NilIf.intro (fun _ => rfl) | exact NilIf.intro (fun e_ => absurd (‹Aside0 (0 < List.length _)›).out (by rw [e_]; exact Nat.lt_irrefl 0))⟩
   ·
    replace c7 := Bool.eq_false_iff.mpr c7
    subst c7
    rw [if_neg nt_] at H
    by_cases c8 : 0 ≤ (l0.length : Int)
    ·
     rw [if_pos c8] at H
     have c8b0 := eq_true c8
     have c8b1 : decide (0 ≤ (l0.length : Int)) = true := decide_eq_true c8
     clear c8
     by_cases c9 : ((l0.length : Int) : Int).toNat ≤ 35184372088832
     ·
      rw [if_pos c9] at H
      have c9b0 := eq_true c9
      have c9b1 : decide (((l0.length : Int) : Int).toNat ≤ 35184372088832) = true := decide_eq_true c9
      clear c9
      obtain ⟨y273, hy273⟩ : ∃ y_ : List Int, y_ = (([] : List Int)) := ⟨_, rfl⟩
      replace H : (impl_kindsOf.l0 kj2 a1 y273 l0 (l0.length : Int) 0) = some r := by first | (rw [hy273]; with_reducible exact H) | (have H2_ := (Option.bind_some _ _).symm.trans H; rw [hy273]; with_reducible exact H2_) | (have H2_ := (Option.bind_some _ _).symm.trans H; with_reducible exact H2_) | with_reducible exact H | (rw [hy273]; exact H) | exact H
      have Ny273 := Aside0.mk hy273
      clear hy273
      have H' := Aside0.mk H
      clear H
      go_wp2_with (first | ((with_reducible refine gate_dst (N := 23) rfl ?_); (try (refine gate_guard (by rfl) ?_; dsimp only)); refine Kd.R_make0 (Kd.int .i64) _ 3 rfl (N := 23) rfl 26 _ _ rfl (l0.length : Int) rfl rfl Try.underlying26 (.int .i64 0) 8 info3 rfl (by decide) (by omega) 0 (ok := fun _ => True) (okp := fun _ => True) rfl (fun _ hk => hk) trivial (dz) (Nat.le_trans (Nat.mul_le_mul_right _ (dz : (l0.length : Int).toNat ≤ 35184372088832)) (by omega)) (Below.refl _ _) (Nat.le_refl _) ?_; intro v274 w10 ho11 hb hg_ hnew_; clear hg_ hnew_; (first | rw [← Ny273.out] at ho11 | (simp only [Int.reduceToNat] at ho11; rw [← Ny273.out] at ho11)); have HO275 := Aside0.mk (Kd.R_lower ho11 (below_size (bz HB))); replace HB := Aside0.mk (below_step (bz HB) hb); clear hb ho11))
      go_loopg [5, 26] kj2 (fun kq v5 v26 w' => ∃ (x5_2 : List Int) (x26_2 : Int), v26 = .int .i64 x26_2 ∧ Aside0 (impl_kindsOf.l0 kq a1 x5_2 l0 (l0.length : Int) x26_2 = some r) ∧ Aside0 (kq ≤ kj2) ∧ Aside0 (Kd.R (Kd.int .i64) 3 w' w.heap.size (fun _ => True) v5 x5_2) ∧ Aside0 (Below w.heap.size w w'))
      case atStart => exact ⟨(y273), (0), rq, H', ⟨Nat.le_refl _⟩, ⟨ozR HO275⟩, ⟨bz HB⟩⟩
      case round =>
       clear H'
       try clear c1
       try clear p2
       try clear c5
       try clear c7
       try clear c8
       try clear c8b0
       try clear c8b1
       try clear c9
       try clear c9b0
       try clear c9b1
       try clear p2
       obtain ⟨x5_2, x26_2, rfl, HA, HK2, HO_5, HB⟩ := hrel
       cases gk with
       | zero => exact absurd HA.out (by simp [impl_kindsOf.l0])
       | succ k2 =>
        have H := HA.out
        clear HA
        simp only [impl_kindsOf.l0] at H
        by_cases c12 : x26_2 < (l0.length : Int)
        ·
         rw [if_pos c12] at H
         have c12b0 : decide (x26_2 < (l0.length : Int)) = true := decide_eq_true c12
         clear c12
         by_cases c13 : 0 ≤ x26_2
         ·
          rw [if_pos c13] at H
          have c13b0 : decide (0 ≤ x26_2) = true := decide_eq_true c13
          clear c13
          by_cases c14 : x26_2 < (l0.length : Int)
          ·
           rw [if_pos c14] at H
           have c14b0 : decide (x26_2 < (l0.length : Int)) = true := decide_eq_true c14
           clear c14
           replace H := Option.bind_eq_some_iff.mp H
           obtain ⟨⟨t278, t279, t280⟩, A150, H⟩ := H
           dsimp only at H
           have A15 := Aside0.mk A150
           clear A150
           replace H := Option.bind_eq_some_iff.mp H
           obtain ⟨t281, A160, H⟩ := H
           have A16 := Aside0.mk A160
           clear A160
           have HC17 := Aside0.mk H
           clear H
           have p276 : 0 ≤ (x26_2 : Int) := dz
           have q276 : x26_2 < (l0.length : Int) := dz
           obtain ⟨ad276, e276, hx276_0, hx276_1, hx276_2, hx276_3⟩ := at_ITerm HR0.out x26_2 p276 q276
           cases e276
           replace hx276_0 := xz HB hx276_0
           replace hx276_1 := xz HB hx276_1
           replace hx276_2 := xz HB hx276_2
           replace hx276_3 := xz HB hx276_3
           replace p276 := eq_true p276
           replace q276 := eq_true q276
           go_upto_block 2 with (first | ((with_reducible refine gate_dst (N := 7) rfl ?_); (try (refine gate_guard (by rfl) ?_; dsimp only)); refine box_event ?hg (N := 7) ?hd (cs := #[.int .i64 0, .int .i64 0, .int .i64 0, .int .i64 0]) (t := 107) ?hr ?_; (case hd => rfl); (case hg => rfl); (case hr => first | (go_simp; done) | (go_simp; rfl)); intro gb277 hg w18 hbox hb; have n0_ := Aside0.mk (Kd.R_below (ozR HO_5) hb); have n1_ := Aside0.mk (below_step (bz HB) hb); have n2_ := Aside0.mk (hbox); have n3_ := Aside0.mk ((by rw [hg]; exact (below_size (bz HB)) : w.heap.size ≤ gb277)); have n4_ := Aside0.mk ((by rw [hg]; exact (below_size (bz HB)) : w.heap.size ≤ gb277)); clear HO_5; clear HB; have HO_5 := n0_; have HB := n1_; have BK277 := n2_; have GW277 := n3_; have GE277 := n4_; clear n0_ n1_ n2_ n3_ n4_; clear hb hbox hg; have hcz19_0 : w18.cell? ⟨gb277, 0, none⟩ = some (.int .i64 0) := (blk_cell BK277.out 0).trans rfl; have hcz19_1 : w18.cell? ⟨gb277, 1, none⟩ = some (.int .i64 0) := (blk_cell BK277.out 1).trans rfl; have hcz19_2 : w18.cell? ⟨gb277, 2, none⟩ = some (.int .i64 0) := (blk_cell BK277.out 2).trans rfl; have hcz19_3 : w18.cell? ⟨gb277, 3, none⟩ = some (.int .i64 0) := (blk_cell BK277.out 3).trans rfl; have hfz19_0 := blk_frozen BK277.out 0; have hfz19_1 := blk_frozen BK277.out 1; have hfz19_2 := blk_frozen BK277.out 2; have hfz19_3 := blk_frozen BK277.out 3) | ((with_reducible refine gate_callee (f := 168) rfl ?_); refine goesL_ (some 34) rfl rfl Try.func168 (by kernel_rfl) rfl #[.int .i64 ((rd_ITerm l0 x26_2).f0)] rfl az ?_; (with_reducible refine (impl_parts.calls k2 ((rd_ITerm l0 x26_2).f0) t278 t279 t280 _ A15.out).mono ?_); rintro e w' ⟨rfl, ⟨nd, rfl⟩⟩; refine ⟨_, rfl, ?_⟩) | ((with_reducible refine gate_callee (f := 96) rfl ?_); refine goesL_ (some 40) rfl rfl Try.func96 (by kernel_rfl) rfl #[.int .i64 ((rd_ITerm l0 x26_2).f0), .int .i64 0, .int .i64 9] rfl az ?_; (with_reducible refine (impl_in.calls ((rd_ITerm l0 x26_2).f0) 0 9 t281 _ A16.out).mono ?_); rintro e w' ⟨rfl, ⟨nd, rfl⟩⟩; refine ⟨_, rfl, ?_⟩))
           (try simp only [Act.put, sb_, sc0_, sc1_])
           go_cut [11] (fun v11 wc => ∃ (kq : Nat) (x11_16 : Bool), v11 = .bool x11_16 ∧ Aside0 (impl_kindsOf.j2 kq a1 x5_2 t280 x11_16 l0 (l0.length : Int) x26_2 = some r) ∧ Aside0 (kq ≤ k2) ∧ Aside0 (Kd.R (Kd.int .i64) 3 wc w.heap.size (fun _ => True) u5 x5_2) ∧ Aside0 (wc.heap[gb277]? = some (.cells #[.int .i64 ((rd_ITerm l0 x26_2).f0), .int .i64 ((rd_ITerm l0 x26_2).f1), .int .i64 ((rd_ITerm l0 x26_2).f2), .int .i64 ((rd_ITerm l0 x26_2).f3)] 107 (0, 0))) ∧ Aside0 (Below w.heap.size w wc))
           case first =>
            have H := HC17.out
            clear HC17
            by_cases c20 : ((rd_ITerm l0 x26_2).f0) = 0
            ·
             rw [if_pos c20] at H
             have c20b0 : (((rd_ITerm l0 x26_2).f0) == 0) = true := beq_iff_eq.mpr c20
             have c20b1 : (((rd_ITerm l0 x26_2).f0) != 0) = false := bne_eq_false_iff_eq.mpr c20
             clear c20
             (first | rw [c20b0] | (simp only [i64_w, i32_w]; rw [c20b0]) | skip)
             replace H := Option.bind_eq_some_iff.mp H
             obtain ⟨t282, A210, H⟩ := H
             have A21 := Aside0.mk A210
             clear A210
             by_cases c22 : t282 = true
             ·
              subst c22
              rw [if_pos rfl] at H
              by_cases c23 : ((rd_ITerm l0 x26_2).f2) = 0
              ·
               rw [if_pos c23] at H
               have c23b0 : (((rd_ITerm l0 x26_2).f2) == 0) = true := beq_iff_eq.mpr c23
               have c23b1 : (((rd_ITerm l0 x26_2).f2) != 0) = false := bne_eq_false_iff_eq.mpr c23
               clear c23
               have H' := Aside0.mk H
               clear H
               have hcz24_0 : w18.cell? ⟨gb277, 0, none⟩ = some (.int .i64 0) := (blk_cell BK277.out 0).trans rfl
               have hcz24_1 : w18.cell? ⟨gb277, 1, none⟩ = some (.int .i64 0) := (blk_cell BK277.out 1).trans rfl
               have hcz24_2 : w18.cell? ⟨gb277, 2, none⟩ = some (.int .i64 0) := (blk_cell BK277.out 2).trans rfl
               have hcz24_3 : w18.cell? ⟨gb277, 3, none⟩ = some (.int .i64 0) := (blk_cell BK277.out 3).trans rfl
               have hfz24_0 := blk_frozen BK277.out 0
               have hfz24_1 := blk_frozen BK277.out 1
               have hfz24_2 := blk_frozen BK277.out 2
               have hfz24_3 := blk_frozen BK277.out 3
               go_wp2_with (first | ((with_reducible refine gate_callee (f := 96) rfl ?_); refine goesL_ (some 47) rfl rfl Try.func96 (by kernel_rfl) rfl #[.int .i64 ((rd_ITerm l0 x26_2).f1), .int .i64 (-9999), .int .i64 9999] rfl az ?_; (with_reducible refine (impl_in.calls ((rd_ITerm l0 x26_2).f1) (-9999) 9999 true _ A21.out).mono ?_); rintro e w' ⟨rfl, ⟨nd, rfl⟩⟩; refine ⟨_, rfl, ?_⟩))
               go_meet
               case rel => exact ⟨_, ((((rd_ITerm l0 x26_2).f3) == 0)), rq, H', ⟨by have := HJ2.out; have := HK2.out; first | omega | exact Nat.le_refl _⟩, ⟨by (with_reducible repeat (first | apply Kd.R_alloc | apply Kd.R_drewN | apply Kd.R_drew)); exact Kd.R_mono (Kd.R_far (p := ⟨gb277, 3, none⟩) (Kd.R_far (p := ⟨gb277, 2, none⟩) (Kd.R_far (p := ⟨gb277, 1, none⟩) (Kd.R_far (p := ⟨gb277, 0, none⟩) (Kd.R_types HO_5.out BK277.out (by decide)) (fun _ hk => hk.2) (.int .i64 ((rd_ITerm l0 x26_2).f0))) (fun _ hk => hk.2) (.int .i64 ((rd_ITerm l0 x26_2).f1))) (fun _ hk => hk.2) (.int .i64 ((rd_ITerm l0 x26_2).f2))) (fun _ hk => hk.2) (.int .i64 ((rd_ITerm l0 x26_2).f3))) (fun _ hk => trivial)⟩, ⟨by (with_reducible repeat (first | refine blk_drewN ?_ _ | refine blk_drew ?_ | refine blk_alloc ?_ _)); refine blk_put (cs := #[.int .i64 ((rd_ITerm l0 x26_2).f0), .int .i64 ((rd_ITerm l0 x26_2).f1), .int .i64 ((rd_ITerm l0 x26_2).f2), .int .i64 0]) ?_ 3 _ rfl; (with_reducible repeat (first | refine blk_drewN ?_ _ | refine blk_drew ?_ | refine blk_alloc ?_ _)); refine blk_put (cs := #[.int .i64 ((rd_ITerm l0 x26_2).f0), .int .i64 ((rd_ITerm l0 x26_2).f1), .int .i64 0, .int .i64 0]) ?_ 2 _ rfl; (with_reducible repeat (first | refine blk_drewN ?_ _ | refine blk_drew ?_ | refine blk_alloc ?_ _)); refine blk_put (cs := #[.int .i64 ((rd_ITerm l0 x26_2).f0), .int .i64 0, .int .i64 0, .int .i64 0]) ?_ 1 _ rfl; (with_reducible repeat (first | refine blk_drewN ?_ _ | refine blk_drew ?_ | refine blk_alloc ?_ _)); refine blk_put (cs := #[.int .i64 0, .int .i64 0, .int .i64 0, .int .i64 0]) ?_ 0 _ rfl; exact kz BK277⟩, ⟨bz1 HB GE277⟩⟩
              ·
               rw [if_neg c23] at H
               have c23b0 : (((rd_ITerm l0 x26_2).f2) == 0) = false := beq_eq_false_iff_ne.mpr c23
               have c23b1 : (((rd_ITerm l0 x26_2).f2) != 0) = true := bne_iff_ne.mpr c23
               have H' := Aside0.mk H
               clear H
               have hcz25_0 : w18.cell? ⟨gb277, 0, none⟩ = some (.int .i64 0) := (blk_cell BK277.out 0).trans rfl
               have hcz25_1 : w18.cell? ⟨gb277, 1, none⟩ = some (.int .i64 0) := (blk_cell BK277.out 1).trans rfl
               have hcz25_2 : w18.cell? ⟨gb277, 2, none⟩ = some (.int .i64 0) := (blk_cell BK277.out 2).trans rfl
               have hcz25_3 : w18.cell? ⟨gb277, 3, none⟩ = some (.int .i64 0) := (blk_cell BK277.out 3).trans rfl
               have hfz25_0 := blk_frozen BK277.out 0
               have hfz25_1 := blk_frozen BK277.out 1
               have hfz25_2 := blk_frozen BK277.out 2
               have hfz25_3 := blk_frozen BK277.out 3
               go_wp2_with (first | ((with_reducible refine gate_callee (f := 96) rfl ?_); refine goesL_ (some 47) rfl rfl Try.func96 (by kernel_rfl) rfl #[.int .i64 ((rd_ITerm l0 x26_2).f1), .int .i64 (-9999), .int .i64 9999] rfl az ?_; (with_reducible refine (impl_in.calls ((rd_ITerm l0 x26_2).f1) (-9999) 9999 true _ A21.out).mono ?_); rintro e w' ⟨rfl, ⟨nd, rfl⟩⟩; refine ⟨_, rfl, ?_⟩))
               go_meet
               case rel => exact ⟨_, (false), rq, H', ⟨by have := HJ2.out; have := HK2.out; first | omega | exact Nat.le_refl _⟩, ⟨by (with_reducible repeat (first | apply Kd.R_alloc | apply Kd.R_drewN | apply Kd.R_drew)); exact Kd.R_mono (Kd.R_far (p := ⟨gb277, 3, none⟩) (Kd.R_far (p := ⟨gb277, 2, none⟩) (Kd.R_far (p := ⟨gb277, 1, none⟩) (Kd.R_far (p := ⟨gb277, 0, none⟩) (Kd.R_types HO_5.out BK277.out (by decide)) (fun _ hk => hk.2) (.int .i64 ((rd_ITerm l0 x26_2).f0))) (fun _ hk => hk.2) (.int .i64 ((rd_ITerm l0 x26_2).f1))) (fun _ hk => hk.2) (.int .i64 ((rd_ITerm l0 x26_2).f2))) (fun _ hk => hk.2) (.int .i64 ((rd_ITerm l0 x26_2).f3))) (fun _ hk => trivial)⟩, ⟨by (with_reducible repeat (first | refine blk_drewN ?_ _ | refine blk_drew ?_ | refine blk_alloc ?_ _)); refine blk_put (cs := #[.int .i64 ((rd_ITerm l0 x26_2).f0), .int .i64 ((rd_ITerm l0 x26_2).f1), .int .i64 ((rd_ITerm l0 x26_2).f2), .int .i64 0]) ?_ 3 _ rfl; (with_reducible repeat (first | refine blk_drewN ?_ _ | refine blk_drew ?_ | refine blk_alloc ?_ _)); refine blk_put (cs := #[.int .i64 ((rd_ITerm l0 x26_2).f0), .int .i64 ((rd_ITerm l0 x26_2).f1), .int .i64 0, .int .i64 0]) ?_ 2 _ rfl; (with_reducible repeat (first | refine blk_drewN ?_ _ | refine blk_drew ?_ | refine blk_alloc ?_ _)); refine blk_put (cs := #[.int .i64 ((rd_ITerm l0 x26_2).f0), .int .i64 0, .int .i64 0, .int .i64 0]) ?_ 1 _ rfl; (with_reducible repeat (first | refine blk_drewN ?_ _ | refine blk_drew ?_ | refine blk_alloc ?_ _)); refine blk_put (cs := #[.int .i64 0, .int .i64 0, .int .i64 0, .int .i64 0]) ?_ 0 _ rfl; exact kz BK277⟩, ⟨bz1 HB GE277⟩⟩
             ·
              replace c22 := Bool.eq_false_iff.mpr c22
              subst c22
              rw [if_neg nt_] at H
              have H' := Aside0.mk H
              clear H
              have hcz26_0 : w18.cell? ⟨gb277, 0, none⟩ = some (.int .i64 0) := (blk_cell BK277.out 0).trans rfl
              have hcz26_1 : w18.cell? ⟨gb277, 1, none⟩ = some (.int .i64 0) := (blk_cell BK277.out 1).trans rfl
              have hcz26_2 : w18.cell? ⟨gb277, 2, none⟩ = some (.int .i64 0) := (blk_cell BK277.out 2).trans rfl
              have hcz26_3 : w18.cell? ⟨gb277, 3, none⟩ = some (.int .i64 0) := (blk_cell BK277.out 3).trans rfl
              have hfz26_0 := blk_frozen BK277.out 0
              have hfz26_1 := blk_frozen BK277.out 1
              have hfz26_2 := blk_frozen BK277.out 2
              have hfz26_3 := blk_frozen BK277.out 3
              go_wp2_with (first | ((with_reducible refine gate_callee (f := 96) rfl ?_); refine goesL_ (some 47) rfl rfl Try.func96 (by kernel_rfl) rfl #[.int .i64 ((rd_ITerm l0 x26_2).f1), .int .i64 (-9999), .int .i64 9999] rfl az ?_; (with_reducible refine (impl_in.calls ((rd_ITerm l0 x26_2).f1) (-9999) 9999 false _ A21.out).mono ?_); rintro e w' ⟨rfl, ⟨nd, rfl⟩⟩; refine ⟨_, rfl, ?_⟩))
              go_meet
              case rel => exact ⟨_, (false), rq, H', ⟨by have := HJ2.out; have := HK2.out; first | omega | exact Nat.le_refl _⟩, ⟨by (with_reducible repeat (first | apply Kd.R_alloc | apply Kd.R_drewN | apply Kd.R_drew)); exact Kd.R_mono (Kd.R_far (p := ⟨gb277, 3, none⟩) (Kd.R_far (p := ⟨gb277, 2, none⟩) (Kd.R_far (p := ⟨gb277, 1, none⟩) (Kd.R_far (p := ⟨gb277, 0, none⟩) (Kd.R_types HO_5.out BK277.out (by decide)) (fun _ hk => hk.2) (.int .i64 ((rd_ITerm l0 x26_2).f0))) (fun _ hk => hk.2) (.int .i64 ((rd_ITerm l0 x26_2).f1))) (fun _ hk => hk.2) (.int .i64 ((rd_ITerm l0 x26_2).f2))) (fun _ hk => hk.2) (.int .i64 ((rd_ITerm l0 x26_2).f3))) (fun _ hk => trivial)⟩, ⟨by (with_reducible repeat (first | refine blk_drewN ?_ _ | refine blk_drew ?_ | refine blk_alloc ?_ _)); refine blk_put (cs := #[.int .i64 ((rd_ITerm l0 x26_2).f0), .int .i64 ((rd_ITerm l0 x26_2).f1), .int .i64 ((rd_ITerm l0 x26_2).f2), .int .i64 0]) ?_ 3 _ rfl; (with_reducible repeat (first | refine blk_drewN ?_ _ | refine blk_drew ?_ | refine blk_alloc ?_ _)); refine blk_put (cs := #[.int .i64 ((rd_ITerm l0 x26_2).f0), .int .i64 ((rd_ITerm l0 x26_2).f1), .int .i64 0, .int .i64 0]) ?_ 2 _ rfl; (with_reducible repeat (first | refine blk_drewN ?_ _ | refine blk_drew ?_ | refine blk_alloc ?_ _)); refine blk_put (cs := #[.int .i64 ((rd_ITerm l0 x26_2).f0), .int .i64 0, .int .i64 0, .int .i64 0]) ?_ 1 _ rfl; (with_reducible repeat (first | refine blk_drewN ?_ _ | refine blk_drew ?_ | refine blk_alloc ?_ _)); refine blk_put (cs := #[.int .i64 0, .int .i64 0, .int .i64 0, .int .i64 0]) ?_ 0 _ rfl; exact kz BK277⟩, ⟨bz1 HB GE277⟩⟩
            ·
             rw [if_neg c20] at H
             have c20b0 : (((rd_ITerm l0 x26_2).f0) == 0) = false := beq_eq_false_iff_ne.mpr c20
             have c20b1 : (((rd_ITerm l0 x26_2).f0) != 0) = true := bne_iff_ne.mpr c20
             (first | rw [c20b0] | (simp only [i64_w, i32_w]; rw [c20b0]) | skip)
             by_cases c27 : ((rd_ITerm l0 x26_2).f0) = 1
             ·
              rw [if_pos c27] at H
              have c27b0 : (((rd_ITerm l0 x26_2).f0) == 1) = true := beq_iff_eq.mpr c27
              have c27b1 : (((rd_ITerm l0 x26_2).f0) != 1) = false := bne_eq_false_iff_eq.mpr c27
              clear c27
              replace H := Option.bind_eq_some_iff.mp H
              obtain ⟨t283, A280, H⟩ := H
              have A28 := Aside0.mk A280
              clear A280
              by_cases c29 : t283 = true
              ·
               subst c29
               rw [if_pos rfl] at H
               by_cases c30 : ((rd_ITerm l0 x26_2).f2) = 0
               ·
                rw [if_pos c30] at H
                have c30b0 : (((rd_ITerm l0 x26_2).f2) == 0) = true := beq_iff_eq.mpr c30
                have c30b1 : (((rd_ITerm l0 x26_2).f2) != 0) = false := bne_eq_false_iff_eq.mpr c30
                clear c30
                have H' := Aside0.mk H
                clear H
                have hcz31_0 : w18.cell? ⟨gb277, 0, none⟩ = some (.int .i64 0) := (blk_cell BK277.out 0).trans rfl
                have hcz31_1 : w18.cell? ⟨gb277, 1, none⟩ = some (.int .i64 0) := (blk_cell BK277.out 1).trans rfl
                have hcz31_2 : w18.cell? ⟨gb277, 2, none⟩ = some (.int .i64 0) := (blk_cell BK277.out 2).trans rfl
                have hcz31_3 : w18.cell? ⟨gb277, 3, none⟩ = some (.int .i64 0) := (blk_cell BK277.out 3).trans rfl
                have hfz31_0 := blk_frozen BK277.out 0
                have hfz31_1 := blk_frozen BK277.out 1
                have hfz31_2 := blk_frozen BK277.out 2
                have hfz31_3 := blk_frozen BK277.out 3
                go_wp2_with (first | ((with_reducible refine gate_callee (f := 96) rfl ?_); refine goesL_ (some 66) rfl rfl Try.func96 (by kernel_rfl) rfl #[.int .i64 ((rd_ITerm l0 x26_2).f1), .int .i64 0, .int .i64 (wrap64 (a1 - 1))] rfl az ?_; (with_reducible refine (impl_in.calls ((rd_ITerm l0 x26_2).f1) 0 (wrap64 (a1 - 1)) true _ A28.out).mono ?_); rintro e w' ⟨rfl, ⟨nd, rfl⟩⟩; refine ⟨_, rfl, ?_⟩))
                go_meet
                case rel => exact ⟨_, ((((rd_ITerm l0 x26_2).f3) == 0)), rq, H', ⟨by have := HJ2.out; have := HK2.out; first | omega | exact Nat.le_refl _⟩, ⟨by (with_reducible repeat (first | apply Kd.R_alloc | apply Kd.R_drewN | apply Kd.R_drew)); exact Kd.R_mono (Kd.R_far (p := ⟨gb277, 3, none⟩) (Kd.R_far (p := ⟨gb277, 2, none⟩) (Kd.R_far (p := ⟨gb277, 1, none⟩) (Kd.R_far (p := ⟨gb277, 0, none⟩) (Kd.R_types HO_5.out BK277.out (by decide)) (fun _ hk => hk.2) (.int .i64 ((rd_ITerm l0 x26_2).f0))) (fun _ hk => hk.2) (.int .i64 ((rd_ITerm l0 x26_2).f1))) (fun _ hk => hk.2) (.int .i64 ((rd_ITerm l0 x26_2).f2))) (fun _ hk => hk.2) (.int .i64 ((rd_ITerm l0 x26_2).f3))) (fun _ hk => trivial)⟩, ⟨by (with_reducible repeat (first | refine blk_drewN ?_ _ | refine blk_drew ?_ | refine blk_alloc ?_ _)); refine blk_put (cs := #[.int .i64 ((rd_ITerm l0 x26_2).f0), .int .i64 ((rd_ITerm l0 x26_2).f1), .int .i64 ((rd_ITerm l0 x26_2).f2), .int .i64 0]) ?_ 3 _ rfl; (with_reducible repeat (first | refine blk_drewN ?_ _ | refine blk_drew ?_ | refine blk_alloc ?_ _)); refine blk_put (cs := #[.int .i64 ((rd_ITerm l0 x26_2).f0), .int .i64 ((rd_ITerm l0 x26_2).f1), .int .i64 0, .int .i64 0]) ?_ 2 _ rfl; (with_reducible repeat (first | refine blk_drewN ?_ _ | refine blk_drew ?_ | refine blk_alloc ?_ _)); refine blk_put (cs := #[.int .i64 ((rd_ITerm l0 x26_2).f0), .int .i64 0, .int .i64 0, .int .i64 0]) ?_ 1 _ rfl; (with_reducible repeat (first | refine blk_drewN ?_ _ | refine blk_drew ?_ | refine blk_alloc ?_ _)); refine blk_put (cs := #[.int .i64 0, .int .i64 0, .int .i64 0, .int .i64 0]) ?_ 0 _ rfl; exact kz BK277⟩, ⟨bz1 HB GE277⟩⟩
               ·
                rw [if_neg c30] at H
                have c30b0 : (((rd_ITerm l0 x26_2).f2) == 0) = false := beq_eq_false_iff_ne.mpr c30
                have c30b1 : (((rd_ITerm l0 x26_2).f2) != 0) = true := bne_iff_ne.mpr c30
                have H' := Aside0.mk H
                clear H
                have hcz32_0 : w18.cell? ⟨gb277, 0, none⟩ = some (.int .i64 0) := (blk_cell BK277.out 0).trans rfl
                have hcz32_1 : w18.cell? ⟨gb277, 1, none⟩ = some (.int .i64 0) := (blk_cell BK277.out 1).trans rfl
                have hcz32_2 : w18.cell? ⟨gb277, 2, none⟩ = some (.int .i64 0) := (blk_cell BK277.out 2).trans rfl
                have hcz32_3 : w18.cell? ⟨gb277, 3, none⟩ = some (.int .i64 0) := (blk_cell BK277.out 3).trans rfl
                have hfz32_0 := blk_frozen BK277.out 0
                have hfz32_1 := blk_frozen BK277.out 1
                have hfz32_2 := blk_frozen BK277.out 2
                have hfz32_3 := blk_frozen BK277.out 3
                go_wp2_with (first | ((with_reducible refine gate_callee (f := 96) rfl ?_); refine goesL_ (some 66) rfl rfl Try.func96 (by kernel_rfl) rfl #[.int .i64 ((rd_ITerm l0 x26_2).f1), .int .i64 0, .int .i64 (wrap64 (a1 - 1))] rfl az ?_; (with_reducible refine (impl_in.calls ((rd_ITerm l0 x26_2).f1) 0 (wrap64 (a1 - 1)) true _ A28.out).mono ?_); rintro e w' ⟨rfl, ⟨nd, rfl⟩⟩; refine ⟨_, rfl, ?_⟩))
                go_meet
                case rel => exact ⟨_, (false), rq, H', ⟨by have := HJ2.out; have := HK2.out; first | omega | exact Nat.le_refl _⟩, ⟨by (with_reducible repeat (first | apply Kd.R_alloc | apply Kd.R_drewN | apply Kd.R_drew)); exact Kd.R_mono (Kd.R_far (p := ⟨gb277, 3, none⟩) (Kd.R_far (p := ⟨gb277, 2, none⟩) (Kd.R_far (p := ⟨gb277, 1, none⟩) (Kd.R_far (p := ⟨gb277, 0, none⟩) (Kd.R_types HO_5.out BK277.out (by decide)) (fun _ hk => hk.2) (.int .i64 ((rd_ITerm l0 x26_2).f0))) (fun _ hk => hk.2) (.int .i64 ((rd_ITerm l0 x26_2).f1))) (fun _ hk => hk.2) (.int .i64 ((rd_ITerm l0 x26_2).f2))) (fun _ hk => hk.2) (.int .i64 ((rd_ITerm l0 x26_2).f3))) (fun _ hk => trivial)⟩, ⟨by (with_reducible repeat (first | refine blk_drewN ?_ _ | refine blk_drew ?_ | refine blk_alloc ?_ _)); refine blk_put (cs := #[.int .i64 ((rd_ITerm l0 x26_2).f0), .int .i64 ((rd_ITerm l0 x26_2).f1), .int .i64 ((rd_ITerm l0 x26_2).f2), .int .i64 0]) ?_ 3 _ rfl; (with_reducible repeat (first | refine blk_drewN ?_ _ | refine blk_drew ?_ | refine blk_alloc ?_ _)); refine blk_put (cs := #[.int .i64 ((rd_ITerm l0 x26_2).f0), .int .i64 ((rd_ITerm l0 x26_2).f1), .int .i64 0, .int .i64 0]) ?_ 2 _ rfl; (with_reducible repeat (first | refine blk_drewN ?_ _ | refine blk_drew ?_ | refine blk_alloc ?_ _)); refine blk_put (cs := #[.int .i64 ((rd_ITerm l0 x26_2).f0), .int .i64 0, .int .i64 0, .int .i64 0]) ?_ 1 _ rfl; (with_reducible repeat (first | refine blk_drewN ?_ _ | refine blk_drew ?_ | refine blk_alloc ?_ _)); refine blk_put (cs := #[.int .i64 0, .int .i64 0, .int .i64 0, .int .i64 0]) ?_ 0 _ rfl; exact kz BK277⟩, ⟨bz1 HB GE277⟩⟩
              ·
               replace c29 := Bool.eq_false_iff.mpr c29
               subst c29
               rw [if_neg nt_] at H
               have H' := Aside0.mk H
               clear H
               have hcz33_0 : w18.cell? ⟨gb277, 0, none⟩ = some (.int .i64 0) := (blk_cell BK277.out 0).trans rfl
               have hcz33_1 : w18.cell? ⟨gb277, 1, none⟩ = some (.int .i64 0) := (blk_cell BK277.out 1).trans rfl
               have hcz33_2 : w18.cell? ⟨gb277, 2, none⟩ = some (.int .i64 0) := (blk_cell BK277.out 2).trans rfl
               have hcz33_3 : w18.cell? ⟨gb277, 3, none⟩ = some (.int .i64 0) := (blk_cell BK277.out 3).trans rfl
               have hfz33_0 := blk_frozen BK277.out 0
               have hfz33_1 := blk_frozen BK277.out 1
               have hfz33_2 := blk_frozen BK277.out 2
               have hfz33_3 := blk_frozen BK277.out 3
               go_wp2_with (first | ((with_reducible refine gate_callee (f := 96) rfl ?_); refine goesL_ (some 66) rfl rfl Try.func96 (by kernel_rfl) rfl #[.int .i64 ((rd_ITerm l0 x26_2).f1), .int .i64 0, .int .i64 (wrap64 (a1 - 1))] rfl az ?_; (with_reducible refine (impl_in.calls ((rd_ITerm l0 x26_2).f1) 0 (wrap64 (a1 - 1)) false _ A28.out).mono ?_); rintro e w' ⟨rfl, ⟨nd, rfl⟩⟩; refine ⟨_, rfl, ?_⟩))
               go_meet
               case rel => exact ⟨_, (false), rq, H', ⟨by have := HJ2.out; have := HK2.out; first | omega | exact Nat.le_refl _⟩, ⟨by (with_reducible repeat (first | apply Kd.R_alloc | apply Kd.R_drewN | apply Kd.R_drew)); exact Kd.R_mono (Kd.R_far (p := ⟨gb277, 3, none⟩) (Kd.R_far (p := ⟨gb277, 2, none⟩) (Kd.R_far (p := ⟨gb277, 1, none⟩) (Kd.R_far (p := ⟨gb277, 0, none⟩) (Kd.R_types HO_5.out BK277.out (by decide)) (fun _ hk => hk.2) (.int .i64 ((rd_ITerm l0 x26_2).f0))) (fun _ hk => hk.2) (.int .i64 ((rd_ITerm l0 x26_2).f1))) (fun _ hk => hk.2) (.int .i64 ((rd_ITerm l0 x26_2).f2))) (fun _ hk => hk.2) (.int .i64 ((rd_ITerm l0 x26_2).f3))) (fun _ hk => trivial)⟩, ⟨by (with_reducible repeat (first | refine blk_drewN ?_ _ | refine blk_drew ?_ | refine blk_alloc ?_ _)); refine blk_put (cs := #[.int .i64 ((rd_ITerm l0 x26_2).f0), .int .i64 ((rd_ITerm l0 x26_2).f1), .int .i64 ((rd_ITerm l0 x26_2).f2), .int .i64 0]) ?_ 3 _ rfl; (with_reducible repeat (first | refine blk_drewN ?_ _ | refine blk_drew ?_ | refine blk_alloc ?_ _)); refine blk_put (cs := #[.int .i64 ((rd_ITerm l0 x26_2).f0), .int .i64 ((rd_ITerm l0 x26_2).f1), .int .i64 0, .int .i64 0]) ?_ 2 _ rfl; (with_reducible repeat (first | refine blk_drewN ?_ _ | refine blk_drew ?_ | refine blk_alloc ?_ _)); refine blk_put (cs := #[.int .i64 ((rd_ITerm l0 x26_2).f0), .int .i64 0, .int .i64 0, .int .i64 0]) ?_ 1 _ rfl; (with_reducible repeat (first | refine blk_drewN ?_ _ | refine blk_drew ?_ | refine blk_alloc ?_ _)); refine blk_put (cs := #[.int .i64 0, .int .i64 0, .int .i64 0, .int .i64 0]) ?_ 0 _ rfl; exact kz BK277⟩, ⟨bz1 HB GE277⟩⟩
             ·
              rw [if_neg c27] at H
              have c27b0 : (((rd_ITerm l0 x26_2).f0) == 1) = false := beq_eq_false_iff_ne.mpr c27
              have c27b1 : (((rd_ITerm l0 x26_2).f0) != 1) = true := bne_iff_ne.mpr c27
              by_cases c34 : t281 = true
              ·
               subst c34
               rw [if_pos rfl] at H
               by_cases c35 : ((rd_ITerm l0 x26_2).f1) = 0
               ·
                rw [if_pos c35] at H
                have c35b0 : (((rd_ITerm l0 x26_2).f1) == 0) = true := beq_iff_eq.mpr c35
                have c35b1 : (((rd_ITerm l0 x26_2).f1) != 0) = false := bne_eq_false_iff_eq.mpr c35
                clear c35
                replace H := Option.bind_eq_some_iff.mp H
                obtain ⟨t284, A360, H⟩ := H
                have A36 := Aside0.mk A360
                clear A360
                by_cases c37 : t284 = true
                ·
                 subst c37
                 rw [if_pos rfl] at H
                 replace H := Option.bind_eq_some_iff.mp H
                 obtain ⟨t285, A380, H⟩ := H
                 have A38 := Aside0.mk A380
                 clear A380
                 by_cases c39 : t285 = true
                 ·
                  subst c39
                  rw [if_pos rfl] at H
                  by_cases c40 : 0 ≤ ((rd_ITerm l0 x26_2).f2)
                  ·
                   rw [if_pos c40] at H
                   have c40b0 : decide (0 ≤ ((rd_ITerm l0 x26_2).f2)) = true := decide_eq_true c40
                   clear c40
                   by_cases c41 : ((rd_ITerm l0 x26_2).f2) < (x5_2.length : Int)
                   ·
                    rw [if_pos c41] at H
                    have c41b0 : decide (((rd_ITerm l0 x26_2).f2) < (x5_2.length : Int)) = true := decide_eq_true c41
                    clear c41
                    by_cases c42 : (rd x5_2 ((rd_ITerm l0 x26_2).f2)) = t279
                    ·
                     rw [if_pos c42] at H
                     have c42b0 : ((rd x5_2 ((rd_ITerm l0 x26_2).f2)) == t279) = true := beq_iff_eq.mpr c42
                     have c42b1 : ((rd x5_2 ((rd_ITerm l0 x26_2).f2)) != t279) = false := bne_eq_false_iff_eq.mpr c42
                     clear c42
                     by_cases c43 : 0 ≤ ((rd_ITerm l0 x26_2).f3)
                     ·
                      rw [if_pos c43] at H
                      have c43b0 : decide (0 ≤ ((rd_ITerm l0 x26_2).f3)) = true := decide_eq_true c43
                      clear c43
                      by_cases c44 : ((rd_ITerm l0 x26_2).f3) < (x5_2.length : Int)
                      ·
                       rw [if_pos c44] at H
                       have c44b0 : decide (((rd_ITerm l0 x26_2).f3) < (x5_2.length : Int)) = true := decide_eq_true c44
                       clear c44
                       by_cases c45 : (rd x5_2 ((rd_ITerm l0 x26_2).f3)) = t279
                       ·
                        rw [if_pos c45] at H
                        have c45b0 : ((rd x5_2 ((rd_ITerm l0 x26_2).f3)) == t279) = true := beq_iff_eq.mpr c45
                        have c45b1 : ((rd x5_2 ((rd_ITerm l0 x26_2).f3)) != t279) = false := bne_eq_false_iff_eq.mpr c45
                        clear c45
                        by_cases c46 : t278 = 2
                        ·
                         rw [if_pos c46] at H
                         have c46b0 : (t278 == 2) = true := beq_iff_eq.mpr c46
                         have c46b1 : (t278 != 2) = false := bne_eq_false_iff_eq.mpr c46
                         clear c46
                         have H' := Aside0.mk H
                         clear H
                         have hcz47_0 : w18.cell? ⟨gb277, 0, none⟩ = some (.int .i64 0) := (blk_cell BK277.out 0).trans rfl
                         have hcz47_1 : w18.cell? ⟨gb277, 1, none⟩ = some (.int .i64 0) := (blk_cell BK277.out 1).trans rfl
                         have hcz47_2 : w18.cell? ⟨gb277, 2, none⟩ = some (.int .i64 0) := (blk_cell BK277.out 2).trans rfl
                         have hcz47_3 : w18.cell? ⟨gb277, 3, none⟩ = some (.int .i64 0) := (blk_cell BK277.out 3).trans rfl
                         have hfz47_0 := blk_frozen BK277.out 0
                         have hfz47_1 := blk_frozen BK277.out 1
                         have hfz47_2 := blk_frozen BK277.out 2
                         have hfz47_3 := blk_frozen BK277.out 3
                         go_wp2_with (first | (go_at_call 96; (with_reducible refine (impl_in.calls ((rd_ITerm l0 x26_2).f2) 0 (wrap64 (x26_2 - 1)) true _ A36.out).mono ?_); rintro e w' ⟨rfl, ⟨nd, rfl⟩⟩) | (go_at_call 96; (with_reducible refine (impl_in.calls ((rd_ITerm l0 x26_2).f3) 0 (wrap64 (x26_2 - 1)) true _ A38.out).mono ?_); rintro e w' ⟨rfl, ⟨nd, rfl⟩⟩; obtain ⟨Ao48, co48, eo48⟩ := Kd.R_slice HO_5.out; subst eo48; have p286 : 0 ≤ (((rd_ITerm l0 x26_2).f2) : Int) := dz; have q286 : ((rd_ITerm l0 x26_2).f2) < (x5_2.length : Int) := dz; obtain ⟨ad286, e286, hx286_0⟩ := Kd.at_int (Kd.R_reads' HO_5.out).2.2 ((rd_ITerm l0 x26_2).f2) p286 q286; cases e286; have hn286_0 : ad286.block ≠ gb277 := Kd.own_blk (Kd.R_ne HO_5.out BK277.out (by decide)); have hn286_1 : ad286.block ≠ gb277 := Kd.own_blk (Kd.R_ne HO_5.out BK277.out (by decide)); have hn286_2 : ad286.block ≠ gb277 := Kd.own_blk (Kd.R_ne HO_5.out BK277.out (by decide)); have hn286_3 : ad286.block ≠ gb277 := Kd.own_blk (Kd.R_ne HO_5.out BK277.out (by decide)); replace hx286_0 := (cell_far (p := ⟨gb277, 0, none⟩) (by first | (rw [add_block]; exact hn286_0) | (show (Addr.add _ _).block ≠ _; rw [add_block]; exact hn286_0) | exact hn286_0) (.int .i64 ((rd_ITerm l0 x26_2).f0))).trans hx286_0; replace hx286_0 := (cell_far (p := ⟨gb277, 1, none⟩) (by first | (rw [add_block]; exact hn286_1) | (show (Addr.add _ _).block ≠ _; rw [add_block]; exact hn286_1) | exact hn286_1) (.int .i64 ((rd_ITerm l0 x26_2).f1))).trans hx286_0; replace hx286_0 := (cell_far (p := ⟨gb277, 2, none⟩) (by first | (rw [add_block]; exact hn286_2) | (show (Addr.add _ _).block ≠ _; rw [add_block]; exact hn286_2) | exact hn286_2) (.int .i64 ((rd_ITerm l0 x26_2).f2))).trans hx286_0; replace hx286_0 := (cell_far (p := ⟨gb277, 3, none⟩) (by first | (rw [add_block]; exact hn286_3) | (show (Addr.add _ _).block ≠ _; rw [add_block]; exact hn286_3) | exact hn286_3) (.int .i64 ((rd_ITerm l0 x26_2).f3))).trans hx286_0; clear hn286_0; clear hn286_1; clear hn286_2; clear hn286_3; replace p286 := eq_true p286; replace q286 := eq_true q286; have p287 : 0 ≤ (((rd_ITerm l0 x26_2).f3) : Int) := dz; have q287 : ((rd_ITerm l0 x26_2).f3) < (x5_2.length : Int) := dz; obtain ⟨ad287, e287, hx287_0⟩ := Kd.at_int (Kd.R_reads' HO_5.out).2.2 ((rd_ITerm l0 x26_2).f3) p287 q287; obtain rfl : ad286 = ad287 := (by injection e287); have hn287_0 : ad286.block ≠ gb277 := Kd.own_blk (Kd.R_ne HO_5.out BK277.out (by decide)); have hn287_1 : ad286.block ≠ gb277 := Kd.own_blk (Kd.R_ne HO_5.out BK277.out (by decide)); have hn287_2 : ad286.block ≠ gb277 := Kd.own_blk (Kd.R_ne HO_5.out BK277.out (by decide)); have hn287_3 : ad286.block ≠ gb277 := Kd.own_blk (Kd.R_ne HO_5.out BK277.out (by decide)); replace hx287_0 := (cell_far (p := ⟨gb277, 0, none⟩) (by first | (rw [add_block]; exact hn287_0) | (show (Addr.add _ _).block ≠ _; rw [add_block]; exact hn287_0) | exact hn287_0) (.int .i64 ((rd_ITerm l0 x26_2).f0))).trans hx287_0; replace hx287_0 := (cell_far (p := ⟨gb277, 1, none⟩) (by first | (rw [add_block]; exact hn287_1) | (show (Addr.add _ _).block ≠ _; rw [add_block]; exact hn287_1) | exact hn287_1) (.int .i64 ((rd_ITerm l0 x26_2).f1))).trans hx287_0; replace hx287_0 := (cell_far (p := ⟨gb277, 2, none⟩) (by first | (rw [add_block]; exact hn287_2) | (show (Addr.add _ _).block ≠ _; rw [add_block]; exact hn287_2) | exact hn287_2) (.int .i64 ((rd_ITerm l0 x26_2).f2))).trans hx287_0; replace hx287_0 := (cell_far (p := ⟨gb277, 3, none⟩) (by first | (rw [add_block]; exact hn287_3) | (show (Addr.add _ _).block ≠ _; rw [add_block]; exact hn287_3) | exact hn287_3) (.int .i64 ((rd_ITerm l0 x26_2).f3))).trans hx287_0; clear hn287_0; clear hn287_1; clear hn287_2; clear hn287_3; replace p287 := eq_true p287; replace q287 := eq_true q287))
                         go_meet
                         case rel => exact ⟨_, (true), rq, H', ⟨by have := HJ2.out; have := HK2.out; first | omega | exact Nat.le_refl _⟩, ⟨by (with_reducible repeat (first | apply Kd.R_alloc | apply Kd.R_drewN | apply Kd.R_drew)); exact Kd.R_mono (Kd.R_far (p := ⟨gb277, 3, none⟩) (Kd.R_far (p := ⟨gb277, 2, none⟩) (Kd.R_far (p := ⟨gb277, 1, none⟩) (Kd.R_far (p := ⟨gb277, 0, none⟩) (Kd.R_types HO_5.out BK277.out (by decide)) (fun _ hk => hk.2) (.int .i64 ((rd_ITerm l0 x26_2).f0))) (fun _ hk => hk.2) (.int .i64 ((rd_ITerm l0 x26_2).f1))) (fun _ hk => hk.2) (.int .i64 ((rd_ITerm l0 x26_2).f2))) (fun _ hk => hk.2) (.int .i64 ((rd_ITerm l0 x26_2).f3))) (fun _ hk => trivial)⟩, ⟨by (with_reducible repeat (first | refine blk_drewN ?_ _ | refine blk_drew ?_ | refine blk_alloc ?_ _)); refine blk_put (cs := #[.int .i64 ((rd_ITerm l0 x26_2).f0), .int .i64 ((rd_ITerm l0 x26_2).f1), .int .i64 ((rd_ITerm l0 x26_2).f2), .int .i64 0]) ?_ 3 _ rfl; (with_reducible repeat (first | refine blk_drewN ?_ _ | refine blk_drew ?_ | refine blk_alloc ?_ _)); refine blk_put (cs := #[.int .i64 ((rd_ITerm l0 x26_2).f0), .int .i64 ((rd_ITerm l0 x26_2).f1), .int .i64 0, .int .i64 0]) ?_ 2 _ rfl; (with_reducible repeat (first | refine blk_drewN ?_ _ | refine blk_drew ?_ | refine blk_alloc ?_ _)); refine blk_put (cs := #[.int .i64 ((rd_ITerm l0 x26_2).f0), .int .i64 0, .int .i64 0, .int .i64 0]) ?_ 1 _ rfl; (with_reducible repeat (first | refine blk_drewN ?_ _ | refine blk_drew ?_ | refine blk_alloc ?_ _)); refine blk_put (cs := #[.int .i64 0, .int .i64 0, .int .i64 0, .int .i64 0]) ?_ 0 _ rfl; exact kz BK277⟩, ⟨bz1 HB GE277⟩⟩
                        ·
                         rw [if_neg c46] at H
                         have c46b0 : (t278 == 2) = false := beq_eq_false_iff_ne.mpr c46
                         have c46b1 : (t278 != 2) = true := bne_iff_ne.mpr c46
                         have H' := Aside0.mk H
                         clear H
                         have hcz49_0 : w18.cell? ⟨gb277, 0, none⟩ = some (.int .i64 0) := (blk_cell BK277.out 0).trans rfl
                         have hcz49_1 : w18.cell? ⟨gb277, 1, none⟩ = some (.int .i64 0) := (blk_cell BK277.out 1).trans rfl
                         have hcz49_2 : w18.cell? ⟨gb277, 2, none⟩ = some (.int .i64 0) := (blk_cell BK277.out 2).trans rfl
                         have hcz49_3 : w18.cell? ⟨gb277, 3, none⟩ = some (.int .i64 0) := (blk_cell BK277.out 3).trans rfl
                         have hfz49_0 := blk_frozen BK277.out 0
                         have hfz49_1 := blk_frozen BK277.out 1
                         have hfz49_2 := blk_frozen BK277.out 2
                         have hfz49_3 := blk_frozen BK277.out 3
                         go_wp2_with (first | (go_at_call 96; (with_reducible refine (impl_in.calls ((rd_ITerm l0 x26_2).f2) 0 (wrap64 (x26_2 - 1)) true _ A36.out).mono ?_); rintro e w' ⟨rfl, ⟨nd, rfl⟩⟩) | (go_at_call 96; (with_reducible refine (impl_in.calls ((rd_ITerm l0 x26_2).f3) 0 (wrap64 (x26_2 - 1)) true _ A38.out).mono ?_); rintro e w' ⟨rfl, ⟨nd, rfl⟩⟩; obtain ⟨Ao50, co50, eo50⟩ := Kd.R_slice HO_5.out; subst eo50; have p286 : 0 ≤ (((rd_ITerm l0 x26_2).f2) : Int) := dz; have q286 : ((rd_ITerm l0 x26_2).f2) < (x5_2.length : Int) := dz; obtain ⟨ad286, e286, hx286_0⟩ := Kd.at_int (Kd.R_reads' HO_5.out).2.2 ((rd_ITerm l0 x26_2).f2) p286 q286; cases e286; have hn286_0 : ad286.block ≠ gb277 := Kd.own_blk (Kd.R_ne HO_5.out BK277.out (by decide)); have hn286_1 : ad286.block ≠ gb277 := Kd.own_blk (Kd.R_ne HO_5.out BK277.out (by decide)); have hn286_2 : ad286.block ≠ gb277 := Kd.own_blk (Kd.R_ne HO_5.out BK277.out (by decide)); have hn286_3 : ad286.block ≠ gb277 := Kd.own_blk (Kd.R_ne HO_5.out BK277.out (by decide)); replace hx286_0 := (cell_far (p := ⟨gb277, 0, none⟩) (by first | (rw [add_block]; exact hn286_0) | (show (Addr.add _ _).block ≠ _; rw [add_block]; exact hn286_0) | exact hn286_0) (.int .i64 ((rd_ITerm l0 x26_2).f0))).trans hx286_0; replace hx286_0 := (cell_far (p := ⟨gb277, 1, none⟩) (by first | (rw [add_block]; exact hn286_1) | (show (Addr.add _ _).block ≠ _; rw [add_block]; exact hn286_1) | exact hn286_1) (.int .i64 ((rd_ITerm l0 x26_2).f1))).trans hx286_0; replace hx286_0 := (cell_far (p := ⟨gb277, 2, none⟩) (by first | (rw [add_block]; exact hn286_2) | (show (Addr.add _ _).block ≠ _; rw [add_block]; exact hn286_2) | exact hn286_2) (.int .i64 ((rd_ITerm l0 x26_2).f2))).trans hx286_0; replace hx286_0 := (cell_far (p := ⟨gb277, 3, none⟩) (by first | (rw [add_block]; exact hn286_3) | (show (Addr.add _ _).block ≠ _; rw [add_block]; exact hn286_3) | exact hn286_3) (.int .i64 ((rd_ITerm l0 x26_2).f3))).trans hx286_0; clear hn286_0; clear hn286_1; clear hn286_2; clear hn286_3; replace p286 := eq_true p286; replace q286 := eq_true q286; have p287 : 0 ≤ (((rd_ITerm l0 x26_2).f3) : Int) := dz; have q287 : ((rd_ITerm l0 x26_2).f3) < (x5_2.length : Int) := dz; obtain ⟨ad287, e287, hx287_0⟩ := Kd.at_int (Kd.R_reads' HO_5.out).2.2 ((rd_ITerm l0 x26_2).f3) p287 q287; obtain rfl : ad286 = ad287 := (by injection e287); have hn287_0 : ad286.block ≠ gb277 := Kd.own_blk (Kd.R_ne HO_5.out BK277.out (by decide)); have hn287_1 : ad286.block ≠ gb277 := Kd.own_blk (Kd.R_ne HO_5.out BK277.out (by decide)); have hn287_2 : ad286.block ≠ gb277 := Kd.own_blk (Kd.R_ne HO_5.out BK277.out (by decide)); have hn287_3 : ad286.block ≠ gb277 := Kd.own_blk (Kd.R_ne HO_5.out BK277.out (by decide)); replace hx287_0 := (cell_far (p := ⟨gb277, 0, none⟩) (by first | (rw [add_block]; exact hn287_0) | (show (Addr.add _ _).block ≠ _; rw [add_block]; exact hn287_0) | exact hn287_0) (.int .i64 ((rd_ITerm l0 x26_2).f0))).trans hx287_0; replace hx287_0 := (cell_far (p := ⟨gb277, 1, none⟩) (by first | (rw [add_block]; exact hn287_1) | (show (Addr.add _ _).block ≠ _; rw [add_block]; exact hn287_1) | exact hn287_1) (.int .i64 ((rd_ITerm l0 x26_2).f1))).trans hx287_0; replace hx287_0 := (cell_far (p := ⟨gb277, 2, none⟩) (by first | (rw [add_block]; exact hn287_2) | (show (Addr.add _ _).block ≠ _; rw [add_block]; exact hn287_2) | exact hn287_2) (.int .i64 ((rd_ITerm l0 x26_2).f2))).trans hx287_0; replace hx287_0 := (cell_far (p := ⟨gb277, 3, none⟩) (by first | (rw [add_block]; exact hn287_3) | (show (Addr.add _ _).block ≠ _; rw [add_block]; exact hn287_3) | exact hn287_3) (.int .i64 ((rd_ITerm l0 x26_2).f3))).trans hx287_0; clear hn287_0; clear hn287_1; clear hn287_2; clear hn287_3; replace p287 := eq_true p287; replace q287 := eq_true q287))
                         go_meet
                         case rel => exact ⟨_, ((((rd_ITerm l0 x26_2).f2) == ((rd_ITerm l0 x26_2).f3))), rq, H', ⟨by have := HJ2.out; have := HK2.out; first | omega | exact Nat.le_refl _⟩, ⟨by (with_reducible repeat (first | apply Kd.R_alloc | apply Kd.R_drewN | apply Kd.R_drew)); exact Kd.R_mono (Kd.R_far (p := ⟨gb277, 3, none⟩) (Kd.R_far (p := ⟨gb277, 2, none⟩) (Kd.R_far (p := ⟨gb277, 1, none⟩) (Kd.R_far (p := ⟨gb277, 0, none⟩) (Kd.R_types HO_5.out BK277.out (by decide)) (fun _ hk => hk.2) (.int .i64 ((rd_ITerm l0 x26_2).f0))) (fun _ hk => hk.2) (.int .i64 ((rd_ITerm l0 x26_2).f1))) (fun _ hk => hk.2) (.int .i64 ((rd_ITerm l0 x26_2).f2))) (fun _ hk => hk.2) (.int .i64 ((rd_ITerm l0 x26_2).f3))) (fun _ hk => trivial)⟩, ⟨by (with_reducible repeat (first | refine blk_drewN ?_ _ | refine blk_drew ?_ | refine blk_alloc ?_ _)); refine blk_put (cs := #[.int .i64 ((rd_ITerm l0 x26_2).f0), .int .i64 ((rd_ITerm l0 x26_2).f1), .int .i64 ((rd_ITerm l0 x26_2).f2), .int .i64 0]) ?_ 3 _ rfl; (with_reducible repeat (first | refine blk_drewN ?_ _ | refine blk_drew ?_ | refine blk_alloc ?_ _)); refine blk_put (cs := #[.int .i64 ((rd_ITerm l0 x26_2).f0), .int .i64 ((rd_ITerm l0 x26_2).f1), .int .i64 0, .int .i64 0]) ?_ 2 _ rfl; (with_reducible repeat (first | refine blk_drewN ?_ _ | refine blk_drew ?_ | refine blk_alloc ?_ _)); refine blk_put (cs := #[.int .i64 ((rd_ITerm l0 x26_2).f0), .int .i64 0, .int .i64 0, .int .i64 0]) ?_ 1 _ rfl; (with_reducible repeat (first | refine blk_drewN ?_ _ | refine blk_drew ?_ | refine blk_alloc ?_ _)); refine blk_put (cs := #[.int .i64 0, .int .i64 0, .int .i64 0, .int .i64 0]) ?_ 0 _ rfl; exact kz BK277⟩, ⟨bz1 HB GE277⟩⟩
                       ·
                        rw [if_neg c45] at H
                        have c45b0 : ((rd x5_2 ((rd_ITerm l0 x26_2).f3)) == t279) = false := beq_eq_false_iff_ne.mpr c45
                        have c45b1 : ((rd x5_2 ((rd_ITerm l0 x26_2).f3)) != t279) = true := bne_iff_ne.mpr c45
                        have H' := Aside0.mk H
                        clear H
                        have hcz51_0 : w18.cell? ⟨gb277, 0, none⟩ = some (.int .i64 0) := (blk_cell BK277.out 0).trans rfl
                        have hcz51_1 : w18.cell? ⟨gb277, 1, none⟩ = some (.int .i64 0) := (blk_cell BK277.out 1).trans rfl
                        have hcz51_2 : w18.cell? ⟨gb277, 2, none⟩ = some (.int .i64 0) := (blk_cell BK277.out 2).trans rfl
                        have hcz51_3 : w18.cell? ⟨gb277, 3, none⟩ = some (.int .i64 0) := (blk_cell BK277.out 3).trans rfl
                        have hfz51_0 := blk_frozen BK277.out 0
                        have hfz51_1 := blk_frozen BK277.out 1
                        have hfz51_2 := blk_frozen BK277.out 2
                        have hfz51_3 := blk_frozen BK277.out 3
                        go_wp2_with (first | (go_at_call 96; (with_reducible refine (impl_in.calls ((rd_ITerm l0 x26_2).f2) 0 (wrap64 (x26_2 - 1)) true _ A36.out).mono ?_); rintro e w' ⟨rfl, ⟨nd, rfl⟩⟩) | (go_at_call 96; (with_reducible refine (impl_in.calls ((rd_ITerm l0 x26_2).f3) 0 (wrap64 (x26_2 - 1)) true _ A38.out).mono ?_); rintro e w' ⟨rfl, ⟨nd, rfl⟩⟩; obtain ⟨Ao52, co52, eo52⟩ := Kd.R_slice HO_5.out; subst eo52; have p286 : 0 ≤ (((rd_ITerm l0 x26_2).f2) : Int) := dz; have q286 : ((rd_ITerm l0 x26_2).f2) < (x5_2.length : Int) := dz; obtain ⟨ad286, e286, hx286_0⟩ := Kd.at_int (Kd.R_reads' HO_5.out).2.2 ((rd_ITerm l0 x26_2).f2) p286 q286; cases e286; have hn286_0 : ad286.block ≠ gb277 := Kd.own_blk (Kd.R_ne HO_5.out BK277.out (by decide)); have hn286_1 : ad286.block ≠ gb277 := Kd.own_blk (Kd.R_ne HO_5.out BK277.out (by decide)); have hn286_2 : ad286.block ≠ gb277 := Kd.own_blk (Kd.R_ne HO_5.out BK277.out (by decide)); have hn286_3 : ad286.block ≠ gb277 := Kd.own_blk (Kd.R_ne HO_5.out BK277.out (by decide)); replace hx286_0 := (cell_far (p := ⟨gb277, 0, none⟩) (by first | (rw [add_block]; exact hn286_0) | (show (Addr.add _ _).block ≠ _; rw [add_block]; exact hn286_0) | exact hn286_0) (.int .i64 ((rd_ITerm l0 x26_2).f0))).trans hx286_0; replace hx286_0 := (cell_far (p := ⟨gb277, 1, none⟩) (by first | (rw [add_block]; exact hn286_1) | (show (Addr.add _ _).block ≠ _; rw [add_block]; exact hn286_1) | exact hn286_1) (.int .i64 ((rd_ITerm l0 x26_2).f1))).trans hx286_0; replace hx286_0 := (cell_far (p := ⟨gb277, 2, none⟩) (by first | (rw [add_block]; exact hn286_2) | (show (Addr.add _ _).block ≠ _; rw [add_block]; exact hn286_2) | exact hn286_2) (.int .i64 ((rd_ITerm l0 x26_2).f2))).trans hx286_0; replace hx286_0 := (cell_far (p := ⟨gb277, 3, none⟩) (by first | (rw [add_block]; exact hn286_3) | (show (Addr.add _ _).block ≠ _; rw [add_block]; exact hn286_3) | exact hn286_3) (.int .i64 ((rd_ITerm l0 x26_2).f3))).trans hx286_0; clear hn286_0; clear hn286_1; clear hn286_2; clear hn286_3; replace p286 := eq_true p286; replace q286 := eq_true q286; have p287 : 0 ≤ (((rd_ITerm l0 x26_2).f3) : Int) := dz; have q287 : ((rd_ITerm l0 x26_2).f3) < (x5_2.length : Int) := dz; obtain ⟨ad287, e287, hx287_0⟩ := Kd.at_int (Kd.R_reads' HO_5.out).2.2 ((rd_ITerm l0 x26_2).f3) p287 q287; obtain rfl : ad286 = ad287 := (by injection e287); have hn287_0 : ad286.block ≠ gb277 := Kd.own_blk (Kd.R_ne HO_5.out BK277.out (by decide)); have hn287_1 : ad286.block ≠ gb277 := Kd.own_blk (Kd.R_ne HO_5.out BK277.out (by decide)); have hn287_2 : ad286.block ≠ gb277 := Kd.own_blk (Kd.R_ne HO_5.out BK277.out (by decide)); have hn287_3 : ad286.block ≠ gb277 := Kd.own_blk (Kd.R_ne HO_5.out BK277.out (by decide)); replace hx287_0 := (cell_far (p := ⟨gb277, 0, none⟩) (by first | (rw [add_block]; exact hn287_0) | (show (Addr.add _ _).block ≠ _; rw [add_block]; exact hn287_0) | exact hn287_0) (.int .i64 ((rd_ITerm l0 x26_2).f0))).trans hx287_0; replace hx287_0 := (cell_far (p := ⟨gb277, 1, none⟩) (by first | (rw [add_block]; exact hn287_1) | (show (Addr.add _ _).block ≠ _; rw [add_block]; exact hn287_1) | exact hn287_1) (.int .i64 ((rd_ITerm l0 x26_2).f1))).trans hx287_0; replace hx287_0 := (cell_far (p := ⟨gb277, 2, none⟩) (by first | (rw [add_block]; exact hn287_2) | (show (Addr.add _ _).block ≠ _; rw [add_block]; exact hn287_2) | exact hn287_2) (.int .i64 ((rd_ITerm l0 x26_2).f2))).trans hx287_0; replace hx287_0 := (cell_far (p := ⟨gb277, 3, none⟩) (by first | (rw [add_block]; exact hn287_3) | (show (Addr.add _ _).block ≠ _; rw [add_block]; exact hn287_3) | exact hn287_3) (.int .i64 ((rd_ITerm l0 x26_2).f3))).trans hx287_0; clear hn287_0; clear hn287_1; clear hn287_2; clear hn287_3; replace p287 := eq_true p287; replace q287 := eq_true q287))
                        go_meet
                        case rel => exact ⟨_, (false), rq, H', ⟨by have := HJ2.out; have := HK2.out; first | omega | exact Nat.le_refl _⟩, ⟨by (with_reducible repeat (first | apply Kd.R_alloc | apply Kd.R_drewN | apply Kd.R_drew)); exact Kd.R_mono (Kd.R_far (p := ⟨gb277, 3, none⟩) (Kd.R_far (p := ⟨gb277, 2, none⟩) (Kd.R_far (p := ⟨gb277, 1, none⟩) (Kd.R_far (p := ⟨gb277, 0, none⟩) (Kd.R_types HO_5.out BK277.out (by decide)) (fun _ hk => hk.2) (.int .i64 ((rd_ITerm l0 x26_2).f0))) (fun _ hk => hk.2) (.int .i64 ((rd_ITerm l0 x26_2).f1))) (fun _ hk => hk.2) (.int .i64 ((rd_ITerm l0 x26_2).f2))) (fun _ hk => hk.2) (.int .i64 ((rd_ITerm l0 x26_2).f3))) (fun _ hk => trivial)⟩, ⟨by (with_reducible repeat (first | refine blk_drewN ?_ _ | refine blk_drew ?_ | refine blk_alloc ?_ _)); refine blk_put (cs := #[.int .i64 ((rd_ITerm l0 x26_2).f0), .int .i64 ((rd_ITerm l0 x26_2).f1), .int .i64 ((rd_ITerm l0 x26_2).f2), .int .i64 0]) ?_ 3 _ rfl; (with_reducible repeat (first | refine blk_drewN ?_ _ | refine blk_drew ?_ | refine blk_alloc ?_ _)); refine blk_put (cs := #[.int .i64 ((rd_ITerm l0 x26_2).f0), .int .i64 ((rd_ITerm l0 x26_2).f1), .int .i64 0, .int .i64 0]) ?_ 2 _ rfl; (with_reducible repeat (first | refine blk_drewN ?_ _ | refine blk_drew ?_ | refine blk_alloc ?_ _)); refine blk_put (cs := #[.int .i64 ((rd_ITerm l0 x26_2).f0), .int .i64 0, .int .i64 0, .int .i64 0]) ?_ 1 _ rfl; (with_reducible repeat (first | refine blk_drewN ?_ _ | refine blk_drew ?_ | refine blk_alloc ?_ _)); refine blk_put (cs := #[.int .i64 0, .int .i64 0, .int .i64 0, .int .i64 0]) ?_ 0 _ rfl; exact kz BK277⟩, ⟨bz1 HB GE277⟩⟩
                      ·
                       rw [if_neg c44] at H
                       exact absurd H (by simp)
                     ·
                      rw [if_neg c43] at H
                      exact absurd H (by simp)
                    ·
                     rw [if_neg c42] at H
                     have c42b0 : ((rd x5_2 ((rd_ITerm l0 x26_2).f2)) == t279) = false := beq_eq_false_iff_ne.mpr c42
                     have c42b1 : ((rd x5_2 ((rd_ITerm l0 x26_2).f2)) != t279) = true := bne_iff_ne.mpr c42
                     have H' := Aside0.mk H
                     clear H
                     have hcz53_0 : w18.cell? ⟨gb277, 0, none⟩ = some (.int .i64 0) := (blk_cell BK277.out 0).trans rfl
                     have hcz53_1 : w18.cell? ⟨gb277, 1, none⟩ = some (.int .i64 0) := (blk_cell BK277.out 1).trans rfl
                     have hcz53_2 : w18.cell? ⟨gb277, 2, none⟩ = some (.int .i64 0) := (blk_cell BK277.out 2).trans rfl
                     have hcz53_3 : w18.cell? ⟨gb277, 3, none⟩ = some (.int .i64 0) := (blk_cell BK277.out 3).trans rfl
                     have hfz53_0 := blk_frozen BK277.out 0
                     have hfz53_1 := blk_frozen BK277.out 1
                     have hfz53_2 := blk_frozen BK277.out 2
                     have hfz53_3 := blk_frozen BK277.out 3
                     go_wp2_with (first | (go_at_call 96; (with_reducible refine (impl_in.calls ((rd_ITerm l0 x26_2).f2) 0 (wrap64 (x26_2 - 1)) true _ A36.out).mono ?_); rintro e w' ⟨rfl, ⟨nd, rfl⟩⟩) | (go_at_call 96; (with_reducible refine (impl_in.calls ((rd_ITerm l0 x26_2).f3) 0 (wrap64 (x26_2 - 1)) true _ A38.out).mono ?_); rintro e w' ⟨rfl, ⟨nd, rfl⟩⟩; obtain ⟨Ao54, co54, eo54⟩ := Kd.R_slice HO_5.out; subst eo54; have p286 : 0 ≤ (((rd_ITerm l0 x26_2).f2) : Int) := dz; have q286 : ((rd_ITerm l0 x26_2).f2) < (x5_2.length : Int) := dz; obtain ⟨ad286, e286, hx286_0⟩ := Kd.at_int (Kd.R_reads' HO_5.out).2.2 ((rd_ITerm l0 x26_2).f2) p286 q286; cases e286; have hn286_0 : ad286.block ≠ gb277 := Kd.own_blk (Kd.R_ne HO_5.out BK277.out (by decide)); have hn286_1 : ad286.block ≠ gb277 := Kd.own_blk (Kd.R_ne HO_5.out BK277.out (by decide)); have hn286_2 : ad286.block ≠ gb277 := Kd.own_blk (Kd.R_ne HO_5.out BK277.out (by decide)); have hn286_3 : ad286.block ≠ gb277 := Kd.own_blk (Kd.R_ne HO_5.out BK277.out (by decide)); replace hx286_0 := (cell_far (p := ⟨gb277, 0, none⟩) (by first | (rw [add_block]; exact hn286_0) | (show (Addr.add _ _).block ≠ _; rw [add_block]; exact hn286_0) | exact hn286_0) (.int .i64 ((rd_ITerm l0 x26_2).f0))).trans hx286_0; replace hx286_0 := (cell_far (p := ⟨gb277, 1, none⟩) (by first | (rw [add_block]; exact hn286_1) | (show (Addr.add _ _).block ≠ _; rw [add_block]; exact hn286_1) | exact hn286_1) (.int .i64 ((rd_ITerm l0 x26_2).f1))).trans hx286_0; replace hx286_0 := (cell_far (p := ⟨gb277, 2, none⟩) (by first | (rw [add_block]; exact hn286_2) | (show (Addr.add _ _).block ≠ _; rw [add_block]; exact hn286_2) | exact hn286_2) (.int .i64 ((rd_ITerm l0 x26_2).f2))).trans hx286_0; replace hx286_0 := (cell_far (p := ⟨gb277, 3, none⟩) (by first | (rw [add_block]; exact hn286_3) | (show (Addr.add _ _).block ≠ _; rw [add_block]; exact hn286_3) | exact hn286_3) (.int .i64 ((rd_ITerm l0 x26_2).f3))).trans hx286_0; clear hn286_0; clear hn286_1; clear hn286_2; clear hn286_3; replace p286 := eq_true p286; replace q286 := eq_true q286))
                     go_meet
                     case rel => exact ⟨_, (false), rq, H', ⟨by have := HJ2.out; have := HK2.out; first | omega | exact Nat.le_refl _⟩, ⟨by (with_reducible repeat (first | apply Kd.R_alloc | apply Kd.R_drewN | apply Kd.R_drew)); exact Kd.R_mono (Kd.R_far (p := ⟨gb277, 3, none⟩) (Kd.R_far (p := ⟨gb277, 2, none⟩) (Kd.R_far (p := ⟨gb277, 1, none⟩) (Kd.R_far (p := ⟨gb277, 0, none⟩) (Kd.R_types HO_5.out BK277.out (by decide)) (fun _ hk => hk.2) (.int .i64 ((rd_ITerm l0 x26_2).f0))) (fun _ hk => hk.2) (.int .i64 ((rd_ITerm l0 x26_2).f1))) (fun _ hk => hk.2) (.int .i64 ((rd_ITerm l0 x26_2).f2))) (fun _ hk => hk.2) (.int .i64 ((rd_ITerm l0 x26_2).f3))) (fun _ hk => trivial)⟩, ⟨by (with_reducible repeat (first | refine blk_drewN ?_ _ | refine blk_drew ?_ | refine blk_alloc ?_ _)); refine blk_put (cs := #[.int .i64 ((rd_ITerm l0 x26_2).f0), .int .i64 ((rd_ITerm l0 x26_2).f1), .int .i64 ((rd_ITerm l0 x26_2).f2), .int .i64 0]) ?_ 3 _ rfl; (with_reducible repeat (first | refine blk_drewN ?_ _ | refine blk_drew ?_ | refine blk_alloc ?_ _)); refine blk_put (cs := #[.int .i64 ((rd_ITerm l0 x26_2).f0), .int .i64 ((rd_ITerm l0 x26_2).f1), .int .i64 0, .int .i64 0]) ?_ 2 _ rfl; (with_reducible repeat (first | refine blk_drewN ?_ _ | refine blk_drew ?_ | refine blk_alloc ?_ _)); refine blk_put (cs := #[.int .i64 ((rd_ITerm l0 x26_2).f0), .int .i64 0, .int .i64 0, .int .i64 0]) ?_ 1 _ rfl; (with_reducible repeat (first | refine blk_drewN ?_ _ | refine blk_drew ?_ | refine blk_alloc ?_ _)); refine blk_put (cs := #[.int .i64 0, .int .i64 0, .int .i64 0, .int .i64 0]) ?_ 0 _ rfl; exact kz BK277⟩, ⟨bz1 HB GE277⟩⟩
                   ·
                    rw [if_neg c41] at H
                    exact absurd H (by simp)
                  ·
                   rw [if_neg c40] at H
                   exact absurd H (by simp)
                 ·
                  replace c39 := Bool.eq_false_iff.mpr c39
                  subst c39
                  rw [if_neg nt_] at H
                  have H' := Aside0.mk H
                  clear H
                  have hcz55_0 : w18.cell? ⟨gb277, 0, none⟩ = some (.int .i64 0) := (blk_cell BK277.out 0).trans rfl
                  have hcz55_1 : w18.cell? ⟨gb277, 1, none⟩ = some (.int .i64 0) := (blk_cell BK277.out 1).trans rfl
                  have hcz55_2 : w18.cell? ⟨gb277, 2, none⟩ = some (.int .i64 0) := (blk_cell BK277.out 2).trans rfl
                  have hcz55_3 : w18.cell? ⟨gb277, 3, none⟩ = some (.int .i64 0) := (blk_cell BK277.out 3).trans rfl
                  have hfz55_0 := blk_frozen BK277.out 0
                  have hfz55_1 := blk_frozen BK277.out 1
                  have hfz55_2 := blk_frozen BK277.out 2
                  have hfz55_3 := blk_frozen BK277.out 3
                  go_wp2_with (first | (go_at_call 96; (with_reducible refine (impl_in.calls ((rd_ITerm l0 x26_2).f2) 0 (wrap64 (x26_2 - 1)) true _ A36.out).mono ?_); rintro e w' ⟨rfl, ⟨nd, rfl⟩⟩) | (go_at_call 96; (with_reducible refine (impl_in.calls ((rd_ITerm l0 x26_2).f3) 0 (wrap64 (x26_2 - 1)) false _ A38.out).mono ?_); rintro e w' ⟨rfl, ⟨nd, rfl⟩⟩))
                  go_meet
                  case rel => exact ⟨_, (false), rq, H', ⟨by have := HJ2.out; have := HK2.out; first | omega | exact Nat.le_refl _⟩, ⟨by (with_reducible repeat (first | apply Kd.R_alloc | apply Kd.R_drewN | apply Kd.R_drew)); exact Kd.R_mono (Kd.R_far (p := ⟨gb277, 3, none⟩) (Kd.R_far (p := ⟨gb277, 2, none⟩) (Kd.R_far (p := ⟨gb277, 1, none⟩) (Kd.R_far (p := ⟨gb277, 0, none⟩) (Kd.R_types HO_5.out BK277.out (by decide)) (fun _ hk => hk.2) (.int .i64 ((rd_ITerm l0 x26_2).f0))) (fun _ hk => hk.2) (.int .i64 ((rd_ITerm l0 x26_2).f1))) (fun _ hk => hk.2) (.int .i64 ((rd_ITerm l0 x26_2).f2))) (fun _ hk => hk.2) (.int .i64 ((rd_ITerm l0 x26_2).f3))) (fun _ hk => trivial)⟩, ⟨by (with_reducible repeat (first | refine blk_drewN ?_ _ | refine blk_drew ?_ | refine blk_alloc ?_ _)); refine blk_put (cs := #[.int .i64 ((rd_ITerm l0 x26_2).f0), .int .i64 ((rd_ITerm l0 x26_2).f1), .int .i64 ((rd_ITerm l0 x26_2).f2), .int .i64 0]) ?_ 3 _ rfl; (with_reducible repeat (first | refine blk_drewN ?_ _ | refine blk_drew ?_ | refine blk_alloc ?_ _)); refine blk_put (cs := #[.int .i64 ((rd_ITerm l0 x26_2).f0), .int .i64 ((rd_ITerm l0 x26_2).f1), .int .i64 0, .int .i64 0]) ?_ 2 _ rfl; (with_reducible repeat (first | refine blk_drewN ?_ _ | refine blk_drew ?_ | refine blk_alloc ?_ _)); refine blk_put (cs := #[.int .i64 ((rd_ITerm l0 x26_2).f0), .int .i64 0, .int .i64 0, .int .i64 0]) ?_ 1 _ rfl; (with_reducible repeat (first | refine blk_drewN ?_ _ | refine blk_drew ?_ | refine blk_alloc ?_ _)); refine blk_put (cs := #[.int .i64 0, .int .i64 0, .int .i64 0, .int .i64 0]) ?_ 0 _ rfl; exact kz BK277⟩, ⟨bz1 HB GE277⟩⟩
                ·
                 replace c37 := Bool.eq_false_iff.mpr c37
                 subst c37
                 rw [if_neg nt_] at H
                 have H' := Aside0.mk H
                 clear H
                 have hcz56_0 : w18.cell? ⟨gb277, 0, none⟩ = some (.int .i64 0) := (blk_cell BK277.out 0).trans rfl
                 have hcz56_1 : w18.cell? ⟨gb277, 1, none⟩ = some (.int .i64 0) := (blk_cell BK277.out 1).trans rfl
                 have hcz56_2 : w18.cell? ⟨gb277, 2, none⟩ = some (.int .i64 0) := (blk_cell BK277.out 2).trans rfl
                 have hcz56_3 : w18.cell? ⟨gb277, 3, none⟩ = some (.int .i64 0) := (blk_cell BK277.out 3).trans rfl
                 have hfz56_0 := blk_frozen BK277.out 0
                 have hfz56_1 := blk_frozen BK277.out 1
                 have hfz56_2 := blk_frozen BK277.out 2
                 have hfz56_3 := blk_frozen BK277.out 3
                 go_wp2_with (first | (go_at_call 96; (with_reducible refine (impl_in.calls ((rd_ITerm l0 x26_2).f2) 0 (wrap64 (x26_2 - 1)) false _ A36.out).mono ?_); rintro e w' ⟨rfl, ⟨nd, rfl⟩⟩))
                 go_meet
                 case rel => exact ⟨_, (false), rq, H', ⟨by have := HJ2.out; have := HK2.out; first | omega | exact Nat.le_refl _⟩, ⟨by (with_reducible repeat (first | apply Kd.R_alloc | apply Kd.R_drewN | apply Kd.R_drew)); exact Kd.R_mono (Kd.R_far (p := ⟨gb277, 3, none⟩) (Kd.R_far (p := ⟨gb277, 2, none⟩) (Kd.R_far (p := ⟨gb277, 1, none⟩) (Kd.R_far (p := ⟨gb277, 0, none⟩) (Kd.R_types HO_5.out BK277.out (by decide)) (fun _ hk => hk.2) (.int .i64 ((rd_ITerm l0 x26_2).f0))) (fun _ hk => hk.2) (.int .i64 ((rd_ITerm l0 x26_2).f1))) (fun _ hk => hk.2) (.int .i64 ((rd_ITerm l0 x26_2).f2))) (fun _ hk => hk.2) (.int .i64 ((rd_ITerm l0 x26_2).f3))) (fun _ hk => trivial)⟩, ⟨by (with_reducible repeat (first | refine blk_drewN ?_ _ | refine blk_drew ?_ | refine blk_alloc ?_ _)); refine blk_put (cs := #[.int .i64 ((rd_ITerm l0 x26_2).f0), .int .i64 ((rd_ITerm l0 x26_2).f1), .int .i64 ((rd_ITerm l0 x26_2).f2), .int .i64 0]) ?_ 3 _ rfl; (with_reducible repeat (first | refine blk_drewN ?_ _ | refine blk_drew ?_ | refine blk_alloc ?_ _)); refine blk_put (cs := #[.int .i64 ((rd_ITerm l0 x26_2).f0), .int .i64 ((rd_ITerm l0 x26_2).f1), .int .i64 0, .int .i64 0]) ?_ 2 _ rfl; (with_reducible repeat (first | refine blk_drewN ?_ _ | refine blk_drew ?_ | refine blk_alloc ?_ _)); refine blk_put (cs := #[.int .i64 ((rd_ITerm l0 x26_2).f0), .int .i64 0, .int .i64 0, .int .i64 0]) ?_ 1 _ rfl; (with_reducible repeat (first | refine blk_drewN ?_ _ | refine blk_drew ?_ | refine blk_alloc ?_ _)); refine blk_put (cs := #[.int .i64 0, .int .i64 0, .int .i64 0, .int .i64 0]) ?_ 0 _ rfl; exact kz BK277⟩, ⟨bz1 HB GE277⟩⟩
               ·
                rw [if_neg c35] at H
                have c35b0 : (((rd_ITerm l0 x26_2).f1) == 0) = false := beq_eq_false_iff_ne.mpr c35
                have c35b1 : (((rd_ITerm l0 x26_2).f1) != 0) = true := bne_iff_ne.mpr c35
                have H' := Aside0.mk H
                clear H
                have hcz57_0 : w18.cell? ⟨gb277, 0, none⟩ = some (.int .i64 0) := (blk_cell BK277.out 0).trans rfl
                have hcz57_1 : w18.cell? ⟨gb277, 1, none⟩ = some (.int .i64 0) := (blk_cell BK277.out 1).trans rfl
                have hcz57_2 : w18.cell? ⟨gb277, 2, none⟩ = some (.int .i64 0) := (blk_cell BK277.out 2).trans rfl
                have hcz57_3 : w18.cell? ⟨gb277, 3, none⟩ = some (.int .i64 0) := (blk_cell BK277.out 3).trans rfl
                have hfz57_0 := blk_frozen BK277.out 0
                have hfz57_1 := blk_frozen BK277.out 1
                have hfz57_2 := blk_frozen BK277.out 2
                have hfz57_3 := blk_frozen BK277.out 3
                go_wp2
                go_meet
                case rel => exact ⟨_, (false), rq, H', ⟨by have := HJ2.out; have := HK2.out; first | omega | exact Nat.le_refl _⟩, ⟨by (with_reducible repeat (first | apply Kd.R_alloc | apply Kd.R_drewN | apply Kd.R_drew)); exact Kd.R_mono (Kd.R_far (p := ⟨gb277, 3, none⟩) (Kd.R_far (p := ⟨gb277, 2, none⟩) (Kd.R_far (p := ⟨gb277, 1, none⟩) (Kd.R_far (p := ⟨gb277, 0, none⟩) (Kd.R_types HO_5.out BK277.out (by decide)) (fun _ hk => hk.2) (.int .i64 ((rd_ITerm l0 x26_2).f0))) (fun _ hk => hk.2) (.int .i64 ((rd_ITerm l0 x26_2).f1))) (fun _ hk => hk.2) (.int .i64 ((rd_ITerm l0 x26_2).f2))) (fun _ hk => hk.2) (.int .i64 ((rd_ITerm l0 x26_2).f3))) (fun _ hk => trivial)⟩, ⟨by (with_reducible repeat (first | refine blk_drewN ?_ _ | refine blk_drew ?_ | refine blk_alloc ?_ _)); refine blk_put (cs := #[.int .i64 ((rd_ITerm l0 x26_2).f0), .int .i64 ((rd_ITerm l0 x26_2).f1), .int .i64 ((rd_ITerm l0 x26_2).f2), .int .i64 0]) ?_ 3 _ rfl; (with_reducible repeat (first | refine blk_drewN ?_ _ | refine blk_drew ?_ | refine blk_alloc ?_ _)); refine blk_put (cs := #[.int .i64 ((rd_ITerm l0 x26_2).f0), .int .i64 ((rd_ITerm l0 x26_2).f1), .int .i64 0, .int .i64 0]) ?_ 2 _ rfl; (with_reducible repeat (first | refine blk_drewN ?_ _ | refine blk_drew ?_ | refine blk_alloc ?_ _)); refine blk_put (cs := #[.int .i64 ((rd_ITerm l0 x26_2).f0), .int .i64 0, .int .i64 0, .int .i64 0]) ?_ 1 _ rfl; (with_reducible repeat (first | refine blk_drewN ?_ _ | refine blk_drew ?_ | refine blk_alloc ?_ _)); refine blk_put (cs := #[.int .i64 0, .int .i64 0, .int .i64 0, .int .i64 0]) ?_ 0 _ rfl; exact kz BK277⟩, ⟨bz1 HB GE277⟩⟩
              ·
               replace c34 := Bool.eq_false_iff.mpr c34
               subst c34
               rw [if_neg nt_] at H
               have H' := Aside0.mk H
               clear H
               have hcz58_0 : w18.cell? ⟨gb277, 0, none⟩ = some (.int .i64 0) := (blk_cell BK277.out 0).trans rfl
               have hcz58_1 : w18.cell? ⟨gb277, 1, none⟩ = some (.int .i64 0) := (blk_cell BK277.out 1).trans rfl
               have hcz58_2 : w18.cell? ⟨gb277, 2, none⟩ = some (.int .i64 0) := (blk_cell BK277.out 2).trans rfl
               have hcz58_3 : w18.cell? ⟨gb277, 3, none⟩ = some (.int .i64 0) := (blk_cell BK277.out 3).trans rfl
               have hfz58_0 := blk_frozen BK277.out 0
               have hfz58_1 := blk_frozen BK277.out 1
               have hfz58_2 := blk_frozen BK277.out 2
               have hfz58_3 := blk_frozen BK277.out 3
               go_wp2
               go_meet
               case rel => exact ⟨_, (false), rq, H', ⟨by have := HJ2.out; have := HK2.out; first | omega | exact Nat.le_refl _⟩, ⟨by (with_reducible repeat (first | apply Kd.R_alloc | apply Kd.R_drewN | apply Kd.R_drew)); exact Kd.R_mono (Kd.R_far (p := ⟨gb277, 3, none⟩) (Kd.R_far (p := ⟨gb277, 2, none⟩) (Kd.R_far (p := ⟨gb277, 1, none⟩) (Kd.R_far (p := ⟨gb277, 0, none⟩) (Kd.R_types HO_5.out BK277.out (by decide)) (fun _ hk => hk.2) (.int .i64 ((rd_ITerm l0 x26_2).f0))) (fun _ hk => hk.2) (.int .i64 ((rd_ITerm l0 x26_2).f1))) (fun _ hk => hk.2) (.int .i64 ((rd_ITerm l0 x26_2).f2))) (fun _ hk => hk.2) (.int .i64 ((rd_ITerm l0 x26_2).f3))) (fun _ hk => trivial)⟩, ⟨by (with_reducible repeat (first | refine blk_drewN ?_ _ | refine blk_drew ?_ | refine blk_alloc ?_ _)); refine blk_put (cs := #[.int .i64 ((rd_ITerm l0 x26_2).f0), .int .i64 ((rd_ITerm l0 x26_2).f1), .int .i64 ((rd_ITerm l0 x26_2).f2), .int .i64 0]) ?_ 3 _ rfl; (with_reducible repeat (first | refine blk_drewN ?_ _ | refine blk_drew ?_ | refine blk_alloc ?_ _)); refine blk_put (cs := #[.int .i64 ((rd_ITerm l0 x26_2).f0), .int .i64 ((rd_ITerm l0 x26_2).f1), .int .i64 0, .int .i64 0]) ?_ 2 _ rfl; (with_reducible repeat (first | refine blk_drewN ?_ _ | refine blk_drew ?_ | refine blk_alloc ?_ _)); refine blk_put (cs := #[.int .i64 ((rd_ITerm l0 x26_2).f0), .int .i64 0, .int .i64 0, .int .i64 0]) ?_ 1 _ rfl; (with_reducible repeat (first | refine blk_drewN ?_ _ | refine blk_drew ?_ | refine blk_alloc ?_ _)); refine blk_put (cs := #[.int .i64 0, .int .i64 0, .int .i64 0, .int .i64 0]) ?_ 0 _ rfl; exact kz BK277⟩, ⟨bz1 HB GE277⟩⟩
           case rest =>
            clear HC17
            try clear c1
            try clear c2
            try clear p2
            try clear q2
            try clear hx2
            try clear c3
            try clear c4
            try clear c5
            try clear p6
            try clear c7
            try clear c8
            try clear c8b0
            try clear c8b1
            try clear c9
            try clear c9b0
            try clear c9b1
            try clear c12
            try clear c12b0
            try clear c13
            try clear c13b0
            try clear c14
            try clear c14b0
            try clear c16
            try clear c20
            try clear c20b0
            try clear c20b1
            try clear c22
            try clear c23
            try clear c23b0
            try clear c23b1
            try clear c27
            try clear c27b0
            try clear c27b1
            try clear p27
            try clear q27
            try clear hx27
            try clear p28
            try clear q28
            try clear hx28
            try clear c29
            try clear c30
            try clear c30b0
            try clear c30b1
            try clear c34
            try clear c35
            try clear c35b0
            try clear c35b1
            try clear c37
            try clear c39
            try clear c40
            try clear c40b0
            try clear c41
            try clear c41b0
            try clear c42
            try clear c42b0
            try clear c42b1
            try clear c43
            try clear c43b0
            try clear c44
            try clear c44b0
            try clear c45
            try clear c45b0
            try clear c45b1
            try clear c46
            try clear c46b0
            try clear c46b1
            try clear hcz19_0
            try clear hcz19_1
            try clear hcz19_2
            try clear hcz19_3
            try clear hcz24_0
            try clear hcz24_1
            try clear hcz24_2
            try clear hcz24_3
            try clear hcz25_0
            try clear hcz25_1
            try clear hcz25_2
            try clear hcz25_3
            try clear hcz26_0
            try clear hcz26_1
            try clear hcz26_2
            try clear hcz26_3
            try clear hcz31_0
            try clear hcz31_1
            try clear hcz31_2
            try clear hcz31_3
            try clear hcz32_0
            try clear hcz32_1
            try clear hcz32_2
            try clear hcz32_3
            try clear hcz33_0
            try clear hcz33_1
            try clear hcz33_2
            try clear hcz33_3
            try clear hcz47_0
            try clear hcz47_1
            try clear hcz47_2
            try clear hcz47_3
            try clear hcz49_0
            try clear hcz49_1
            try clear hcz49_2
            try clear hcz49_3
            try clear hcz51_0
            try clear hcz51_1
            try clear hcz51_2
            try clear hcz51_3
            try clear hcz53_0
            try clear hcz53_1
            try clear hcz53_2
            try clear hcz53_3
            try clear hcz55_0
            try clear hcz55_1
            try clear hcz55_2
            try clear hcz55_3
            try clear hcz56_0
            try clear hcz56_1
            try clear hcz56_2
            try clear hcz56_3
            try clear hcz57_0
            try clear hcz57_1
            try clear hcz57_2
            try clear hcz57_3
            try clear hcz58_0
            try clear hcz58_1
            try clear hcz58_2
            try clear hcz58_3
            try clear hfz19_0
            try clear hfz19_1
            try clear hfz19_2
            try clear hfz19_3
            try clear hfz24_0
            try clear hfz24_1
            try clear hfz24_2
            try clear hfz24_3
            try clear hfz25_0
            try clear hfz25_1
            try clear hfz25_2
            try clear hfz25_3
            try clear hfz26_0
            try clear hfz26_1
            try clear hfz26_2
            try clear hfz26_3
            try clear hfz31_0
            try clear hfz31_1
            try clear hfz31_2
            try clear hfz31_3
            try clear hfz32_0
            try clear hfz32_1
            try clear hfz32_2
            try clear hfz32_3
            try clear hfz33_0
            try clear hfz33_1
            try clear hfz33_2
            try clear hfz33_3
            try clear hfz47_0
            try clear hfz47_1
            try clear hfz47_2
            try clear hfz47_3
            try clear hfz49_0
            try clear hfz49_1
            try clear hfz49_2
            try clear hfz49_3
            try clear hfz51_0
            try clear hfz51_1
            try clear hfz51_2
            try clear hfz51_3
            try clear hfz53_0
            try clear hfz53_1
            try clear hfz53_2
            try clear hfz53_3
            try clear hfz55_0
            try clear hfz55_1
            try clear hfz55_2
            try clear hfz55_3
            try clear hfz56_0
            try clear hfz56_1
            try clear hfz56_2
            try clear hfz56_3
            try clear hfz57_0
            try clear hfz57_1
            try clear hfz57_2
            try clear hfz57_3
            try clear hfz58_0
            try clear hfz58_1
            try clear hfz58_2
            try clear hfz58_3
            try clear hx276_0
            try clear hx276_1
            try clear hx276_2
            try clear hx276_3
            try clear hx286_0
            try clear hx287_0
            try clear p2
            try clear p276
            try clear p286
            try clear p287
            try clear q276
            try clear q286
            try clear q287
            obtain ⟨kq, x11_16, rfl, HA, HJ16, HO_5, BK277, HB⟩ := hcut
            cases kq with
            | zero => exact absurd HA.out (by simp [impl_kindsOf.j2])
            | succ kj16 =>
             have H := HA.out
             clear HA
             simp only [impl_kindsOf.j2] at H
             by_cases c59 : x11_16 = true
             ·
              subst c59
              rw [if_pos rfl] at H
              by_cases c60 : x5_2.length < 17592186044416
              ·
               rw [if_pos c60] at H
               have LMc60 := Aside0.mk c60
               clear c60
               obtain ⟨y288, hy288⟩ : ∃ y_ : List Int, y_ = (x5_2 ++ [t280]) := ⟨_, rfl⟩
               replace H : (impl_kindsOf.l0 kj16 a1 y288 l0 (l0.length : Int) (wrap64 (x26_2 + 1))) = some r := by first | (rw [hy288]; with_reducible exact H) | (have H2_ := (Option.bind_some _ _).symm.trans H; rw [hy288]; with_reducible exact H2_) | (have H2_ := (Option.bind_some _ _).symm.trans H; with_reducible exact H2_) | with_reducible exact H | (rw [hy288]; exact H) | exact H
               have Ny288 := Aside0.mk hy288
               clear hy288
               have H' := Aside0.mk H
               clear H
               go_wp2_with (first | ((with_reducible refine gate_builtin (b := .append) (xs := #[.tmp 127, .tmp 129]) rfl ?_); (try (refine gate_guard (by rfl) ?_; dsimp only)); at_builtin; refine Kd.R_append (Kd.int .i64) (w0 := w) w.heap.size rfl (.tmp 127) (.tmp 129) 26 3 (.int .i64 0) 8 rfl Try.underlying26 info3 rfl (by decide) (by omega) u5 x5_2 t280 [.int .i64 t280] (fun _ => True) (fun _ => False) rfl rfl ?aP (fun _ hk => hk.elim) ?aF ?aO ?aB ?aS ?aL ?_; (case aP => exact rfl); (case aB => exact (bz1 HB GE277)); (case aF => exact (fun _ _ => trivial)); (case aO => exact (ozR HO_5)); (case aS => exact (below_size (bz1 HB GE277))); (case aL => have := LMc60.out; omega); intro v289 w61 ho hb hg hat; rw [← Ny288.out] at ho; replace BK277 := Aside0.mk (blk_grown (g := gb277) (o := .cells #[.int .i64 ((rd_ITerm l0 x26_2).f0), .int .i64 ((rd_ITerm l0 x26_2).f1), .int .i64 ((rd_ITerm l0 x26_2).f2), .int .i64 ((rd_ITerm l0 x26_2).f3)] 107 (0, 0)) (kz BK277) hg (Kd.R_ne HO_5.out BK277.out (by decide))); replace HB := Aside0.mk (hb); have HO290 := Aside0.mk (ho); clear HO_5; clear ho hb hg hat))
               go_roundg kj16
               case measure => have := HJ2.out; have := HK2.out; have := HJ16.out; omega
               case rel => exact ⟨(y288), (wrap64 (x26_2 + 1)), rq, H', ⟨by have := HJ2.out; have := HK2.out; have := HJ16.out; omega⟩, ⟨ozR HO290⟩, ⟨bz1 HB GE277⟩⟩
              ·
               rw [if_neg c60] at H
               exact absurd H (by simp)
             ·
              replace c59 := Bool.eq_false_iff.mpr c59
              subst c59
              rw [if_neg nt_] at H
              obtain rfl := Option.some.inj H
              go_wp2
              go_ret
              exact ⟨_, rz, nz, bz1 HB GE277, by first | exact NilIf.intro (fun _ => rfl) | exact NilIf.intro (fun e_ => absurd (‹Aside0 (0 < List.length _)›).out (by rw [e_]; exact Nat.lt_irrefl 0))⟩
          ·
           rw [if_neg c14] at H
           exact absurd H (by simp)
         ·
          rw [if_neg c13] at H
          exact absurd H (by simp)
        ·
         rw [if_neg c12] at H
         have c12b0 : decide (x26_2 < (l0.length : Int)) = false := decide_eq_false c12
         clear c12
         by_cases c62 : 0 < x5_2.length
         ·
          rw [if_pos c62] at H
          have LMc62 := Aside0.mk c62
          clear c62
          obtain rfl := Option.some.inj H
          go_wp2
          go_ret
          exact ⟨_, rz, ozR HO_5, bz HB, by first | exact NilIf.intro (fun _ => rfl) | exact NilIf.intro (fun e_ => absurd (‹Aside0 (0 < List.length _)›).out (by rw [e_]; exact Nat.lt_irrefl 0))⟩
         ·
          rw [if_neg c62] at H
          exact absurd H (by simp)
     ·
      rw [if_neg c9] at H
      exact absurd H (by simp)
    ·
     rw [if_neg c8] at H
     exact absurd H (by simp)
end Go.Proofs.Ytndmhmekmkgccaa.PFnExactSetValid
end
section
namespace Go.Proofs.Ytndmhmekmkgccaa.PFnExactSetValid
open Go.RowKit Go.Proofs.YtndmhmekmkgccaaW.PrintWords Go.Proofs.YtndmhmekmkgccaaW.PrintLast Go.Proofs.YtndmhmekmkgccaaW.PrintMore
attribute [local go_sem] max2_int min2_int max_two min_two max_three min_three max_four min_four   -- for this text's walks alone
set_option linter.unusedVariables false
set_option linter.unusedSimpArgs false
set_option maxHeartbeats 4000000 in
set_option maxRecDepth 100000 in
theorem impl_kindOf.calls (k : Nat) (A0 : Option Addr) (c0 : Nat) (l0 : List (ITerm)) (a1 : Int) (r : Int) (w : World) (hr0 : Kd.C k107 w A0 l0.length l0) (hc0 : l0.length ≤ c0) (h : impl_kindOf.f k l0 a1 = some r) :
  Calls Try.prog 161 #[.slice A0 l0.length c0, .int .i64 a1] w fun e w' => e = .returned (.int .i64 r) ∧ Below w.heap.size w w' := by
 obtain ⟨t, A50, H⟩ := Option.bind_eq_some_iff.mp h
 clear h
 have A5 := Aside0.mk A50
 have HR0 := Aside0.mk hr0
 have HC0 := Aside0.mk hc0
 clear A50 hr0 hc0
 have he := fun (W : World) => Lib.run_eql_slice_nil (P := Try.prog) W 26 3 none 0 0 0 0 Try.underlying26
 have he2 := fun (W : World) (ad : Addr) (c : Nat) => Lib.run_eql_slice_nil (P := Try.prog) W 26 3 (some ad) t.length c 0 0 Try.underlying26
 have hn := fun (W : World) => run_neq_slice_nil_any (P := Try.prog) W 26 3 none 0 0 0 0 Try.underlying26
 have hn2 := fun (W : World) (ad : Addr) (c : Nat) => run_neq_slice_nil_any (P := Try.prog) W 26 3 (some ad) t.length c 0 0 Try.underlying26
 by_cases c6 : t = []
 ·
  subst c6
  have H2 := Aside0.mk H
  clear H
  go_enter Try.func161, Try.ntmps161
  go_wp2_with (first | ((with_reducible refine gate_callee (f := 137) rfl ?_); refine goesL_ (some 8) rfl rfl Try.func137 (by kernel_rfl) rfl #[.slice A0 l0.length c0, .int .i64 a1] rfl (by (try simp only [List.map_toArray, List.map_cons, List.map_nil]); first | done | rfl) ?_; (with_reducible refine (impl_kindsOf.calls k _ _ l0 a1 [] _ HR0.out HC0.out A5.out).mono ?_); rintro e w1 ⟨v, rfl, ho, hb, hnil⟩; refine ⟨_, rfl, ?_⟩; obtain rfl := hnil.out rfl; have HB := Aside0.mk hb; clear hb ho hnil))
  go_ret
  have H3 := H2.out
  exact ⟨by simpa using H3, HB.out⟩
 ·
  have HN := Aside0.mk c6
  rw [if_neg c6] at H
  obtain ⟨ji6, hji6⟩ : ∃ j_ : Int, (wrap64 ((t.length : Int) - 1)) = j_ := ⟨_, rfl⟩
  rw [hji6] at H
  have hji6w : (IntKind.i64.wrap ((t.length : Int) - 1)) = ji6 := (i64_w _).trans hji6
  by_cases c7 : 0 ≤ ji6
  case neg => rw [if_neg c7] at H; exact absurd H (by simp)
  rw [if_pos c7] at H
  by_cases c8 : ji6 < (t.length : Int)
  case neg => rw [if_neg c8] at H; exact absurd H (by simp)
  rw [if_pos c8] at H
  obtain rfl := Option.some.inj H
  clear H
  have c7b0 : decide (0 ≤ ji6) = true := decide_eq_true c7
  have c8b0 : decide (ji6 < (t.length : Int)) = true := decide_eq_true c8
  have C7 := Aside0.mk c7
  have C8 := Aside0.mk c8
  clear c7 c8
  clear c6
  go_enter Try.func161, Try.ntmps161
  go_wp2_with (first | ((with_reducible refine gate_callee (f := 137) rfl ?_); refine goesL_ (some 8) rfl rfl Try.func137 (by kernel_rfl) rfl #[.slice A0 l0.length c0, .int .i64 a1] rfl (by (try simp only [List.map_toArray, List.map_cons, List.map_nil]); first | done | rfl) ?_; (with_reducible refine (impl_kindsOf.calls k _ _ l0 a1 t _ HR0.out HC0.out A5.out).mono ?_); rintro e w1 ⟨v, rfl, ho, hb, hnil⟩; refine ⟨_, rfl, ?_⟩; obtain ⟨ad, c, rfl⟩ := Kd.R_some ho HN.out; obtain ⟨ad9, e9, hx9⟩ := Kd.at_int (Kd.R_reads' ho).2.2 ji6 C7.out C8.out; cases e9; have p9 := eq_true C7.out; have q9 := eq_true C8.out; have HB := Aside0.mk hb; clear hb ho hnil))
  go_ret
  exact ⟨rfl, HB.out⟩
end Go.Proofs.Ytndmhmekmkgccaa.PFnExactSetValid
end
section
namespace Go.Proofs.Ytndmhmekmkgccaa.PFnExactSetValid
open Go.RowKit Go.Proofs.YtndmhmekmkgccaaW.PrintWords Go.Proofs.YtndmhmekmkgccaaW.PrintLast Go.Proofs.YtndmhmekmkgccaaW.PrintMore
attribute [local go_sem] max2_int min2_int max_two min_two max_three min_three max_four min_four   -- for this text's walks alone
set_option linter.unusedVariables false
set_option linter.unusedSimpArgs false
set_option maxHeartbeats 8000000 in
set_option maxRecDepth 100000 in
theorem impl_ruleOk.calls (k : Nat) (A0_0 : Option Addr) (c0_0 : Nat) (l0_0 : List (ITerm)) (A0_1 : Option Addr) (c0_1 : Nat) (l0_1 : List Int) (A0_2 : Option Addr) (c0_2 : Nat) (l0_2 : List (List (ITerm))) (a1 : Int) (r : Bool) (w : World) (hr0_0 : Kd.C k107 w A0_0 l0_0.length l0_0) (hc0_0 : l0_0.length ≤ c0_0) (hr0_1 : Kd.C (Kd.int .i64) w A0_1 l0_1.length l0_1) (hc0_1 : l0_1.length ≤ c0_1) (hr0_2 : Kd.C (Kd.slice 107 k107) w A0_2 l0_2.length l0_2) (hc0_2 : l0_2.length ≤ c0_2) (h : impl_ruleOk.f k l0_0 l0_1 l0_2 a1 = some r) :
  Calls Try.prog 123 #[.agg #[.slice A0_0 l0_0.length c0_0, .slice A0_1 l0_1.length c0_1, .slice A0_2 l0_2.length c0_2], .int .i64 a1] w fun e w' => e = .returned (.bool r) ∧ Below w.heap.size w w' := by
 have hu145 := Try.underlying145
 have HR0_0 := Aside0.mk hr0_0
 have HC0_0 := Aside0.mk hc0_0
 clear hr0_0 hc0_0
 have HR0_1 := Aside0.mk hr0_1
 have HC0_1 := Aside0.mk hc0_1
 clear hr0_1 hc0_1
 have HR0_2 := Aside0.mk hr0_2
 have HC0_2 := Aside0.mk hc0_2
 clear hr0_2 hc0_2
 have HB := Aside0.mk (Below.refl w.heap.size w)
 have H : ((impl_kindOf.f k l0_0 a1).bind fun t292 => (if t292 = 2 then (impl_ruleOk.j0 k a1 ((l0_1.length : Int) != (l0_2.length : Int)) l0_0 l0_1 l0_2) else (impl_ruleOk.j0 k a1 true l0_0 l0_1 l0_2))) = some r := h
 clear h
 have HC3 := Aside0.mk H
 clear H
 go_enter Try.func123, Try.ntmps123
 go_upto_region 1 with (first | ((with_reducible refine gate_dst (N := 2) rfl ?_); (try (refine gate_guard (by rfl) ?_; dsimp only)); refine box_event ?hg (N := 2) ?hd (cs := #[.slice A0_0 l0_0.length c0_0, .slice A0_1 l0_1.length c0_1, .slice A0_2 l0_2.length c0_2]) (t := 145) ?hr ?_; (case hd => rfl); (case hg => rfl); (case hr => first | (go_simp; done) | (go_simp; rfl)); intro gb291 hg w4 hbox hb; have n0_ := Aside0.mk (below_step (bz HB) hb); have n1_ := Aside0.mk (hbox); have n2_ := Aside0.mk ((by rw [hg]; exact (below_size (bz HB)) : w.heap.size ≤ gb291)); have n3_ := Aside0.mk ((by rw [hg]; exact (below_size (bz HB)) : w.heap.size ≤ gb291)); clear HB; have HB := n0_; have BK291 := n1_; have GW291 := n2_; have GE291 := n3_; clear n0_ n1_ n2_ n3_; clear hb hbox hg))
 (try simp only [Act.put, sb_, sc0_, sc1_])
 go_cut [20] (fun v20 wc => ∃ (kq : Nat) (x20_2 : Bool), v20 = .bool x20_2 ∧ Aside0 (impl_ruleOk.j0 kq a1 x20_2 l0_0 l0_1 l0_2 = some r) ∧ Aside0 (kq ≤ k) ∧ Aside0 (wc.heap[gb291]? = some (.cells #[(.slice A0_0 l0_0.length c0_0), (.slice A0_1 l0_1.length c0_1), (.slice A0_2 l0_2.length c0_2)] 145 (0, 0))) ∧ Aside0 (Below w.heap.size w wc))
 case first =>
  have H := HC3.out
  clear HC3
  replace H := Option.bind_eq_some_iff.mp H
  obtain ⟨t292, A50, H⟩ := H
  have A5 := Aside0.mk A50
  clear A50
  by_cases c6 : t292 = 2
  ·
   rw [if_pos c6] at H
   have c6b0 : (t292 == 2) = true := beq_iff_eq.mpr c6
   have c6b1 : (t292 != 2) = false := bne_eq_false_iff_eq.mpr c6
   clear c6
   (first | rw [c6b0] | (simp only [i64_w, i32_w]; rw [c6b0]) | skip)
   have H' := Aside0.mk H
   clear H
   have hcz7_0 : w4.cell? ⟨gb291, 0, none⟩ = some (.slice A0_0 l0_0.length c0_0) := (blk_cell BK291.out 0).trans rfl
   have hcz7_1 : w4.cell? ⟨gb291, 1, none⟩ = some (.slice A0_1 l0_1.length c0_1) := (blk_cell BK291.out 1).trans rfl
   have hcz7_2 : w4.cell? ⟨gb291, 2, none⟩ = some (.slice A0_2 l0_2.length c0_2) := (blk_cell BK291.out 2).trans rfl
   have hfz7_0 := blk_frozen BK291.out 0
   have hfz7_1 := blk_frozen BK291.out 1
   have hfz7_2 := blk_frozen BK291.out 2
   go_wp2_with (first | ((with_reducible refine gate_callee (f := 161) rfl ?_); refine goesL_ (some 10) rfl rfl Try.func161 (by kernel_rfl) rfl #[.slice A0_0 l0_0.length c0_0, .int .i64 a1] rfl az ?_; (with_reducible refine (impl_kindOf.calls k _ _ l0_0 a1 t292 _ ?side1 HC0_0.out A5.out).mono ?_); (case side1 => exact cz HR0_0 HB); rintro e w8 ⟨rfl, hb⟩; refine ⟨_, rfl, ?_⟩; replace BK291 := Aside0.mk (blk_below (g := gb291) (o := .cells #[.slice A0_0 l0_0.length c0_0, .slice A0_1 l0_1.length c0_1, .slice A0_2 l0_2.length c0_2] 145 (0, 0)) (kz BK291) hb); replace HB := Aside0.mk (below_step (bz1 HB GE291) hb); clear hb; have hcz9_0 : w8.cell? ⟨gb291, 0, none⟩ = some (.slice A0_0 l0_0.length c0_0) := (blk_cell BK291.out 0).trans rfl; have hcz9_1 : w8.cell? ⟨gb291, 1, none⟩ = some (.slice A0_1 l0_1.length c0_1) := (blk_cell BK291.out 1).trans rfl; have hcz9_2 : w8.cell? ⟨gb291, 2, none⟩ = some (.slice A0_2 l0_2.length c0_2) := (blk_cell BK291.out 2).trans rfl; have hfz9_0 := blk_frozen BK291.out 0; have hfz9_1 := blk_frozen BK291.out 1; have hfz9_2 := blk_frozen BK291.out 2))
   go_meet
   case rel => exact ⟨_, (((l0_1.length : Int) != (l0_2.length : Int))), rq, H', ⟨by first | omega | exact Nat.le_refl _⟩, ⟨kz BK291⟩, ⟨bz1 HB GE291⟩⟩
  ·
   rw [if_neg c6] at H
   have c6b0 : (t292 == 2) = false := beq_eq_false_iff_ne.mpr c6
   have c6b1 : (t292 != 2) = true := bne_iff_ne.mpr c6
   (first | rw [c6b0] | (simp only [i64_w, i32_w]; rw [c6b0]) | skip)
   have H' := Aside0.mk H
   clear H
   have hcz10_0 : w4.cell? ⟨gb291, 0, none⟩ = some (.slice A0_0 l0_0.length c0_0) := (blk_cell BK291.out 0).trans rfl
   have hcz10_1 : w4.cell? ⟨gb291, 1, none⟩ = some (.slice A0_1 l0_1.length c0_1) := (blk_cell BK291.out 1).trans rfl
   have hcz10_2 : w4.cell? ⟨gb291, 2, none⟩ = some (.slice A0_2 l0_2.length c0_2) := (blk_cell BK291.out 2).trans rfl
   have hfz10_0 := blk_frozen BK291.out 0
   have hfz10_1 := blk_frozen BK291.out 1
   have hfz10_2 := blk_frozen BK291.out 2
   go_wp2_with (first | ((with_reducible refine gate_callee (f := 161) rfl ?_); refine goesL_ (some 10) rfl rfl Try.func161 (by kernel_rfl) rfl #[.slice A0_0 l0_0.length c0_0, .int .i64 a1] rfl az ?_; (with_reducible refine (impl_kindOf.calls k _ _ l0_0 a1 t292 _ ?side1 HC0_0.out A5.out).mono ?_); (case side1 => exact cz HR0_0 HB); rintro e w11 ⟨rfl, hb⟩; refine ⟨_, rfl, ?_⟩; replace BK291 := Aside0.mk (blk_below (g := gb291) (o := .cells #[.slice A0_0 l0_0.length c0_0, .slice A0_1 l0_1.length c0_1, .slice A0_2 l0_2.length c0_2] 145 (0, 0)) (kz BK291) hb); replace HB := Aside0.mk (below_step (bz1 HB GE291) hb); clear hb))
   go_meet
   case rel => exact ⟨_, (true), rq, H', ⟨by first | omega | exact Nat.le_refl _⟩, ⟨kz BK291⟩, ⟨bz1 HB GE291⟩⟩
 case rest =>
  clear HC3
  try clear c1
  try clear p2
  try clear c6
  try clear c6b0
  try clear c6b1
  try clear hcz10_0
  try clear hcz10_1
  try clear hcz10_2
  try clear hcz7_0
  try clear hcz7_1
  try clear hcz7_2
  try clear hcz9_0
  try clear hcz9_1
  try clear hcz9_2
  try clear hfz10_0
  try clear hfz10_1
  try clear hfz10_2
  try clear hfz7_0
  try clear hfz7_1
  try clear hfz7_2
  try clear hfz9_0
  try clear hfz9_1
  try clear hfz9_2
  obtain ⟨kq, x20_2, rfl, HA, HJ2, BK291, HB⟩ := hcut
  cases kq with
  | zero => exact absurd HA.out (by simp [impl_ruleOk.j0])
  | succ kj2 =>
   have H := HA.out
   clear HA
   simp only [impl_ruleOk.j0] at H
   by_cases c12 : x20_2 = true
   ·
    subst c12
    rw [if_pos rfl] at H
    obtain rfl := Option.some.inj H
    go_wp2
    go_ret
    exact ⟨rz, bz1 HB GE291⟩
   ·
    replace c12 := Bool.eq_false_iff.mpr c12
    subst c12
    rw [if_neg nt_] at H
    have H' := Aside0.mk H
    clear H
    have hcz13_0 : wc.cell? ⟨gb291, 0, none⟩ = some (.slice A0_0 l0_0.length c0_0) := (blk_cell BK291.out 0).trans rfl
    have hcz13_1 : wc.cell? ⟨gb291, 1, none⟩ = some (.slice A0_1 l0_1.length c0_1) := (blk_cell BK291.out 1).trans rfl
    have hcz13_2 : wc.cell? ⟨gb291, 2, none⟩ = some (.slice A0_2 l0_2.length c0_2) := (blk_cell BK291.out 2).trans rfl
    have hfz13_0 := blk_frozen BK291.out 0
    have hfz13_1 := blk_frozen BK291.out 1
    have hfz13_2 := blk_frozen BK291.out 2
    go_wp2
    go_loopg [24] kj2 (fun kq v24 w' => ∃ (x24_2 : Int), v24 = .int .i64 x24_2 ∧ Aside0 (impl_ruleOk.l0 kq a1 l0_1 (l0_1.length : Int) x24_2 l0_0 l0_1 l0_2 = some r) ∧ Aside0 (kq ≤ kj2) ∧ Aside0 (w'.heap[gb291]? = some (.cells #[(.slice A0_0 l0_0.length c0_0), (.slice A0_1 l0_1.length c0_1), (.slice A0_2 l0_2.length c0_2)] 145 (0, 0))) ∧ Aside0 (Below w.heap.size w w'))
    case atStart => exact ⟨(0), rq, H', ⟨Nat.le_refl _⟩, ⟨kz BK291⟩, ⟨bz1 HB GE291⟩⟩
    case round =>
     clear H'
     try clear c1
     try clear p2
     try clear c6
     try clear c6b0
     try clear c6b1
     try clear c12
     try clear hcz10_0
     try clear hcz10_1
     try clear hcz10_2
     try clear hcz13_0
     try clear hcz13_1
     try clear hcz13_2
     try clear hcz7_0
     try clear hcz7_1
     try clear hcz7_2
     try clear hcz9_0
     try clear hcz9_1
     try clear hcz9_2
     try clear hfz10_0
     try clear hfz10_1
     try clear hfz10_2
     try clear hfz13_0
     try clear hfz13_1
     try clear hfz13_2
     try clear hfz7_0
     try clear hfz7_1
     try clear hfz7_2
     try clear hfz9_0
     try clear hfz9_1
     try clear hfz9_2
     try clear p2
     obtain ⟨x24_2, rfl, HA, HK2, BK291, HB⟩ := hrel
     cases gk with
     | zero => exact absurd HA.out (by simp [impl_ruleOk.l0])
     | succ k2 =>
      have H := HA.out
      clear HA
      simp only [impl_ruleOk.l0] at H
      by_cases c14 : x24_2 < (l0_1.length : Int)
      ·
       rw [if_pos c14] at H
       have c14b0 : decide (x24_2 < (l0_1.length : Int)) = true := decide_eq_true c14
       clear c14
       by_cases c15 : 0 ≤ x24_2
       ·
        rw [if_pos c15] at H
        have c15b0 : decide (0 ≤ x24_2) = true := decide_eq_true c15
        clear c15
        by_cases c16 : x24_2 < (l0_1.length : Int)
        ·
         rw [if_pos c16] at H
         have c16b0 : decide (x24_2 < (l0_1.length : Int)) = true := decide_eq_true c16
         clear c16
         have HC17 := Aside0.mk H
         clear H
         have p293 : 0 ≤ (x24_2 : Int) := dz
         have q293 : x24_2 < (l0_1.length : Int) := dz
         obtain ⟨ad293, e293, hx293_0⟩ := Kd.at_int HR0_1.out x24_2 p293 q293
         cases e293
         replace hx293_0 := xz HB hx293_0
         replace p293 := eq_true p293
         replace q293 := eq_true q293
         go_upto_region 6 with (fail)
         go_cut [57] (fun v57 wc => ∃ (kq : Nat) (x57_16 : Bool), v57 = .bool x57_16 ∧ Aside0 (impl_ruleOk.j2 kq a1 l0_1 (l0_1.length : Int) x24_2 x57_16 l0_0 l0_1 l0_2 = some r) ∧ Aside0 (kq ≤ k2) ∧ Aside0 (wc.heap[gb291]? = some (.cells #[(.slice A0_0 l0_0.length c0_0), (.slice (some ad293) l0_1.length c0_1), (.slice A0_2 l0_2.length c0_2)] 145 (0, 0))) ∧ Aside0 (Below w.heap.size w wc))
         case first =>
          have H := HC17.out
          clear HC17
          replace H := Option.bind_eq_some_iff.mp H
          obtain ⟨t294, A180, H⟩ := H
          have A18 := Aside0.mk A180
          clear A180
          by_cases c19 : t294 = true
          ·
           subst c19
           rw [if_pos rfl] at H
           by_cases c20 : x24_2 > 0
           ·
            rw [if_pos c20] at H
            have c20b0 : decide (0 < x24_2) = true := decide_eq_true c20
            clear c20
            (first | rw [c20b0] | (simp only [i64_w, i32_w]; rw [c20b0]) | skip)
            obtain ⟨ji21, hji21⟩ : ∃ j_ : Int, (wrap64 (x24_2 - 1)) = j_ := ⟨_, rfl⟩
            replace H : (if 0 ≤ (ji21) then (if (ji21) < (l0_1.length : Int) then (if (rd l0_1 (ji21)) ≥ (rd l0_1 x24_2) then (impl_ruleOk.j2 k2 a1 l0_1 (l0_1.length : Int) x24_2 true l0_0 l0_1 l0_2) else (if x24_2 < (l0_2.length : Int) then ((impl_kindOf.f k2 (rd_LITerm l0_2 x24_2) a1).bind fun t297 => (impl_ruleOk.j2 k2 a1 l0_1 (l0_1.length : Int) x24_2 (t297 != 1) l0_0 l0_1 l0_2)) else (none))) else (none)) else (none)) = some r := by first | (rw [hji21] at H; exact H) | (simp only [hji21] at H ⊢; exact H)
            (try rw [hji21] at A18)
            have hji21w : (IntKind.i64.wrap (x24_2 - 1)) = ji21 := (i64_w _).trans hji21
            by_cases c22 : 0 ≤ (ji21)
            ·
             rw [if_pos c22] at H
             have c22b0 : decide (0 ≤ (ji21)) = true := decide_eq_true c22
             clear c22
             by_cases c23 : (ji21) < (l0_1.length : Int)
             ·
              rw [if_pos c23] at H
              have c23b0 : decide ((ji21) < (l0_1.length : Int)) = true := decide_eq_true c23
              clear c23
              by_cases c24 : (rd l0_1 (ji21)) ≥ (rd l0_1 x24_2)
              ·
               rw [if_pos c24] at H
               have c24b0 : decide ((rd l0_1 x24_2) ≤ (rd l0_1 (ji21))) = true := decide_eq_true c24
               clear c24
               have H' := Aside0.mk H
               clear H
               go_wp2_with (first | ((with_reducible refine gate_callee (f := 96) rfl ?_); refine goesL_ (some 32) rfl rfl Try.func96 (by kernel_rfl) rfl #[.int .i64 (rd l0_1 x24_2), .int .i64 0, .int .i64 (wrap64 (a1 - 1))] rfl az ?_; (with_reducible refine (impl_in.calls (rd l0_1 x24_2) 0 (wrap64 (a1 - 1)) true _ A18.out).mono ?_); rintro e w' ⟨rfl, ⟨nd, rfl⟩⟩; refine ⟨_, rfl, ?_⟩; have hcz25_0 : wr.cell? ⟨gb291, 0, none⟩ = some (.slice A0_0 l0_0.length c0_0) := (blk_cell BK291.out 0).trans rfl; have hcz25_1 : wr.cell? ⟨gb291, 1, none⟩ = some (.slice (some ad293) l0_1.length c0_1) := (blk_cell BK291.out 1).trans rfl; have hcz25_2 : wr.cell? ⟨gb291, 2, none⟩ = some (.slice A0_2 l0_2.length c0_2) := (blk_cell BK291.out 2).trans rfl; have hfz25_0 := blk_frozen BK291.out 0; have hfz25_1 := blk_frozen BK291.out 1; have hfz25_2 := blk_frozen BK291.out 2; have p295 : 0 ≤ ((ji21) : Int) := dz; have q295 : (ji21) < (l0_1.length : Int) := dz; obtain ⟨ad295, e295, hx295_0⟩ := Kd.at_int HR0_1.out (ji21) p295 q295; obtain rfl : ad293 = ad295 := (by injection e295); replace hx295_0 := xz HB hx295_0; replace p295 := eq_true p295; replace q295 := eq_true q295))
               go_meet
               case rel => exact ⟨_, (true), rq, H', ⟨by have := HJ2.out; have := HK2.out; first | omega | exact Nat.le_refl _⟩, ⟨kz BK291⟩, ⟨bz1 HB GE291⟩⟩
              ·
               rw [if_neg c24] at H
               have c24b0 : decide ((rd l0_1 x24_2) ≤ (rd l0_1 (ji21))) = false := decide_eq_false c24
               clear c24
               by_cases c26 : x24_2 < (l0_2.length : Int)
               ·
                rw [if_pos c26] at H
                have c26b0 : decide (x24_2 < (l0_2.length : Int)) = true := decide_eq_true c26
                clear c26
                replace H := Option.bind_eq_some_iff.mp H
                obtain ⟨t297, A270, H⟩ := H
                have A27 := Aside0.mk A270
                clear A270
                have H' := Aside0.mk H
                clear H
                go_wp2_with (first | ((with_reducible refine gate_callee (f := 96) rfl ?_); refine goesL_ (some 32) rfl rfl Try.func96 (by kernel_rfl) rfl #[.int .i64 (rd l0_1 x24_2), .int .i64 0, .int .i64 (wrap64 (a1 - 1))] rfl az ?_; (with_reducible refine (impl_in.calls (rd l0_1 x24_2) 0 (wrap64 (a1 - 1)) true _ A18.out).mono ?_); rintro e w' ⟨rfl, ⟨nd, rfl⟩⟩; refine ⟨_, rfl, ?_⟩; have hcz28_0 : wr.cell? ⟨gb291, 0, none⟩ = some (.slice A0_0 l0_0.length c0_0) := (blk_cell BK291.out 0).trans rfl; have hcz28_1 : wr.cell? ⟨gb291, 1, none⟩ = some (.slice (some ad293) l0_1.length c0_1) := (blk_cell BK291.out 1).trans rfl; have hcz28_2 : wr.cell? ⟨gb291, 2, none⟩ = some (.slice A0_2 l0_2.length c0_2) := (blk_cell BK291.out 2).trans rfl; have hfz28_0 := blk_frozen BK291.out 0; have hfz28_1 := blk_frozen BK291.out 1; have hfz28_2 := blk_frozen BK291.out 2; have p295 : 0 ≤ ((ji21) : Int) := dz; have q295 : (ji21) < (l0_1.length : Int) := dz; obtain ⟨ad295, e295, hx295_0⟩ := Kd.at_int HR0_1.out (ji21) p295 q295; obtain rfl : ad293 = ad295 := (by injection e295); replace hx295_0 := xz HB hx295_0; replace p295 := eq_true p295; replace q295 := eq_true q295; have p296 : 0 ≤ (x24_2 : Int) := dz; have q296 : x24_2 < (l0_2.length : Int) := dz; obtain ⟨ad296, A296_0, c296_0, e296, hx296_0, hl296_0, hi296_0⟩ := at_LITerm HR0_2.out x24_2 p296 q296; cases e296; replace hx296_0 := xz HB hx296_0; have HR296_0 := Aside0.mk hi296_0; have HC296_0 := Aside0.mk hl296_0; clear hi296_0 hl296_0; replace p296 := eq_true p296; replace q296 := eq_true q296) | (go_at_call 161; (with_reducible refine (impl_kindOf.calls k2 _ _ (rd_LITerm l0_2 x24_2) a1 t297 _ ?side1 HC296_0.out A27.out).mono ?_); (case side1 => repeat (first | exact (Kd.C_below HR296_0.out (bz1 HB GE291)) | (with_reducible refine Kd.C_alloc ?_ _) | (with_reducible refine Kd.C_drewN ?_ _) | (with_reducible refine Kd.C_drew ?_))); rintro e w29 ⟨rfl, hb⟩; replace BK291 := Aside0.mk (blk_below (g := gb291) (o := .cells #[.slice A0_0 l0_0.length c0_0, .slice (some ad293) l0_1.length c0_1, .slice (some ad296) l0_2.length c0_2] 145 (0, 0)) (kz BK291) hb); replace HB := Aside0.mk (below_step (bz1 HB GE291) hb); clear hb))
                go_meet
                case rel => exact ⟨_, ((t297 != 1)), rq, H', ⟨by have := HJ2.out; have := HK2.out; first | omega | exact Nat.le_refl _⟩, ⟨kz BK291⟩, ⟨bz1 HB GE291⟩⟩
               ·
                rw [if_neg c26] at H
                exact absurd H (by simp)
             ·
              rw [if_neg c23] at H
              exact absurd H (by simp)
            ·
             rw [if_neg c22] at H
             exact absurd H (by simp)
           ·
            rw [if_neg c20] at H
            have c20b0 : decide (0 < x24_2) = false := decide_eq_false c20
            clear c20
            (first | rw [c20b0] | (simp only [i64_w, i32_w]; rw [c20b0]) | skip)
            by_cases c30 : x24_2 < (l0_2.length : Int)
            ·
             rw [if_pos c30] at H
             have c30b0 : decide (x24_2 < (l0_2.length : Int)) = true := decide_eq_true c30
             clear c30
             replace H := Option.bind_eq_some_iff.mp H
             obtain ⟨t299, A310, H⟩ := H
             have A31 := Aside0.mk A310
             clear A310
             have H' := Aside0.mk H
             clear H
             go_wp2_with (first | ((with_reducible refine gate_callee (f := 96) rfl ?_); refine goesL_ (some 32) rfl rfl Try.func96 (by kernel_rfl) rfl #[.int .i64 (rd l0_1 x24_2), .int .i64 0, .int .i64 (wrap64 (a1 - 1))] rfl az ?_; (with_reducible refine (impl_in.calls (rd l0_1 x24_2) 0 (wrap64 (a1 - 1)) true _ A18.out).mono ?_); rintro e w' ⟨rfl, ⟨nd, rfl⟩⟩; refine ⟨_, rfl, ?_⟩; have hcz32_0 : wr.cell? ⟨gb291, 0, none⟩ = some (.slice A0_0 l0_0.length c0_0) := (blk_cell BK291.out 0).trans rfl; have hcz32_1 : wr.cell? ⟨gb291, 1, none⟩ = some (.slice (some ad293) l0_1.length c0_1) := (blk_cell BK291.out 1).trans rfl; have hcz32_2 : wr.cell? ⟨gb291, 2, none⟩ = some (.slice A0_2 l0_2.length c0_2) := (blk_cell BK291.out 2).trans rfl; have hfz32_0 := blk_frozen BK291.out 0; have hfz32_1 := blk_frozen BK291.out 1; have hfz32_2 := blk_frozen BK291.out 2; have p298 : 0 ≤ (x24_2 : Int) := dz; have q298 : x24_2 < (l0_2.length : Int) := dz; obtain ⟨ad298, A298_0, c298_0, e298, hx298_0, hl298_0, hi298_0⟩ := at_LITerm HR0_2.out x24_2 p298 q298; cases e298; replace hx298_0 := xz HB hx298_0; have HR298_0 := Aside0.mk hi298_0; have HC298_0 := Aside0.mk hl298_0; clear hi298_0 hl298_0; replace p298 := eq_true p298; replace q298 := eq_true q298) | (go_at_call 161; (with_reducible refine (impl_kindOf.calls k2 _ _ (rd_LITerm l0_2 x24_2) a1 t299 _ ?side1 HC298_0.out A31.out).mono ?_); (case side1 => repeat (first | exact (Kd.C_below HR298_0.out (bz1 HB GE291)) | (with_reducible refine Kd.C_alloc ?_ _) | (with_reducible refine Kd.C_drewN ?_ _) | (with_reducible refine Kd.C_drew ?_))); rintro e w33 ⟨rfl, hb⟩; replace BK291 := Aside0.mk (blk_below (g := gb291) (o := .cells #[.slice A0_0 l0_0.length c0_0, .slice (some ad293) l0_1.length c0_1, .slice (some ad298) l0_2.length c0_2] 145 (0, 0)) (kz BK291) hb); replace HB := Aside0.mk (below_step (bz1 HB GE291) hb); clear hb))
             go_meet
             case rel => exact ⟨_, ((t299 != 1)), rq, H', ⟨by have := HJ2.out; have := HK2.out; first | omega | exact Nat.le_refl _⟩, ⟨kz BK291⟩, ⟨bz1 HB GE291⟩⟩
            ·
             rw [if_neg c30] at H
             exact absurd H (by simp)
          ·
           replace c19 := Bool.eq_false_iff.mpr c19
           subst c19
           rw [if_neg nt_] at H
           have H' := Aside0.mk H
           clear H
           go_wp2_with (first | ((with_reducible refine gate_callee (f := 96) rfl ?_); refine goesL_ (some 32) rfl rfl Try.func96 (by kernel_rfl) rfl #[.int .i64 (rd l0_1 x24_2), .int .i64 0, .int .i64 (wrap64 (a1 - 1))] rfl az ?_; (with_reducible refine (impl_in.calls (rd l0_1 x24_2) 0 (wrap64 (a1 - 1)) false _ A18.out).mono ?_); rintro e w' ⟨rfl, ⟨nd, rfl⟩⟩; refine ⟨_, rfl, ?_⟩))
           go_meet
           case rel => exact ⟨_, (true), rq, H', ⟨by have := HJ2.out; have := HK2.out; first | omega | exact Nat.le_refl _⟩, ⟨kz BK291⟩, ⟨bz1 HB GE291⟩⟩
         case rest =>
          clear HC17
          try clear c1
          try clear c2
          try clear p2
          try clear q2
          try clear hx2
          try clear c3
          try clear c6
          try clear c6b0
          try clear c6b1
          try clear p6
          try clear c9
          try clear c12
          try clear c14
          try clear c14b0
          try clear c15
          try clear c15b0
          try clear c16
          try clear c16b0
          try clear c19
          try clear c20
          try clear c20b0
          try clear c22
          try clear c22b0
          try clear c23
          try clear c23b0
          try clear c24
          try clear c24b0
          try clear c26
          try clear c26b0
          try clear c29
          try clear p29
          try clear q29
          try clear hx29
          try clear c30
          try clear c30b0
          try clear hcz10_0
          try clear hcz10_1
          try clear hcz10_2
          try clear hcz13_0
          try clear hcz13_1
          try clear hcz13_2
          try clear hcz25_0
          try clear hcz25_1
          try clear hcz25_2
          try clear hcz28_0
          try clear hcz28_1
          try clear hcz28_2
          try clear hcz32_0
          try clear hcz32_1
          try clear hcz32_2
          try clear hcz7_0
          try clear hcz7_1
          try clear hcz7_2
          try clear hcz9_0
          try clear hcz9_1
          try clear hcz9_2
          try clear hfz10_0
          try clear hfz10_1
          try clear hfz10_2
          try clear hfz13_0
          try clear hfz13_1
          try clear hfz13_2
          try clear hfz25_0
          try clear hfz25_1
          try clear hfz25_2
          try clear hfz28_0
          try clear hfz28_1
          try clear hfz28_2
          try clear hfz32_0
          try clear hfz32_1
          try clear hfz32_2
          try clear hfz7_0
          try clear hfz7_1
          try clear hfz7_2
          try clear hfz9_0
          try clear hfz9_1
          try clear hfz9_2
          try clear hx293_0
          try clear hx295_0
          try clear hx296_0
          try clear hx298_0
          try clear p2
          try clear p293
          try clear p295
          try clear p296
          try clear p298
          try clear q293
          try clear q295
          try clear q296
          try clear q298
          obtain ⟨kq, x57_16, rfl, HA, HJ16, BK291, HB⟩ := hcut
          cases kq with
          | zero => exact absurd HA.out (by simp [impl_ruleOk.j2])
          | succ kj16 =>
           have H := HA.out
           clear HA
           simp only [impl_ruleOk.j2] at H
           by_cases c34 : x57_16 = true
           ·
            subst c34
            rw [if_pos rfl] at H
            obtain rfl := Option.some.inj H
            go_wp2
            go_ret
            exact ⟨rz, bz1 HB GE291⟩
           ·
            replace c34 := Bool.eq_false_iff.mpr c34
            subst c34
            rw [if_neg nt_] at H
            have H' := Aside0.mk H
            clear H
            go_wp2
            go_roundg kj16
            case measure => have := HJ2.out; have := HK2.out; have := HJ16.out; omega
            case rel => exact ⟨(wrap64 (x24_2 + 1)), rq, H', ⟨by have := HJ2.out; have := HK2.out; have := HJ16.out; omega⟩, ⟨kz BK291⟩, ⟨bz1 HB GE291⟩⟩
        ·
         rw [if_neg c16] at H
         exact absurd H (by simp)
       ·
        rw [if_neg c15] at H
        exact absurd H (by simp)
      ·
       rw [if_neg c14] at H
       have c14b0 : decide (x24_2 < (l0_1.length : Int)) = false := decide_eq_false c14
       clear c14
       obtain rfl := Option.some.inj H
       go_wp2
       go_ret
       exact ⟨rz, bz1 HB GE291⟩
end Go.Proofs.Ytndmhmekmkgccaa.PFnExactSetValid
end
section
namespace Go.Proofs.Ytndmhmekmkgccaa.PFnExactSetValid
open Go.RowKit Go.Proofs.YtndmhmekmkgccaaW.PrintWords Go.Proofs.YtndmhmekmkgccaaW.PrintLast Go.Proofs.YtndmhmekmkgccaaW.PrintMore
attribute [local go_sem] max2_int min2_int max_two min_two max_three min_three max_four min_four   -- for this text's walks alone
set_option linter.unusedVariables false
set_option linter.unusedSimpArgs false
set_option maxHeartbeats 8000000 in
set_option maxRecDepth 100000 in
theorem impl_SystemValid_2.calls (k : Nat) (A0_0 : Option Addr) (c0_0 : Nat) (l0_0 : List (ITerm)) (A0_1 : Option Addr) (c0_1 : Nat) (l0_1 : List Int) (A0_2 : Option Addr) (c0_2 : Nat) (l0_2 : List (List (ITerm))) (gc1 : Nat) (A1_0 : Option Addr) (c1_0 : Nat) (l1_0 : List (IVar)) (A1_1 : Option Addr) (c1_1 : Nat) (l1_1 : List (IRule)) (r : Bool) (w : World) (hr0_0 : Kd.C k107 w A0_0 l0_0.length l0_0) (hc0_0 : l0_0.length ≤ c0_0) (hr0_1 : Kd.C (Kd.int .i64) w A0_1 l0_1.length l0_1) (hc0_1 : l0_1.length ≤ c0_1) (hr0_2 : Kd.C (Kd.slice 107 k107) w A0_2 l0_2.length l0_2) (hc0_2 : l0_2.length ≤ c0_2) (hr1_0 : Kd.C k141 w A1_0 l1_0.length l1_0) (hc1_0 : l1_0.length ≤ c1_0) (hr1_1 : Kd.C k145 w A1_1 l1_1.length l1_1) (hc1_1 : l1_1.length ≤ c1_1) (hk1 : w.heap[gc1]? = some (.cells #[.slice A1_0 l1_0.length c1_0, .slice A1_1 l1_1.length c1_1] 43 (0, 0))) (h : impl_SystemValid_2.f k l0_0 l0_1 l0_2 l1_0 l1_1 = some r) :
  Calls Try.prog 122 #[.agg #[.slice A0_0 l0_0.length c0_0, .slice A0_1 l0_1.length c0_1, .slice A0_2 l0_2.length c0_2], .pointer (some ⟨gc1, 0, none⟩)] w fun e w' => e = .returned (.bool r) ∧ Below w.heap.size w w' := by
 have hu145 := Try.underlying145
 have HR0_0 := Aside0.mk hr0_0
 have HC0_0 := Aside0.mk hc0_0
 clear hr0_0 hc0_0
 have HR0_1 := Aside0.mk hr0_1
 have HC0_1 := Aside0.mk hc0_1
 clear hr0_1 hc0_1
 have HR0_2 := Aside0.mk hr0_2
 have HC0_2 := Aside0.mk hc0_2
 clear hr0_2 hc0_2
 have HR1_0 := Aside0.mk hr1_0
 have HC1_0 := Aside0.mk hc1_0
 clear hr1_0 hc1_0
 have HR1_1 := Aside0.mk hr1_1
 have HC1_1 := Aside0.mk hc1_1
 clear hr1_1 hc1_1
 have BKc1 := Aside0.mk hk1
 clear hk1
 have HB := Aside0.mk (Below.refl w.heap.size w)
 have H : ((impl_ruleOk.f k l0_0 l0_1 l0_2 (l1_0.length : Int)).bind fun t307 => (some (!t307))) = some r := h
 clear h
 replace H := Option.bind_eq_some_iff.mp H
 obtain ⟨t307, A30, H⟩ := H
 have A3 := Aside0.mk A30
 clear A30
 obtain rfl := Option.some.inj H
 go_enter Try.func122, Try.ntmps122
 go_wp2_with (first | ((with_reducible refine gate_dst (N := 2) rfl ?_); refine box_event ?hg (N := 2) ?hd (cs := #[.slice A0_0 l0_0.length c0_0, .slice A0_1 l0_1.length c0_1, .slice A0_2 l0_2.length c0_2]) (t := 145) ?hr ?_; (case hd => rfl); (case hg => rfl); (case hr => first | (go_simp; done) | (go_simp; rfl)); intro gb306 hg w4 hbox hb; have n0_ := Aside0.mk (blk_below (g := gc1) (o := .cells #[.slice A1_0 l1_0.length c1_0, .slice A1_1 l1_1.length c1_1] 43 (0, 0)) (kz BKc1) hb); have n1_ := Aside0.mk (below_step (bz HB) hb); have n2_ := Aside0.mk (hbox); have n3_ := Aside0.mk ((by rw [hg]; exact (below_size (bz HB)) : w.heap.size ≤ gb306)); have n4_ := Aside0.mk ((by rw [hg]; exact (below_size (bz HB)) : w.heap.size ≤ gb306)); have n5_ := Aside0.mk ((by rw [hg]; exact Nat.ne_of_lt (blk_lt (g := gc1) (o := .cells #[.slice A1_0 l1_0.length c1_0, .slice A1_1 l1_1.length c1_1] 43 (0, 0)) (kz BKc1)) : gc1 ≠ gb306)); have n6_ := Aside0.mk ((by rw [hg]; exact Nat.ne_of_gt (blk_lt (g := gc1) (o := .cells #[.slice A1_0 l1_0.length c1_0, .slice A1_1 l1_1.length c1_1] 43 (0, 0)) (kz BKc1)) : gb306 ≠ gc1)); clear BKc1; clear HB; have BKc1 := n0_; have HB := n1_; have BK306 := n2_; have GW306 := n3_; have GE306 := n4_; have NB305_306 := n5_; have NB306_305 := n6_; clear n0_ n1_ n2_ n3_ n4_ n5_ n6_; clear hb hbox hg; have hnb5 := NB306_305.out; have hnc5 := NB305_306.out; have hcz6_0 : w4.cell? ⟨gb306, 0, none⟩ = some (.slice A0_0 l0_0.length c0_0) := (blk_cell BK306.out 0).trans rfl; have hcz6_1 : w4.cell? ⟨gb306, 1, none⟩ = some (.slice A0_1 l0_1.length c0_1) := (blk_cell BK306.out 1).trans rfl; have hcz6_2 : w4.cell? ⟨gb306, 2, none⟩ = some (.slice A0_2 l0_2.length c0_2) := (blk_cell BK306.out 2).trans rfl; have hfz6_0 := blk_frozen BK306.out 0; have hfz6_1 := blk_frozen BK306.out 1; have hfz6_2 := blk_frozen BK306.out 2; have hcz7_0 : w4.cell? ⟨gc1, 0, none⟩ = some (.slice A1_0 l1_0.length c1_0) := (blk_cell BKc1.out 0).trans rfl; have hcz7_1 : w4.cell? ⟨gc1, 1, none⟩ = some (.slice A1_1 l1_1.length c1_1) := (blk_cell BKc1.out 1).trans rfl; have hfz7_0 := blk_frozen BKc1.out 0; have hfz7_1 := blk_frozen BKc1.out 1) | ((with_reducible refine gate_callee (f := 123) rfl ?_); refine goesL_ (some 8) rfl rfl Try.func123 (by kernel_rfl) rfl #[.agg #[.slice A0_0 l0_0.length c0_0, .slice A0_1 l0_1.length c0_1, .slice A0_2 l0_2.length c0_2], .int .i64 (l1_0.length : Int)] rfl az ?_; (with_reducible refine (impl_ruleOk.calls k _ _ l0_0 _ _ l0_1 _ _ l0_2 (l1_0.length : Int) t307 _ ?side1 HC0_0.out ?side3 HC0_1.out ?side5 HC0_2.out A3.out).mono ?_); (case side1 => exact cz HR0_0 HB); (case side3 => exact cz HR0_1 HB); (case side5 => exact cz HR0_2 HB); rintro e w8 ⟨rfl, hb⟩; refine ⟨_, rfl, ?_⟩; replace BKc1 := Aside0.mk (blk_below (g := gc1) (o := .cells #[.slice A1_0 l1_0.length c1_0, .slice A1_1 l1_1.length c1_1] 43 (0, 0)) (kz BKc1) hb); replace BK306 := Aside0.mk (blk_below (g := gb306) (o := .cells #[.slice A0_0 l0_0.length c0_0, .slice A0_1 l0_1.length c0_1, .slice A0_2 l0_2.length c0_2] 145 (0, 0)) (kz BK306) hb); replace HB := Aside0.mk (below_step (bz1 HB GE306) hb); clear hb))
 go_ret
 exact ⟨rz, bz1 HB GE306⟩
end Go.Proofs.Ytndmhmekmkgccaa.PFnExactSetValid
end
section
namespace Go.Proofs.Ytndmhmekmkgccaa.PFnExactSetValid
open Go.RowKit Go.Proofs.YtndmhmekmkgccaaW.PrintWords Go.Proofs.YtndmhmekmkgccaaW.PrintLast Go.Proofs.YtndmhmekmkgccaaW.PrintMore
attribute [local go_sem] max2_int min2_int max_two min_two max_three min_three max_four min_four   -- for this text's walks alone
set_option linter.unusedVariables false
set_option linter.unusedSimpArgs false
set_option maxHeartbeats 8000000 in
set_option maxRecDepth 100000 in
theorem slices_IndexFunc_at_impl_SystemValid_2.calls (k : Nat) (A0 : Option Addr) (c0 : Nat) (l0 : List (IRule))  (gc2 : Nat) (A2_0 : Option Addr) (c2_0 : Nat) (l2_0 : List (IVar)) (A2_1 : Option Addr) (c2_1 : Nat) (l2_1 : List (IRule)) (r : Int) (w : World) (hr0 : Kd.C k145 w A0 l0.length l0) (hc0 : l0.length ≤ c0) (hr2_0 : Kd.C k141 w A2_0 l2_0.length l2_0) (hc2_0 : l2_0.length ≤ c2_0) (hr2_1 : Kd.C k145 w A2_1 l2_1.length l2_1) (hc2_1 : l2_1.length ≤ c2_1) (hk2 : w.heap[gc2]? = some (.cells #[.slice A2_0 l2_0.length c2_0, .slice A2_1 l2_1.length c2_1] 43 (0, 0))) (h : slices_IndexFunc_at_impl_SystemValid_2.f k l0 l2_0 l2_1 = some r) :
  Calls Try.prog 160 #[.slice A0 l0.length c0, .func (.func 122) #[] #[.pointer (some ⟨gc2, 0, none⟩)]] w fun e w' => e = .returned (.int .i64 r) ∧ Below w.heap.size w w' := by
 have hu145 := Try.underlying145
 have HR0 := Aside0.mk hr0
 have HC0 := Aside0.mk hc0
 clear hr0 hc0
 have HR2_0 := Aside0.mk hr2_0
 have HC2_0 := Aside0.mk hc2_0
 clear hr2_0 hc2_0
 have HR2_1 := Aside0.mk hr2_1
 have HC2_1 := Aside0.mk hc2_1
 clear hr2_1 hc2_1
 have BKc2 := Aside0.mk hk2
 clear hk2
 have HB := Aside0.mk (Below.refl w.heap.size w)
 have H : (slices_IndexFunc_at_impl_SystemValid_2.l0 k l0 (l0.length : Int) 0 l2_0 l2_1) = some r := h
 clear h
 have H' := Aside0.mk H
 clear H
 go_enter Try.func160, Try.ntmps160
 go_wp2
 go_loopg [8] k (fun kq v8 w' => ∃ (x8_1 : Int), v8 = .int .i64 x8_1 ∧ Aside0 (slices_IndexFunc_at_impl_SystemValid_2.l0 kq l0 (l0.length : Int) x8_1 l2_0 l2_1 = some r) ∧ Aside0 (kq ≤ k) ∧ Aside0 (w'.heap[gc2]? = some (.cells #[(.slice A2_0 l2_0.length c2_0), (.slice A2_1 l2_1.length c2_1)] 43 (0, 0))) ∧ Aside0 (Below w.heap.size w w'))
 case atStart => exact ⟨(0), rq, H', ⟨Nat.le_refl _⟩, ⟨kz BKc2⟩, ⟨bz HB⟩⟩
 case round =>
  clear H'
  try clear c2
  try clear p2
  obtain ⟨x8_1, rfl, HA, HK1, BKc2, HB⟩ := hrel
  cases gk with
  | zero => exact absurd HA.out (by simp [slices_IndexFunc_at_impl_SystemValid_2.l0])
  | succ k1 =>
   have H := HA.out
   clear HA
   simp only [slices_IndexFunc_at_impl_SystemValid_2.l0] at H
   by_cases c4 : x8_1 < (l0.length : Int)
   ·
    rw [if_pos c4] at H
    have c4b0 : decide (x8_1 < (l0.length : Int)) = true := decide_eq_true c4
    clear c4
    by_cases c5 : 0 ≤ x8_1
    ·
     rw [if_pos c5] at H
     have c5b0 : decide (0 ≤ x8_1) = true := decide_eq_true c5
     clear c5
     by_cases c6 : x8_1 < (l0.length : Int)
     ·
      rw [if_pos c6] at H
      have c6b0 : decide (x8_1 < (l0.length : Int)) = true := decide_eq_true c6
      clear c6
      replace H := Option.bind_eq_some_iff.mp H
      obtain ⟨t310, A70, H⟩ := H
      have A7 := Aside0.mk A70
      clear A70
      by_cases c8 : t310 = true
      ·
       subst c8
       rw [if_pos rfl] at H
       obtain rfl := Option.some.inj H
       have p309 : 0 ≤ (x8_1 : Int) := dz
       have q309 : x8_1 < (l0.length : Int) := dz
       obtain ⟨ad309, A309_0, c309_0, A309_1, c309_1, A309_2, c309_2, e309, hx309_0, hx309_1, hx309_2, hl309_0, hi309_0, hl309_1, hi309_1, hl309_2, hi309_2⟩ := at_IRule HR0.out x8_1 p309 q309
       cases e309
       replace hx309_0 := xz HB hx309_0
       replace hx309_1 := xz HB hx309_1
       replace hx309_2 := xz HB hx309_2
       have HR309_0 := Aside0.mk hi309_0
       have HC309_0 := Aside0.mk hl309_0
       clear hi309_0 hl309_0
       have HR309_1 := Aside0.mk hi309_1
       have HC309_1 := Aside0.mk hl309_1
       clear hi309_1 hl309_1
       have HR309_2 := Aside0.mk hi309_2
       have HC309_2 := Aside0.mk hl309_2
       clear hi309_2 hl309_2
       replace p309 := eq_true p309
       replace q309 := eq_true q309
       go_wp2_with (first | ((with_reducible refine gate_value (cal := .tmp 11) rfl ?_); refine goesV_ (some 16) rfl rfl Try.func122 (by kernel_rfl) rfl #[.agg #[.slice A309_0 ((rd_IRule l0 x8_1).f0).length c309_0, .slice A309_1 ((rd_IRule l0 x8_1).f1).length c309_1, .slice A309_2 ((rd_IRule l0 x8_1).f2).length c309_2], .pointer (some ⟨gc2, 0, none⟩)] rfl rfl az ?_; (with_reducible refine (impl_SystemValid_2.calls k1 _ _ ((rd_IRule l0 x8_1).f0) _ _ ((rd_IRule l0 x8_1).f1) _ _ ((rd_IRule l0 x8_1).f2) gc2 A2_0 c2_0 l2_0 A2_1 c2_1 l2_1 true _ ?side1 HC309_0.out ?side3 HC309_1.out ?side5 HC309_2.out ?side7 HC2_0.out ?side9 HC2_1.out ?side11 A7.out).mono ?_); (case side1 => exact cz HR309_0 HB); (case side3 => exact cz HR309_1 HB); (case side5 => exact cz HR309_2 HB); (case side7 => exact cz HR2_0 HB); (case side9 => exact cz HR2_1 HB); (case side11 => exact kz BKc2); rintro e w9 ⟨rfl, hb⟩; refine ⟨_, rfl, ?_⟩; replace BKc2 := Aside0.mk (blk_below (g := gc2) (o := .cells #[.slice A2_0 l2_0.length c2_0, .slice A2_1 l2_1.length c2_1] 43 (0, 0)) (kz BKc2) hb); replace HB := Aside0.mk (below_step (bz HB) hb); clear hb))
       go_ret
       exact ⟨rz, bz HB⟩
      ·
       replace c8 := Bool.eq_false_iff.mpr c8
       subst c8
       rw [if_neg nt_] at H
       have H' := Aside0.mk H
       clear H
       have p309 : 0 ≤ (x8_1 : Int) := dz
       have q309 : x8_1 < (l0.length : Int) := dz
       obtain ⟨ad309, A309_0, c309_0, A309_1, c309_1, A309_2, c309_2, e309, hx309_0, hx309_1, hx309_2, hl309_0, hi309_0, hl309_1, hi309_1, hl309_2, hi309_2⟩ := at_IRule HR0.out x8_1 p309 q309
       cases e309
       replace hx309_0 := xz HB hx309_0
       replace hx309_1 := xz HB hx309_1
       replace hx309_2 := xz HB hx309_2
       have HR309_0 := Aside0.mk hi309_0
       have HC309_0 := Aside0.mk hl309_0
       clear hi309_0 hl309_0
       have HR309_1 := Aside0.mk hi309_1
       have HC309_1 := Aside0.mk hl309_1
       clear hi309_1 hl309_1
       have HR309_2 := Aside0.mk hi309_2
       have HC309_2 := Aside0.mk hl309_2
       clear hi309_2 hl309_2
       replace p309 := eq_true p309
       replace q309 := eq_true q309
       go_wp2_with (first | ((with_reducible refine gate_value (cal := .tmp 11) rfl ?_); refine goesV_ (some 16) rfl rfl Try.func122 (by kernel_rfl) rfl #[.agg #[.slice A309_0 ((rd_IRule l0 x8_1).f0).length c309_0, .slice A309_1 ((rd_IRule l0 x8_1).f1).length c309_1, .slice A309_2 ((rd_IRule l0 x8_1).f2).length c309_2], .pointer (some ⟨gc2, 0, none⟩)] rfl rfl az ?_; (with_reducible refine (impl_SystemValid_2.calls k1 _ _ ((rd_IRule l0 x8_1).f0) _ _ ((rd_IRule l0 x8_1).f1) _ _ ((rd_IRule l0 x8_1).f2) gc2 A2_0 c2_0 l2_0 A2_1 c2_1 l2_1 false _ ?side1 HC309_0.out ?side3 HC309_1.out ?side5 HC309_2.out ?side7 HC2_0.out ?side9 HC2_1.out ?side11 A7.out).mono ?_); (case side1 => exact cz HR309_0 HB); (case side3 => exact cz HR309_1 HB); (case side5 => exact cz HR309_2 HB); (case side7 => exact cz HR2_0 HB); (case side9 => exact cz HR2_1 HB); (case side11 => exact kz BKc2); rintro e w10 ⟨rfl, hb⟩; refine ⟨_, rfl, ?_⟩; replace BKc2 := Aside0.mk (blk_below (g := gc2) (o := .cells #[.slice A2_0 l2_0.length c2_0, .slice A2_1 l2_1.length c2_1] 43 (0, 0)) (kz BKc2) hb); replace HB := Aside0.mk (below_step (bz HB) hb); clear hb))
       go_roundg k1
       case measure => have := HK1.out; omega
       case rel => exact ⟨(wrap64 (x8_1 + 1)), rq, H', ⟨by have := HK1.out; omega⟩, ⟨kz BKc2⟩, ⟨bz HB⟩⟩
     ·
      rw [if_neg c6] at H
      exact absurd H (by simp)
    ·
     rw [if_neg c5] at H
     exact absurd H (by simp)
   ·
    rw [if_neg c4] at H
    have c4b0 : decide (x8_1 < (l0.length : Int)) = false := decide_eq_false c4
    clear c4
    obtain rfl := Option.some.inj H
    go_wp2
    go_ret
    exact ⟨rz, bz HB⟩
end Go.Proofs.Ytndmhmekmkgccaa.PFnExactSetValid
end
section
namespace Go.Proofs.Ytndmhmekmkgccaa.PFnExactSetValid
open Go.RowKit Go.Proofs.YtndmhmekmkgccaaW.PrintWords Go.Proofs.YtndmhmekmkgccaaW.PrintLast Go.Proofs.YtndmhmekmkgccaaW.PrintMore
attribute [local go_sem] max2_int min2_int max_two min_two max_three min_three max_four min_four   -- for this text's walks alone
set_option linter.unusedVariables false
set_option linter.unusedSimpArgs false
set_option maxHeartbeats 8000000 in
set_option maxRecDepth 100000 in
theorem slices_ContainsFunc_at_impl_SystemValid_2.calls (k : Nat) (A0 : Option Addr) (c0 : Nat) (l0 : List (IRule))  (gc2 : Nat) (A2_0 : Option Addr) (c2_0 : Nat) (l2_0 : List (IVar)) (A2_1 : Option Addr) (c2_1 : Nat) (l2_1 : List (IRule)) (r : Bool) (w : World) (hr0 : Kd.C k145 w A0 l0.length l0) (hc0 : l0.length ≤ c0) (hr2_0 : Kd.C k141 w A2_0 l2_0.length l2_0) (hc2_0 : l2_0.length ≤ c2_0) (hr2_1 : Kd.C k145 w A2_1 l2_1.length l2_1) (hc2_1 : l2_1.length ≤ c2_1) (hk2 : w.heap[gc2]? = some (.cells #[.slice A2_0 l2_0.length c2_0, .slice A2_1 l2_1.length c2_1] 43 (0, 0))) (h : slices_ContainsFunc_at_impl_SystemValid_2.f k l0 l2_0 l2_1 = some r) :
  Calls Try.prog 121 #[.slice A0 l0.length c0, .func (.func 122) #[] #[.pointer (some ⟨gc2, 0, none⟩)]] w fun e w' => e = .returned (.bool r) ∧ Below w.heap.size w w' := by
 have HR0 := Aside0.mk hr0
 have HC0 := Aside0.mk hc0
 clear hr0 hc0
 have HR2_0 := Aside0.mk hr2_0
 have HC2_0 := Aside0.mk hc2_0
 clear hr2_0 hc2_0
 have HR2_1 := Aside0.mk hr2_1
 have HC2_1 := Aside0.mk hc2_1
 clear hr2_1 hc2_1
 have BKc2 := Aside0.mk hk2
 clear hk2
 have HB := Aside0.mk (Below.refl w.heap.size w)
 have H : ((slices_IndexFunc_at_impl_SystemValid_2.f k l0 l2_0 l2_1).bind fun t312 => (some (decide (t312 ≥ 0)))) = some r := h
 clear h
 replace H := Option.bind_eq_some_iff.mp H
 obtain ⟨t312, A40, H⟩ := H
 have A4 := Aside0.mk A40
 clear A40
 obtain rfl := Option.some.inj H
 go_enter Try.func121, Try.ntmps121
 go_wp2_with (first | ((with_reducible refine gate_callee (f := 160) rfl ?_); refine goesL_ (some 7) rfl rfl Try.func160 (by kernel_rfl) rfl #[.slice A0 l0.length c0, .func (.func 122) #[] #[.pointer (some ⟨gc2, 0, none⟩)]] rfl az ?_; (with_reducible refine (slices_IndexFunc_at_impl_SystemValid_2.calls k _ _ l0  gc2 A2_0 c2_0 l2_0 A2_1 c2_1 l2_1 t312 _ ?side1 HC0.out ?side3 HC2_0.out ?side5 HC2_1.out ?side7 A4.out).mono ?_); (case side1 => exact cz0 HR0); (case side3 => exact cz0 HR2_0); (case side5 => exact cz0 HR2_1); (case side7 => exact kz BKc2); rintro e w5 ⟨rfl, hb⟩; refine ⟨_, rfl, ?_⟩; replace BKc2 := Aside0.mk (blk_below (g := gc2) (o := .cells #[.slice A2_0 l2_0.length c2_0, .slice A2_1 l2_1.length c2_1] 43 (0, 0)) (kz BKc2) hb); replace HB := Aside0.mk (below_step (bz HB) hb); clear hb))
 go_ret
 exact ⟨rz, bz HB⟩
end Go.Proofs.Ytndmhmekmkgccaa.PFnExactSetValid
end
section
namespace Go.Proofs.Ytndmhmekmkgccaa.PFnExactSetValid
open Go.RowKit Go.Proofs.YtndmhmekmkgccaaW.PrintWords Go.Proofs.YtndmhmekmkgccaaW.PrintLast Go.Proofs.YtndmhmekmkgccaaW.PrintMore
attribute [local go_sem] max2_int min2_int max_two min_two max_three min_three max_four min_four   -- for this text's walks alone
set_option linter.unusedVariables false
set_option linter.unusedSimpArgs false
set_option maxHeartbeats 8000000 in
set_option maxRecDepth 100000 in
theorem impl_SystemValid.calls (k : Nat) (A0_0 : Option Addr) (c0_0 : Nat) (l0_0 : List (IVar)) (A0_1 : Option Addr) (c0_1 : Nat) (l0_1 : List (IRule)) (r : Bool) (w : World) (hr0_0 : Kd.C k141 w A0_0 l0_0.length l0_0) (hc0_0 : l0_0.length ≤ c0_0) (hr0_1 : Kd.C k145 w A0_1 l0_1.length l0_1) (hc0_1 : l0_1.length ≤ c0_1) (h : impl_SystemValid.f k l0_0 l0_1 = some r) :
  Calls Try.prog 63 #[.agg #[.slice A0_0 l0_0.length c0_0, .slice A0_1 l0_1.length c0_1]] w fun e w' => e = .returned (.bool r) ∧ Below w.heap.size w w' := by
 have hu43 := Try.underlying43
 have HR0_0 := Aside0.mk hr0_0
 have HC0_0 := Aside0.mk hc0_0
 clear hr0_0 hc0_0
 have HR0_1 := Aside0.mk hr0_1
 have HC0_1 := Aside0.mk hc0_1
 clear hr0_1 hc0_1
 have HB := Aside0.mk (Below.refl w.heap.size w)
 have H : ((impl_in.f (l0_0.length : Int) 1 5).bind fun t314 => (if t314 = true then (if (l0_1.length : Int) > 8 then (impl_SystemValid.j0 k true l0_0 l0_1) else ((slices_ContainsFunc_at_impl_SystemValid_1.f k l0_0).bind fun t315 => (if t315 = true then (impl_SystemValid.j0 k true l0_0 l0_1) else ((impl_size.f k l0_0).bind fun t316 => (impl_SystemValid.j0 k (decide (t316 > 400)) l0_0 l0_1))))) else (impl_SystemValid.j0 k true l0_0 l0_1))) = some r := h
 clear h
 have HC2 := Aside0.mk H
 clear H
 go_enter Try.func63, Try.ntmps63
 go_upto_region 1 with (first | ((with_reducible refine gate_dst (N := 1) rfl ?_); (try (refine gate_guard (by rfl) ?_; dsimp only)); refine box_event ?hg (N := 1) ?hd (cs := #[.slice A0_0 l0_0.length c0_0, .slice A0_1 l0_1.length c0_1]) (t := 43) ?hr ?_; (case hd => rfl); (case hg => rfl); (case hr => first | (go_simp; done) | (go_simp; rfl)); intro gb313 hg w3 hbox hb; have n0_ := Aside0.mk (below_step (bz HB) hb); have n1_ := Aside0.mk (hbox); have n2_ := Aside0.mk ((by rw [hg]; exact (below_size (bz HB)) : w.heap.size ≤ gb313)); have n3_ := Aside0.mk ((by rw [hg]; exact (below_size (bz HB)) : w.heap.size ≤ gb313)); clear HB; have HB := n0_; have BK313 := n1_; have GW313 := n2_; have GE313 := n3_; clear n0_ n1_ n2_ n3_; clear hb hbox hg))
 (try simp only [Act.put, sb_, sc0_, sc1_])
 go_cut [24] (fun v24 wc => ∃ (kq : Nat) (x24_1 : Bool), v24 = .bool x24_1 ∧ Aside0 (impl_SystemValid.j0 kq x24_1 l0_0 l0_1 = some r) ∧ Aside0 (kq ≤ k) ∧ Aside0 (wc.heap[gb313]? = some (.cells #[(.slice A0_0 l0_0.length c0_0), (.slice A0_1 l0_1.length c0_1)] 43 (0, 0))) ∧ Aside0 (Below w.heap.size w wc))
 case first =>
  have H := HC2.out
  clear HC2
  replace H := Option.bind_eq_some_iff.mp H
  obtain ⟨t314, A40, H⟩ := H
  have A4 := Aside0.mk A40
  clear A40
  by_cases c5 : t314 = true
  ·
   subst c5
   rw [if_pos rfl] at H
   by_cases c6 : (l0_1.length : Int) > 8
   ·
    rw [if_pos c6] at H
    have c6b0 : decide (8 < (l0_1.length : Int)) = true := decide_eq_true c6
    have c6b1 : decide (8 < l0_1.length) = true := decide_eq_true (by omega)
    clear c6
    (first | rw [c6b0] | (simp only [i64_w, i32_w]; rw [c6b0]) | skip)
    have H' := Aside0.mk H
    clear H
    have hcz7_0 : w3.cell? ⟨gb313, 0, none⟩ = some (.slice A0_0 l0_0.length c0_0) := (blk_cell BK313.out 0).trans rfl
    have hcz7_1 : w3.cell? ⟨gb313, 1, none⟩ = some (.slice A0_1 l0_1.length c0_1) := (blk_cell BK313.out 1).trans rfl
    have hfz7_0 := blk_frozen BK313.out 0
    have hfz7_1 := blk_frozen BK313.out 1
    go_wp2_with (first | ((with_reducible refine gate_callee (f := 96) rfl ?_); refine goesL_ (some 6) rfl rfl Try.func96 (by kernel_rfl) rfl #[.int .i64 (l0_0.length : Int), .int .i64 1, .int .i64 5] rfl az ?_; (with_reducible refine (impl_in.calls (l0_0.length : Int) 1 5 true _ A4.out).mono ?_); rintro e w' ⟨rfl, ⟨nd, rfl⟩⟩; refine ⟨_, rfl, ?_⟩))
    go_meet
    case rel => exact ⟨_, (true), rq, H', ⟨by first | omega | exact Nat.le_refl _⟩, ⟨kz BK313⟩, ⟨bz1 HB GE313⟩⟩
   ·
    rw [if_neg c6] at H
    have c6b0 : decide (8 < (l0_1.length : Int)) = false := decide_eq_false c6
    have c6b1 : decide (8 < l0_1.length) = false := decide_eq_false (by omega)
    clear c6
    (first | rw [c6b0] | (simp only [i64_w, i32_w]; rw [c6b0]) | skip)
    replace H := Option.bind_eq_some_iff.mp H
    obtain ⟨t315, A80, H⟩ := H
    have A8 := Aside0.mk A80
    clear A80
    by_cases c9 : t315 = true
    ·
     subst c9
     rw [if_pos rfl] at H
     have H' := Aside0.mk H
     clear H
     have hcz10_0 : w3.cell? ⟨gb313, 0, none⟩ = some (.slice A0_0 l0_0.length c0_0) := (blk_cell BK313.out 0).trans rfl
     have hcz10_1 : w3.cell? ⟨gb313, 1, none⟩ = some (.slice A0_1 l0_1.length c0_1) := (blk_cell BK313.out 1).trans rfl
     have hfz10_0 := blk_frozen BK313.out 0
     have hfz10_1 := blk_frozen BK313.out 1
     go_wp2_with (first | ((with_reducible refine gate_callee (f := 96) rfl ?_); refine goesL_ (some 6) rfl rfl Try.func96 (by kernel_rfl) rfl #[.int .i64 (l0_0.length : Int), .int .i64 1, .int .i64 5] rfl az ?_; (with_reducible refine (impl_in.calls (l0_0.length : Int) 1 5 true _ A4.out).mono ?_); rintro e w' ⟨rfl, ⟨nd, rfl⟩⟩; refine ⟨_, rfl, ?_⟩) | (go_at_call 118; (with_reducible refine (slices_ContainsFunc_at_impl_SystemValid_1.calls k _ _ l0_0  true _ ?side1 HC0_0.out A8.out).mono ?_); (case side1 => repeat (first | exact (Kd.C_below HR0_0.out (bz1 HB GE313)) | (with_reducible refine Kd.C_alloc ?_ _) | (with_reducible refine Kd.C_drewN ?_ _) | (with_reducible refine Kd.C_drew ?_))); rintro e w11 ⟨rfl, hb⟩; replace BK313 := Aside0.mk (blk_below (g := gb313) (o := .cells #[.slice A0_0 l0_0.length c0_0, .slice A0_1 l0_1.length c0_1] 43 (0, 0)) (kz BK313) hb); replace HB := Aside0.mk (below_step (bz1 HB GE313) hb); clear hb))
     go_meet
     case rel => exact ⟨_, (true), rq, H', ⟨by first | omega | exact Nat.le_refl _⟩, ⟨kz BK313⟩, ⟨bz1 HB GE313⟩⟩
    ·
     replace c9 := Bool.eq_false_iff.mpr c9
     subst c9
     rw [if_neg nt_] at H
     replace H := Option.bind_eq_some_iff.mp H
     obtain ⟨t316, A120, H⟩ := H
     have A12 := Aside0.mk A120
     clear A120
     have H' := Aside0.mk H
     clear H
     have hcz13_0 : w3.cell? ⟨gb313, 0, none⟩ = some (.slice A0_0 l0_0.length c0_0) := (blk_cell BK313.out 0).trans rfl
     have hcz13_1 : w3.cell? ⟨gb313, 1, none⟩ = some (.slice A0_1 l0_1.length c0_1) := (blk_cell BK313.out 1).trans rfl
     have hfz13_0 := blk_frozen BK313.out 0
     have hfz13_1 := blk_frozen BK313.out 1
     go_wp2_with (first | ((with_reducible refine gate_callee (f := 96) rfl ?_); refine goesL_ (some 6) rfl rfl Try.func96 (by kernel_rfl) rfl #[.int .i64 (l0_0.length : Int), .int .i64 1, .int .i64 5] rfl az ?_; (with_reducible refine (impl_in.calls (l0_0.length : Int) 1 5 true _ A4.out).mono ?_); rintro e w' ⟨rfl, ⟨nd, rfl⟩⟩; refine ⟨_, rfl, ?_⟩) | (go_at_call 118; (with_reducible refine (slices_ContainsFunc_at_impl_SystemValid_1.calls k _ _ l0_0  false _ ?side1 ?side2 A8.out).mono ?_); (case side1 => repeat (first | exact (Kd.C_below HR0_0.out (bz1 HB GE313)) | (with_reducible refine Kd.C_alloc ?_ _) | (with_reducible refine Kd.C_drewN ?_ _) | (with_reducible refine Kd.C_drew ?_))); (case side2 => exact HC0_0.out); rintro e w14 ⟨rfl, hb⟩; replace BK313 := Aside0.mk (blk_below (g := gb313) (o := .cells #[.slice A0_0 l0_0.length c0_0, .slice A0_1 l0_1.length c0_1] 43 (0, 0)) (kz BK313) hb); replace HB := Aside0.mk (below_step (bz1 HB GE313) hb); clear hb; have hcz15_0 : w14.cell? ⟨gb313, 0, none⟩ = some (.slice A0_0 l0_0.length c0_0) := (blk_cell BK313.out 0).trans rfl; have hcz15_1 : w14.cell? ⟨gb313, 1, none⟩ = some (.slice A0_1 l0_1.length c0_1) := (blk_cell BK313.out 1).trans rfl; have hfz15_0 := blk_frozen BK313.out 0; have hfz15_1 := blk_frozen BK313.out 1) | (go_at_call 93; (with_reducible refine (impl_size.calls k _ _ l0_0 t316 _ ?side1 ?side2 A12.out).mono ?_); (case side1 => exact cz HR0_0 HB); (case side2 => exact HC0_0.out); rintro e w16 ⟨rfl, hb⟩; replace BK313 := Aside0.mk (blk_below (g := gb313) (o := .cells #[.slice A0_0 l0_0.length c0_0, .slice A0_1 l0_1.length c0_1] 43 (0, 0)) (kz BK313) hb); replace HB := Aside0.mk (below_step (bz1 HB GE313) hb); clear hb))
     go_meet
     case rel => exact ⟨_, (decide (t316 > 400)), rq, H', ⟨by first | omega | exact Nat.le_refl _⟩, ⟨kz BK313⟩, ⟨bz1 HB GE313⟩⟩
  ·
   replace c5 := Bool.eq_false_iff.mpr c5
   subst c5
   rw [if_neg nt_] at H
   have H' := Aside0.mk H
   clear H
   have hcz17_0 : w3.cell? ⟨gb313, 0, none⟩ = some (.slice A0_0 l0_0.length c0_0) := (blk_cell BK313.out 0).trans rfl
   have hcz17_1 : w3.cell? ⟨gb313, 1, none⟩ = some (.slice A0_1 l0_1.length c0_1) := (blk_cell BK313.out 1).trans rfl
   have hfz17_0 := blk_frozen BK313.out 0
   have hfz17_1 := blk_frozen BK313.out 1
   go_wp2_with (first | ((with_reducible refine gate_callee (f := 96) rfl ?_); refine goesL_ (some 6) rfl rfl Try.func96 (by kernel_rfl) rfl #[.int .i64 (l0_0.length : Int), .int .i64 1, .int .i64 5] rfl az ?_; (with_reducible refine (impl_in.calls (l0_0.length : Int) 1 5 false _ A4.out).mono ?_); rintro e w' ⟨rfl, ⟨nd, rfl⟩⟩; refine ⟨_, rfl, ?_⟩))
   go_meet
   case rel => exact ⟨_, (true), rq, H', ⟨by first | omega | exact Nat.le_refl _⟩, ⟨kz BK313⟩, ⟨bz1 HB GE313⟩⟩
 case rest =>
  clear HC2
  try clear p2
  try clear c5
  try clear c6
  try clear c6b0
  try clear c6b1
  try clear c9
  try clear hcz10_0
  try clear hcz10_1
  try clear hcz13_0
  try clear hcz13_1
  try clear hcz15_0
  try clear hcz15_1
  try clear hcz17_0
  try clear hcz17_1
  try clear hcz7_0
  try clear hcz7_1
  try clear hfz10_0
  try clear hfz10_1
  try clear hfz13_0
  try clear hfz13_1
  try clear hfz15_0
  try clear hfz15_1
  try clear hfz17_0
  try clear hfz17_1
  try clear hfz7_0
  try clear hfz7_1
  obtain ⟨kq, x24_1, rfl, HA, HJ1, BK313, HB⟩ := hcut
  cases kq with
  | zero => exact absurd HA.out (by simp [impl_SystemValid.j0])
  | succ kj1 =>
   have H := HA.out
   clear HA
   simp only [impl_SystemValid.j0] at H
   by_cases c18 : x24_1 = true
   ·
    subst c18
    rw [if_pos rfl] at H
    obtain rfl := Option.some.inj H
    go_wp2
    go_ret
    exact ⟨rz, bz1 HB GE313⟩
   ·
    replace c18 := Bool.eq_false_iff.mpr c18
    subst c18
    rw [if_neg nt_] at H
    replace H := Option.bind_eq_some_iff.mp H
    obtain ⟨t317, A190, H⟩ := H
    have A19 := Aside0.mk A190
    clear A190
    obtain rfl := Option.some.inj H
    have hcz20_0 : wc.cell? ⟨gb313, 0, none⟩ = some (.slice A0_0 l0_0.length c0_0) := (blk_cell BK313.out 0).trans rfl
    have hcz20_1 : wc.cell? ⟨gb313, 1, none⟩ = some (.slice A0_1 l0_1.length c0_1) := (blk_cell BK313.out 1).trans rfl
    have hfz20_0 := blk_frozen BK313.out 0
    have hfz20_1 := blk_frozen BK313.out 1
    go_wp2_with (first | ((with_reducible refine gate_callee (f := 121) rfl ?_); refine goesL_ (some 28) rfl rfl Try.func121 (by kernel_rfl) rfl #[.slice A0_1 l0_1.length c0_1, .func (.func 122) #[] #[.pointer (some ⟨gb313, 0, none⟩)]] rfl az ?_; (with_reducible refine (slices_ContainsFunc_at_impl_SystemValid_2.calls kj1 _ _ l0_1  gb313 A0_0 c0_0 l0_0 A0_1 c0_1 l0_1 t317 _ ?side1 HC0_1.out ?side3 HC0_0.out ?side5 HC0_1.out ?side7 A19.out).mono ?_); (case side1 => exact cz HR0_1 HB); (case side3 => exact cz HR0_0 HB); (case side5 => exact cz HR0_1 HB); (case side7 => exact kz BK313); rintro e w21 ⟨rfl, hb⟩; refine ⟨_, rfl, ?_⟩; replace BK313 := Aside0.mk (blk_below (g := gb313) (o := .cells #[.slice A0_0 l0_0.length c0_0, .slice A0_1 l0_1.length c0_1] 43 (0, 0)) (kz BK313) hb); replace HB := Aside0.mk (below_step (bz1 HB GE313) hb); clear hb))
    go_ret
    exact ⟨rz, bz1 HB GE313⟩
end Go.Proofs.Ytndmhmekmkgccaa.PFnExactSetValid
end
