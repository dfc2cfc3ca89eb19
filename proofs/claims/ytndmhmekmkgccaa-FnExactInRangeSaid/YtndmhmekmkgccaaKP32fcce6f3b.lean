/- Walks of Go functions: each is shown to answer as the Lean function beside it tells, under the conditions that its theorem names. -/
import Derived.Test.YtndmhmekmkgccaaKP3ef63d26e3
import Derived.Test.YtndmhmekmkgccaaKP741c762594
section
namespace Go.Proofs.Ytndmhmekmkgccaa.PFnExactInRange
open Go.RowKit Go.Proofs.YtndmhmekmkgccaaW.PrintWords Go.Proofs.YtndmhmekmkgccaaW.PrintLast Go.Proofs.YtndmhmekmkgccaaW.PrintMore
attribute [local go_sem] max2_int min2_int max_two min_two max_three min_three max_four min_four   -- for this text's walks alone
set_option linter.unusedVariables false
set_option linter.unusedSimpArgs false
set_option maxHeartbeats 8000000 in
set_option maxRecDepth 100000 in
theorem impl_kindsOf.calls (k : Nat) (A0 : Option Addr) (c0 : Nat) (l0 : List (ITerm)) (a1 : Int) (r : List Int) (w : World) (hr0 : Kd.C k107 w A0 l0.length l0) (hc0 : l0.length ≤ c0) (h : impl_kindsOf.f k l0 a1 = some r) :
  Calls Try.prog 137 #[.slice A0 l0.length c0, .int .i64 a1] w fun e w' => ∃ v0_ : Value, e = .returned (v0_) ∧ Kd.R (Kd.int .i64) 3 w' w.heap.size (fun _ => True) v0_ r ∧ Below w.heap.size w w' ∧ NilIf r v0_ := by
 have hu107 := Try.underlying107
 have HR0 := Aside0.mk hr0
 have HC0 := Aside0.mk hc0
 clear hr0 hc0
 have HB := Aside0.mk (Below.refl w.heap.size w)
 have H : ((impl_in.f a1 0 5).bind fun t242 => (if t242 = true then ((impl_in.f (l0.length : Int) 1 40).bind fun t243 => (impl_kindsOf.j0 k l0 a1 (!t243))) else (impl_kindsOf.j0 k l0 a1 true))) = some r := h
 clear h
 have HC3 := Aside0.mk H
 clear H
 go_enter Try.func137, Try.ntmps137
 go_upto_region 1 with (fail)
 go_cut [20] (fun v20 wc => ∃ (kq : Nat) (x20_2 : Bool), v20 = .bool x20_2 ∧ Aside0 (impl_kindsOf.j0 kq l0 a1 x20_2 = some r) ∧ Aside0 (kq ≤ k) ∧ Aside0 (Below w.heap.size w wc))
 case first =>
  have H := HC3.out
  clear HC3
  replace H := Option.bind_eq_some_iff.mp H
  obtain ⟨t242, A40, H⟩ := H
  have A4 := Aside0.mk A40
  clear A40
  by_cases c5 : t242 = true
  ·
   subst c5
   rw [if_pos rfl] at H
   replace H := Option.bind_eq_some_iff.mp H
   obtain ⟨t243, A60, H⟩ := H
   have A6 := Aside0.mk A60
   clear A60
   have H' := Aside0.mk H
   clear H
   go_wp2_with (first | ((with_reducible refine gate_callee (f := 96) rfl ?_); refine goesL_ (some 13) rfl rfl Try.func96 (by kernel_rfl) rfl #[.int .i64 a1, .int .i64 0, .int .i64 5] rfl az ?_; (with_reducible refine (impl_in.calls a1 0 5 true _ A4.out).mono ?_); rintro e w' ⟨rfl, ⟨nd, rfl⟩⟩; refine ⟨_, rfl, ?_⟩) | (go_at_call 96; (with_reducible refine (impl_in.calls (l0.length : Int) 1 40 t243 _ A6.out).mono ?_); rintro e w' ⟨rfl, ⟨nd, rfl⟩⟩))
   go_meet
   case rel => exact ⟨_, (!t243), rq, H', ⟨by first | omega | exact Nat.le_refl _⟩, ⟨bz HB⟩⟩
  ·
   replace c5 := Bool.eq_false_iff.mpr c5
   subst c5
   rw [if_neg nt_] at H
   have H' := Aside0.mk H
   clear H
   go_wp2_with (first | ((with_reducible refine gate_callee (f := 96) rfl ?_); refine goesL_ (some 13) rfl rfl Try.func96 (by kernel_rfl) rfl #[.int .i64 a1, .int .i64 0, .int .i64 5] rfl az ?_; (with_reducible refine (impl_in.calls a1 0 5 false _ A4.out).mono ?_); rintro e w' ⟨rfl, ⟨nd, rfl⟩⟩; refine ⟨_, rfl, ?_⟩))
   go_meet
   case rel => exact ⟨_, (true), rq, H', ⟨by first | omega | exact Nat.le_refl _⟩, ⟨bz HB⟩⟩
 case rest =>
  clear HC3
  try clear c1
  try clear p2
  try clear c5
  obtain ⟨kq, x20_2, rfl, HA, HJ2, HB⟩ := hcut
  cases kq with
  | zero => exact absurd HA.out (by simp [impl_kindsOf.j0])
  | succ kj2 =>
   have H := HA.out
   clear HA
   simp only [impl_kindsOf.j0] at H
   by_cases c7 : x20_2 = true
   ·
    subst c7
    rw [if_pos rfl] at H
    obtain rfl := Option.some.inj H
    go_wp2
    go_ret
    exact ⟨_, rz, nz, bz HB, by first | exact NilIf.intro (fun _ => rfl) | exact NilIf.intro (fun e_ => absurd (‹Aside0 (0 < List.length _)›).out (by rw [e_]; exact Nat.lt_irrefl 0))⟩
   ·
    replace c7 := Bool.eq_false_iff.mpr c7
    subst c7
    rw [if_neg nt_] at H
    by_cases c8 : 0 ≤ (l0.length : Int)
    ·
     rw [if_pos c8] at H
     have c8b0 := eq_true c8
     have c8b1 : decide (0 ≤ (l0.length : Int)) = true := decide_eq_true c8
     clear c8
     by_cases c9 : ((l0.length : Int) : Int).toNat ≤ 35184372088832
     ·
      rw [if_pos c9] at H
      have c9b0 := eq_true c9
      have c9b1 : decide (((l0.length : Int) : Int).toNat ≤ 35184372088832) = true := decide_eq_true c9
      clear c9
      obtain ⟨y244, hy244⟩ : ∃ y_ : List Int, y_ = (([] : List Int)) := ⟨_, rfl⟩
      replace H : (impl_kindsOf.l0 kj2 a1 y244 l0 (l0.length : Int) 0) = some r := by first | (rw [hy244]; with_reducible exact H) | (have H2_ := (Option.bind_some _ _).symm.trans H; rw [hy244]; with_reducible exact H2_) | (have H2_ := (Option.bind_some _ _).symm.trans H; with_reducible exact H2_) | with_reducible exact H | (rw [hy244]; exact H) | exact H
      have Ny244 := Aside0.mk hy244
      clear hy244
      have H' := Aside0.mk H
      clear H
      go_wp2_with (first | ((with_reducible refine gate_dst (N := 23) rfl ?_); (try (refine gate_guard (by rfl) ?_; dsimp only)); refine Kd.R_make0 (Kd.int .i64) _ 3 rfl (N := 23) rfl 26 _ _ rfl (l0.length : Int) rfl rfl Try.underlying26 (.int .i64 0) 8 info3 rfl (by decide) (by omega) 0 (ok := fun _ => True) (okp := fun _ => True) rfl (fun _ hk => hk) trivial (dz) (Nat.le_trans (Nat.mul_le_mul_right _ (dz : (l0.length : Int).toNat ≤ 35184372088832)) (by omega)) (Below.refl _ _) (Nat.le_refl _) ?_; intro v245 w10 ho11 hb hg_ hnew_; clear hg_ hnew_; (first | rw [← Ny244.out] at ho11 | (simp only [Int.reduceToNat] at ho11; rw [← Ny244.out] at ho11)); have HO246 := Aside0.mk (Kd.R_lower ho11 (below_size (bz HB))); replace HB := Aside0.mk (below_step (bz HB) hb); clear hb ho11))
      go_loopg [5, 26] kj2 (fun kq v5 v26 w' => ∃ (x5_2 : List Int) (x26_2 : Int), v26 = .int .i64 x26_2 ∧ Aside0 (impl_kindsOf.l0 kq a1 x5_2 l0 (l0.length : Int) x26_2 = some r) ∧ Aside0 (kq ≤ kj2) ∧ Aside0 (Kd.R (Kd.int .i64) 3 w' w.heap.size (fun _ => True) v5 x5_2) ∧ Aside0 (Below w.heap.size w w'))
      case atStart => exact ⟨(y244), (0), rq, H', ⟨Nat.le_refl _⟩, ⟨ozR HO246⟩, ⟨bz HB⟩⟩
      case round =>
       clear H'
       try clear c1
       try clear p2
       try clear c5
       try clear c7
       try clear c8
       try clear c8b0
       try clear c8b1
       try clear c9
       try clear c9b0
       try clear c9b1
       try clear p2
       obtain ⟨x5_2, x26_2, rfl, HA, HK2, HO_5, HB⟩ := hrel
       cases gk with
       | zero => exact absurd HA.out (by simp [impl_kindsOf.l0])
       | succ k2 =>
        have H := HA.out
        clear HA
        simp only [impl_kindsOf.l0] at H
        by_cases c12 : x26_2 < (l0.length : Int)
        ·
         rw [if_pos c12] at H
         have c12b0 : decide (x26_2 < (l0.length : Int)) = true := decide_eq_true c12
         clear c12
         by_cases c13 : 0 ≤ x26_2
         ·
          rw [if_pos c13] at H
          have c13b0 : decide (0 ≤ x26_2) = true := decide_eq_true c13
          clear c13
          by_cases c14 : x26_2 < (l0.length : Int)
          ·
           rw [if_pos c14] at H
           have c14b0 : decide (x26_2 < (l0.length : Int)) = true := decide_eq_true c14
           clear c14
           replace H := Option.bind_eq_some_iff.mp H
           obtain ⟨⟨t249, t250, t251⟩, A150, H⟩ := H
           dsimp only at H
           have A15 := Aside0.mk A150
           clear A150
           replace H := Option.bind_eq_some_iff.mp H
           obtain ⟨t252, A160, H⟩ := H
           have A16 := Aside0.mk A160
           clear A160
           have HC17 := Aside0.mk H
           clear H
           have p247 : 0 ≤ (x26_2 : Int) := dz
           have q247 : x26_2 < (l0.length : Int) := dz
           obtain ⟨ad247, e247, hx247_0, hx247_1, hx247_2, hx247_3⟩ := at_ITerm HR0.out x26_2 p247 q247
           cases e247
           replace hx247_0 := xz HB hx247_0
           replace hx247_1 := xz HB hx247_1
           replace hx247_2 := xz HB hx247_2
           replace hx247_3 := xz HB hx247_3
           replace p247 := eq_true p247
           replace q247 := eq_true q247
           go_upto_block 2 with (first | ((with_reducible refine gate_dst (N := 7) rfl ?_); (try (refine gate_guard (by rfl) ?_; dsimp only)); refine box_event ?hg (N := 7) ?hd (cs := #[.int .i64 0, .int .i64 0, .int .i64 0, .int .i64 0]) (t := 107) ?hr ?_; (case hd => rfl); (case hg => rfl); (case hr => first | (go_simp; done) | (go_simp; rfl)); intro gb248 hg w18 hbox hb; have n0_ := Aside0.mk (Kd.R_below (ozR HO_5) hb); have n1_ := Aside0.mk (below_step (bz HB) hb); have n2_ := Aside0.mk (hbox); have n3_ := Aside0.mk ((by rw [hg]; exact (below_size (bz HB)) : w.heap.size ≤ gb248)); have n4_ := Aside0.mk ((by rw [hg]; exact (below_size (bz HB)) : w.heap.size ≤ gb248)); clear HO_5; clear HB; have HO_5 := n0_; have HB := n1_; have BK248 := n2_; have GW248 := n3_; have GE248 := n4_; clear n0_ n1_ n2_ n3_ n4_; clear hb hbox hg; have hcz19_0 : w18.cell? ⟨gb248, 0, none⟩ = some (.int .i64 0) := (blk_cell BK248.out 0).trans rfl; have hcz19_1 : w18.cell? ⟨gb248, 1, none⟩ = some (.int .i64 0) := (blk_cell BK248.out 1).trans rfl; have hcz19_2 : w18.cell? ⟨gb248, 2, none⟩ = some (.int .i64 0) := (blk_cell BK248.out 2).trans rfl; have hcz19_3 : w18.cell? ⟨gb248, 3, none⟩ = some (.int .i64 0) := (blk_cell BK248.out 3).trans rfl; have hfz19_0 := blk_frozen BK248.out 0; have hfz19_1 := blk_frozen BK248.out 1; have hfz19_2 := blk_frozen BK248.out 2; have hfz19_3 := blk_frozen BK248.out 3) | ((with_reducible refine gate_callee (f := 168) rfl ?_); refine goesL_ (some 34) rfl rfl Try.func168 (by kernel_rfl) rfl #[.int .i64 ((rd_ITerm l0 x26_2).f0)] rfl az ?_; (with_reducible refine (impl_parts.calls k2 ((rd_ITerm l0 x26_2).f0) t249 t250 t251 _ A15.out).mono ?_); rintro e w' ⟨rfl, ⟨nd, rfl⟩⟩; refine ⟨_, rfl, ?_⟩) | ((with_reducible refine gate_callee (f := 96) rfl ?_); refine goesL_ (some 40) rfl rfl Try.func96 (by kernel_rfl) rfl #[.int .i64 ((rd_ITerm l0 x26_2).f0), .int .i64 0, .int .i64 9] rfl az ?_; (with_reducible refine (impl_in.calls ((rd_ITerm l0 x26_2).f0) 0 9 t252 _ A16.out).mono ?_); rintro e w' ⟨rfl, ⟨nd, rfl⟩⟩; refine ⟨_, rfl, ?_⟩))
           (try simp only [Act.put, sb_, sc0_, sc1_])
           go_cut [11] (fun v11 wc => ∃ (kq : Nat) (x11_16 : Bool), v11 = .bool x11_16 ∧ Aside0 (impl_kindsOf.j2 kq a1 x5_2 t251 x11_16 l0 (l0.length : Int) x26_2 = some r) ∧ Aside0 (kq ≤ k2) ∧ Aside0 (Kd.R (Kd.int .i64) 3 wc w.heap.size (fun _ => True) u5 x5_2) ∧ Aside0 (wc.heap[gb248]? = some (.cells #[.int .i64 ((rd_ITerm l0 x26_2).f0), .int .i64 ((rd_ITerm l0 x26_2).f1), .int .i64 ((rd_ITerm l0 x26_2).f2), .int .i64 ((rd_ITerm l0 x26_2).f3)] 107 (0, 0))) ∧ Aside0 (Below w.heap.size w wc))
           case first =>
            have H := HC17.out
            clear HC17
            by_cases c20 : ((rd_ITerm l0 x26_2).f0) = 0
            ·
             rw [if_pos c20] at H
             have c20b0 : (((rd_ITerm l0 x26_2).f0) == 0) = true := beq_iff_eq.mpr c20
             have c20b1 : (((rd_ITerm l0 x26_2).f0) != 0) = false := bne_eq_false_iff_eq.mpr c20
             clear c20
             (first | rw [c20b0] | (simp only [i64_w, i32_w]; rw [c20b0]) | skip)
             replace H := Option.bind_eq_some_iff.mp H
             obtain ⟨t253, A210, H⟩ := H
             have A21 := Aside0.mk A210
             clear A210
             by_cases c22 : t253 = true
             ·
              subst c22
              rw [if_pos rfl] at H
              by_cases c23 : ((rd_ITerm l0 x26_2).f2) = 0
              ·
               rw [if_pos c23] at H
               have c23b0 : (((rd_ITerm l0 x26_2).f2) == 0) = true := beq_iff_eq.mpr c23
               have c23b1 : (((rd_ITerm l0 x26_2).f2) != 0) = false := bne_eq_false_iff_eq.mpr c23
               clear c23
               have H' := Aside0.mk H
               clear H
               have hcz24_0 : w18.cell? ⟨gb248, 0, none⟩ = some (.int .i64 0) := (blk_cell BK248.out 0).trans rfl
               have hcz24_1 : w18.cell? ⟨gb248, 1, none⟩ = some (.int .i64 0) := (blk_cell BK248.out 1).trans rfl
               have hcz24_2 : w18.cell? ⟨gb248, 2, none⟩ = some (.int .i64 0) := (blk_cell BK248.out 2).trans rfl
               have hcz24_3 : w18.cell? ⟨gb248, 3, none⟩ = some (.int .i64 0) := (blk_cell BK248.out 3).trans rfl
               have hfz24_0 := blk_frozen BK248.out 0
               have hfz24_1 := blk_frozen BK248.out 1
               have hfz24_2 := blk_frozen BK248.out 2
               have hfz24_3 := blk_frozen BK248.out 3
               go_wp2_with (first | ((with_reducible refine gate_callee (f := 96) rfl ?_); refine goesL_ (some 47) rfl rfl Try.func96 (by kernel_rfl) rfl #[.int .i64 ((rd_ITerm l0 x26_2).f1), .int .i64 (-9999), .int .i64 9999] rfl az ?_; (with_reducible refine (impl_in.calls ((rd_ITerm l0 x26_2).f1) (-9999) 9999 true _ A21.out).mono ?_); rintro e w' ⟨rfl, ⟨nd, rfl⟩⟩; refine ⟨_, rfl, ?_⟩))
               go_meet
               case rel => exact ⟨_, ((((rd_ITerm l0 x26_2).f3) == 0)), rq, H', ⟨by have := HJ2.out; have := HK2.out; first | omega | exact Nat.le_refl _⟩, ⟨by (with_reducible repeat (first | apply Kd.R_alloc | apply Kd.R_drewN | apply Kd.R_drew)); exact Kd.R_mono (Kd.R_far (p := ⟨gb248, 3, none⟩) (Kd.R_far (p := ⟨gb248, 2, none⟩) (Kd.R_far (p := ⟨gb248, 1, none⟩) (Kd.R_far (p := ⟨gb248, 0, none⟩) (Kd.R_types HO_5.out BK248.out (by decide)) (fun _ hk => hk.2) (.int .i64 ((rd_ITerm l0 x26_2).f0))) (fun _ hk => hk.2) (.int .i64 ((rd_ITerm l0 x26_2).f1))) (fun _ hk => hk.2) (.int .i64 ((rd_ITerm l0 x26_2).f2))) (fun _ hk => hk.2) (.int .i64 ((rd_ITerm l0 x26_2).f3))) (fun _ hk => trivial)⟩, ⟨by (with_reducible repeat (first | refine blk_drewN ?_ _ | refine blk_drew ?_ | refine blk_alloc ?_ _)); refine blk_put (cs := #[.int .i64 ((rd_ITerm l0 x26_2).f0), .int .i64 ((rd_ITerm l0 x26_2).f1), .int .i64 ((rd_ITerm l0 x26_2).f2), .int .i64 0]) ?_ 3 _ rfl; (with_reducible repeat (first | refine blk_drewN ?_ _ | refine blk_drew ?_ | refine blk_alloc ?_ _)); refine blk_put (cs := #[.int .i64 ((rd_ITerm l0 x26_2).f0), .int .i64 ((rd_ITerm l0 x26_2).f1), .int .i64 0, .int .i64 0]) ?_ 2 _ rfl; (with_reducible repeat (first | refine blk_drewN ?_ _ | refine blk_drew ?_ | refine blk_alloc ?_ _)); refine blk_put (cs := #[.int .i64 ((rd_ITerm l0 x26_2).f0), .int .i64 0, .int .i64 0, .int .i64 0]) ?_ 1 _ rfl; (with_reducible repeat (first | refine blk_drewN ?_ _ | refine blk_drew ?_ | refine blk_alloc ?_ _)); refine blk_put (cs := #[.int .i64 0, .int .i64 0, .int .i64 0, .int .i64 0]) ?_ 0 _ rfl; exact kz BK248⟩, ⟨bz1 HB GE248⟩⟩
              ·
               rw [if_neg c23] at H
               have c23b0 : (((rd_ITerm l0 x26_2).f2) == 0) = false := beq_eq_false_iff_ne.mpr c23
               have c23b1 : (((rd_ITerm l0 x26_2).f2) != 0) = true := bne_iff_ne.mpr c23
               have H' := Aside0.mk H
               clear H
               have hcz25_0 : w18.cell? ⟨gb248, 0, none⟩ = some (.int .i64 0) := (blk_cell BK248.out 0).trans rfl
               have hcz25_1 : w18.cell? ⟨gb248, 1, none⟩ = some (.int .i64 0) := (blk_cell BK248.out 1).trans rfl
               have hcz25_2 : w18.cell? ⟨gb248, 2, none⟩ = some (.int .i64 0) := (blk_cell BK248.out 2).trans rfl
               have hcz25_3 : w18.cell? ⟨gb248, 3, none⟩ = some (.int .i64 0) := (blk_cell BK248.out 3).trans rfl
               have hfz25_0 := blk_frozen BK248.out 0
               have hfz25_1 := blk_frozen BK248.out 1
               have hfz25_2 := blk_frozen BK248.out 2
               have hfz25_3 := blk_frozen BK248.out 3
               go_wp2_with (first | ((with_reducible refine gate_callee (f := 96) rfl ?_); refine goesL_ (some 47) rfl rfl Try.func96 (by kernel_rfl) rfl #[.int .i64 ((rd_ITerm l0 x26_2).f1), .int .i64 (-9999), .int .i64 9999] rfl az ?_; (with_reducible refine (impl_in.calls ((rd_ITerm l0 x26_2).f1) (-9999) 9999 true _ A21.out).mono ?_); rintro e w' ⟨rfl, ⟨nd, rfl⟩⟩; refine ⟨_, rfl, ?_⟩))
               go_meet
               case rel => exact ⟨_, (false), rq, H', ⟨by have := HJ2.out; have := HK2.out; first | omega | exact Nat.le_refl _⟩, ⟨by (with_reducible repeat (first | apply Kd.R_alloc | apply Kd.R_drewN | apply Kd.R_drew)); exact Kd.R_mono (Kd.R_far (p := ⟨gb248, 3, none⟩) (Kd.R_far (p := ⟨gb248, 2, none⟩) (Kd.R_far (p := ⟨gb248, 1, none⟩) (Kd.R_far (p := ⟨gb248, 0, none⟩) (Kd.R_types HO_5.out BK248.out (by decide)) (fun _ hk => hk.2) (.int .i64 ((rd_ITerm l0 x26_2).f0))) (fun _ hk => hk.2) (.int .i64 ((rd_ITerm l0 x26_2).f1))) (fun _ hk => hk.2) (.int .i64 ((rd_ITerm l0 x26_2).f2))) (fun _ hk => hk.2) (.int .i64 ((rd_ITerm l0 x26_2).f3))) (fun _ hk => trivial)⟩, ⟨by (with_reducible repeat (first | refine blk_drewN ?_ _ | refine blk_drew ?_ | refine blk_alloc ?_ _)); refine blk_put (cs := #[.int .i64 ((rd_ITerm l0 x26_2).f0), .int .i64 ((rd_ITerm l0 x26_2).f1), .int .i64 ((rd_ITerm l0 x26_2).f2), .int .i64 0]) ?_ 3 _ rfl; (with_reducible repeat (first | refine blk_drewN ?_ _ | refine blk_drew ?_ | refine blk_alloc ?_ _)); refine blk_put (cs := #[.int .i64 ((rd_ITerm l0 x26_2).f0), .int .i64 ((rd_ITerm l0 x26_2).f1), .int .i64 0, .int .i64 0]) ?_ 2 _ rfl; (with_reducible repeat (first | refine blk_drewN ?_ _ | refine blk_drew ?_ | refine blk_alloc ?_ _)); refine blk_put (cs := #[.int .i64 ((rd_ITerm l0 x26_2).f0), .int .i64 0, .int .i64 0, .int .i64 0]) ?_ 1 _ rfl; (with_reducible repeat (first | refine blk_drewN ?_ _ | refine blk_drew ?_ | refine blk_alloc ?_ _)); refine blk_put (cs := #[.int .i64 0, .int .i64 0, .int .i64 0, .int .i64 0]) ?_ 0 _ rfl; exact kz BK248⟩, ⟨bz1 HB GE248⟩⟩
             ·
              replace c22 := Bool.eq_false_iff.mpr c22
              subst c22
              rw [if_neg nt_] at H
              have H' := Aside0.mk H
              clear H
              have hcz26_0 : w18.cell? ⟨gb248, 0, none⟩ = some (.int .i64 0) := (blk_cell BK248.out 0).trans rfl
              have hcz26_1 : w18.cell? ⟨gb248, 1, none⟩ = some (.int .i64 0) := (blk_cell BK248.out 1).trans rfl
              have hcz26_2 : w18.cell? ⟨gb248, 2, none⟩ = some (.int .i64 0) := (blk_cell BK248.out 2).trans rfl
              have hcz26_3 : w18.cell? ⟨gb248, 3, none⟩ = some (.int .i64 0) := (blk_cell BK248.out 3).trans rfl
              have hfz26_0 := blk_frozen BK248.out 0
              have hfz26_1 := blk_frozen BK248.out 1
              have hfz26_2 := blk_frozen BK248.out 2
              have hfz26_3 := blk_frozen BK248.out 3
              go_wp2_with (first | ((with_reducible refine gate_callee (f := 96) rfl ?_); refine goesL_ (some 47) rfl rfl Try.func96 (by kernel_rfl) rfl #[.int .i64 ((rd_ITerm l0 x26_2).f1), .int .i64 (-9999), .int .i64 9999] rfl az ?_; (with_reducible refine (impl_in.calls ((rd_ITerm l0 x26_2).f1) (-9999) 9999 false _ A21.out).mono ?_); rintro e w' ⟨rfl, ⟨nd, rfl⟩⟩; refine ⟨_, rfl, ?_⟩))
              go_meet
              case rel => exact ⟨_, (false), rq, H', ⟨by have := HJ2.out; have := HK2.out; first | omega | exact Nat.le_refl _⟩, ⟨by (with_reducible repeat (first | apply Kd.R_alloc | apply Kd.R_drewN | apply Kd.R_drew)); exact Kd.R_mono (Kd.R_far (p := ⟨gb248, 3, none⟩) (Kd.R_far (p := ⟨gb248, 2, none⟩) (Kd.R_far (p := ⟨gb248, 1, none⟩) (Kd.R_far (p := ⟨gb248, 0, none⟩) (Kd.R_types HO_5.out BK248.out (by decide)) (fun _ hk => hk.2) (.int .i64 ((rd_ITerm l0 x26_2).f0))) (fun _ hk => hk.2) (.int .i64 ((rd_ITerm l0 x26_2).f1))) (fun _ hk => hk.2) (.int .i64 ((rd_ITerm l0 x26_2).f2))) (fun _ hk => hk.2) (.int .i64 ((rd_ITerm l0 x26_2).f3))) (fun _ hk => trivial)⟩, ⟨by (with_reducible repeat (first | refine blk_drewN ?_ _ | refine blk_drew ?_ | refine blk_alloc ?_ _)); refine blk_put (cs := #[.int .i64 ((rd_ITerm l0 x26_2).f0), .int .i64 ((rd_ITerm l0 x26_2).f1), .int .i64 ((rd_ITerm l0 x26_2).f2), .int .i64 0]) ?_ 3 _ rfl; (with_reducible repeat (first | refine blk_drewN ?_ _ | refine blk_drew ?_ | refine blk_alloc ?_ _)); refine blk_put (cs := #[.int .i64 ((rd_ITerm l0 x26_2).f0), .int .i64 ((rd_ITerm l0 x26_2).f1), .int .i64 0, .int .i64 0]) ?_ 2 _ rfl; (with_reducible repeat (first | refine blk_drewN ?_ _ | refine blk_drew ?_ | refine blk_alloc ?_ _)); refine blk_put (cs := #[.int .i64 ((rd_ITerm l0 x26_2).f0), .int .i64 0, .int .i64 0, .int .i64 0]) ?_ 1 _ rfl; (with_reducible repeat (first | refine blk_drewN ?_ _ | refine blk_drew ?_ | refine blk_alloc ?_ _)); refine blk_put (cs := #[.int .i64 0, .int .i64 0, .int .i64 0, .int .i64 0]) ?_ 0 _ rfl; exact kz BK248⟩, ⟨bz1 HB GE248⟩⟩
            ·
             rw [if_neg c20] at H
             have c20b0 : (((rd_ITerm l0 x26_2).f0) == 0) = false := beq_eq_false_iff_ne.mpr c20
             have c20b1 : (((rd_ITerm l0 x26_2).f0) != 0) = true := bne_iff_ne.mpr c20
             (first | rw [c20b0] | (simp only [i64_w, i32_w]; rw [c20b0]) | skip)
             by_cases c27 : ((rd_ITerm l0 x26_2).f0) = 1
             ·
              rw [if_pos c27] at H
              have c27b0 : (((rd_ITerm l0 x26_2).f0) == 1) = true := beq_iff_eq.mpr c27
              have c27b1 : (((rd_ITerm l0 x26_2).f0) != 1) = false := bne_eq_false_iff_eq.mpr c27
              clear c27
              replace H := Option.bind_eq_some_iff.mp H
              obtain ⟨t254, A280, H⟩ := H
              have A28 := Aside0.mk A280
              clear A280
              by_cases c29 : t254 = true
              ·
               subst c29
               rw [if_pos rfl] at H
               by_cases c30 : ((rd_ITerm l0 x26_2).f2) = 0
               ·
                rw [if_pos c30] at H
                have c30b0 : (((rd_ITerm l0 x26_2).f2) == 0) = true := beq_iff_eq.mpr c30
                have c30b1 : (((rd_ITerm l0 x26_2).f2) != 0) = false := bne_eq_false_iff_eq.mpr c30
                clear c30
                have H' := Aside0.mk H
                clear H
                have hcz31_0 : w18.cell? ⟨gb248, 0, none⟩ = some (.int .i64 0) := (blk_cell BK248.out 0).trans rfl
                have hcz31_1 : w18.cell? ⟨gb248, 1, none⟩ = some (.int .i64 0) := (blk_cell BK248.out 1).trans rfl
                have hcz31_2 : w18.cell? ⟨gb248, 2, none⟩ = some (.int .i64 0) := (blk_cell BK248.out 2).trans rfl
                have hcz31_3 : w18.cell? ⟨gb248, 3, none⟩ = some (.int .i64 0) := (blk_cell BK248.out 3).trans rfl
                have hfz31_0 := blk_frozen BK248.out 0
                have hfz31_1 := blk_frozen BK248.out 1
                have hfz31_2 := blk_frozen BK248.out 2
                have hfz31_3 := blk_frozen BK248.out 3
                go_wp2_with (first | ((with_reducible refine gate_callee (f := 96) rfl ?_); refine goesL_ (some 66) rfl rfl Try.func96 (by kernel_rfl) rfl #[.int .i64 ((rd_ITerm l0 x26_2).f1), .int .i64 0, .int .i64 (wrap64 (a1 - 1))] rfl az ?_; (with_reducible refine (impl_in.calls ((rd_ITerm l0 x26_2).f1) 0 (wrap64 (a1 - 1)) true _ A28.out).mono ?_); rintro e w' ⟨rfl, ⟨nd, rfl⟩⟩; refine ⟨_, rfl, ?_⟩))
                go_meet
                case rel => exact ⟨_, ((((rd_ITerm l0 x26_2).f3) == 0)), rq, H', ⟨by have := HJ2.out; have := HK2.out; first | omega | exact Nat.le_refl _⟩, ⟨by (with_reducible repeat (first | apply Kd.R_alloc | apply Kd.R_drewN | apply Kd.R_drew)); exact Kd.R_mono (Kd.R_far (p := ⟨gb248, 3, none⟩) (Kd.R_far (p := ⟨gb248, 2, none⟩) (Kd.R_far (p := ⟨gb248, 1, none⟩) (Kd.R_far (p := ⟨gb248, 0, none⟩) (Kd.R_types HO_5.out BK248.out (by decide)) (fun _ hk => hk.2) (.int .i64 ((rd_ITerm l0 x26_2).f0))) (fun _ hk => hk.2) (.int .i64 ((rd_ITerm l0 x26_2).f1))) (fun _ hk => hk.2) (.int .i64 ((rd_ITerm l0 x26_2).f2))) (fun _ hk => hk.2) (.int .i64 ((rd_ITerm l0 x26_2).f3))) (fun _ hk => trivial)⟩, ⟨by (with_reducible repeat (first | refine blk_drewN ?_ _ | refine blk_drew ?_ | refine blk_alloc ?_ _)); refine blk_put (cs := #[.int .i64 ((rd_ITerm l0 x26_2).f0), .int .i64 ((rd_ITerm l0 x26_2).f1), .int .i64 ((rd_ITerm l0 x26_2).f2), .int .i64 0]) ?_ 3 _ rfl; (with_reducible repeat (first | refine blk_drewN ?_ _ | refine blk_drew ?_ | refine blk_alloc ?_ _)); refine blk_put (cs := #[.int .i64 ((rd_ITerm l0 x26_2).f0), .int .i64 ((rd_ITerm l0 x26_2).f1), .int .i64 0, .int .i64 0]) ?_ 2 _ rfl; (with_reducible repeat (first | refine blk_drewN ?_ _ | refine blk_drew ?_ | refine blk_alloc ?_ _)); refine blk_put (cs := #[.int .i64 ((rd_ITerm l0 x26_2).f0), .int .i64 0, .int .i64 0, .int .i64 0]) ?_ 1 _ rfl; (with_reducible repeat (first | refine blk_drewN ?_ _ | refine blk_drew ?_ | refine blk_alloc ?_ _)); refine blk_put (cs := #[.int .i64 0, .int .i64 0, .int .i64 0, .int .i64 0]) ?_ 0 _ rfl; exact kz BK248⟩, ⟨bz1 HB GE248⟩⟩
               ·
                rw [if_neg c30] at H
                have c30b0 : (((rd_ITerm l0 x26_2).f2) == 0) = false := beq_eq_false_iff_ne.mpr c30
                have c30b1 : (((rd_ITerm l0 x26_2).f2) != 0) = true := bne_iff_ne.mpr c30
                have H' := Aside0.mk H
                clear H
                have hcz32_0 : w18.cell? ⟨gb248, 0, none⟩ = some (.int .i64 0) := (blk_cell BK248.out 0).trans rfl
                have hcz32_1 : w18.cell? ⟨gb248, 1, none⟩ = some (.int .i64 0) := (blk_cell BK248.out 1).trans rfl
                have hcz32_2 : w18.cell? ⟨gb248, 2, none⟩ = some (.int .i64 0) := (blk_cell BK248.out 2).trans rfl
                have hcz32_3 : w18.cell? ⟨gb248, 3, none⟩ = some (.int .i64 0) := (blk_cell BK248.out 3).trans rfl
                have hfz32_0 := blk_frozen BK248.out 0
                have hfz32_1 := blk_frozen BK248.out 1
                have hfz32_2 := blk_frozen BK248.out 2
                have hfz32_3 := blk_frozen BK248.out 3
                go_wp2_with (first | ((with_reducible refine gate_callee (f := 96) rfl ?_); refine goesL_ (some 66) rfl rfl Try.func96 (by kernel_rfl) rfl #[.int .i64 ((rd_ITerm l0 x26_2).f1), .int .i64 0, .int .i64 (wrap64 (a1 - 1))] rfl az ?_; (with_reducible refine (impl_in.calls ((rd_ITerm l0 x26_2).f1) 0 (wrap64 (a1 - 1)) true _ A28.out).mono ?_); rintro e w' ⟨rfl, ⟨nd, rfl⟩⟩; refine ⟨_, rfl, ?_⟩))
                go_meet
                case rel => exact ⟨_, (false), rq, H', ⟨by have := HJ2.out; have := HK2.out; first | omega | exact Nat.le_refl _⟩, ⟨by (with_reducible repeat (first | apply Kd.R_alloc | apply Kd.R_drewN | apply Kd.R_drew)); exact Kd.R_mono (Kd.R_far (p := ⟨gb248, 3, none⟩) (Kd.R_far (p := ⟨gb248, 2, none⟩) (Kd.R_far (p := ⟨gb248, 1, none⟩) (Kd.R_far (p := ⟨gb248, 0, none⟩) (Kd.R_types HO_5.out BK248.out (by decide)) (fun _ hk => hk.2) (.int .i64 ((rd_ITerm l0 x26_2).f0))) (fun _ hk => hk.2) (.int .i64 ((rd_ITerm l0 x26_2).f1))) (fun _ hk => hk.2) (.int .i64 ((rd_ITerm l0 x26_2).f2))) (fun _ hk => hk.2) (.int .i64 ((rd_ITerm l0 x26_2).f3))) (fun _ hk => trivial)⟩, ⟨by (with_reducible repeat (first | refine blk_drewN ?_ _ | refine blk_drew ?_ | refine blk_alloc ?_ _)); refine blk_put (cs := #[.int .i64 ((rd_ITerm l0 x26_2).f0), .int .i64 ((rd_ITerm l0 x26_2).f1), .int .i64 ((rd_ITerm l0 x26_2).f2), .int .i64 0]) ?_ 3 _ rfl; (with_reducible repeat (first | refine blk_drewN ?_ _ | refine blk_drew ?_ | refine blk_alloc ?_ _)); refine blk_put (cs := #[.int .i64 ((rd_ITerm l0 x26_2).f0), .int .i64 ((rd_ITerm l0 x26_2).f1), .int .i64 0, .int .i64 0]) ?_ 2 _ rfl; (with_reducible repeat (first | refine blk_drewN ?_ _ | refine blk_drew ?_ | refine blk_alloc ?_ _)); refine blk_put (cs := #[.int .i64 ((rd_ITerm l0 x26_2).f0), .int .i64 0, .int .i64 0, .int .i64 0]) ?_ 1 _ rfl; (with_reducible repeat (first | refine blk_drewN ?_ _ | refine blk_drew ?_ | refine blk_alloc ?_ _)); refine blk_put (cs := #[.int .i64 0, .int .i64 0, .int .i64 0, .int .i64 0]) ?_ 0 _ rfl; exact kz BK248⟩, ⟨bz1 HB GE248⟩⟩
              ·
               replace c29 := Bool.eq_false_iff.mpr c29
               subst c29
               rw [if_neg nt_] at H
               have H' := Aside0.mk H
               clear H
               have hcz33_0 : w18.cell? ⟨gb248, 0, none⟩ = some (.int .i64 0) := (blk_cell BK248.out 0).trans rfl
               have hcz33_1 : w18.cell? ⟨gb248, 1, none⟩ = some (.int .i64 0) := (blk_cell BK248.out 1).trans rfl
               have hcz33_2 : w18.cell? ⟨gb248, 2, none⟩ = some (.int .i64 0) := (blk_cell BK248.out 2).trans rfl
               have hcz33_3 : w18.cell? ⟨gb248, 3, none⟩ = some (.int .i64 0) := (blk_cell BK248.out 3).trans rfl
               have hfz33_0 := blk_frozen BK248.out 0
               have hfz33_1 := blk_frozen BK248.out 1
               have hfz33_2 := blk_frozen BK248.out 2
               have hfz33_3 := blk_frozen BK248.out 3
               go_wp2_with (first | ((with_reducible refine gate_callee (f := 96) rfl ?_); refine goesL_ (some 66) rfl rfl Try.func96 (by kernel_rfl) rfl #[.int .i64 ((rd_ITerm l0 x26_2).f1), .int .i64 0, .int .i64 (wrap64 (a1 - 1))] rfl az ?_; (with_reducible refine (impl_in.calls ((rd_ITerm l0 x26_2).f1) 0 (wrap64 (a1 - 1)) false _ A28.out).mono ?_); rintro e w' ⟨rfl, ⟨nd, rfl⟩⟩; refine ⟨_, rfl, ?_⟩))
               go_meet
               case rel => exact ⟨_, (false), rq, H', ⟨by have := HJ2.out; have := HK2.out; first | omega | exact Nat.le_refl _⟩, ⟨by (with_reducible repeat (first | apply Kd.R_alloc | apply Kd.R_drewN | apply Kd.R_drew)); exact Kd.R_mono (Kd.R_far (p := ⟨gb248, 3, none⟩) (Kd.R_far (p := ⟨gb248, 2, none⟩) (Kd.R_far (p := ⟨gb248, 1, none⟩) (Kd.R_far (p := ⟨gb248, 0, none⟩) (Kd.R_types HO_5.out BK248.out (by decide)) (fun _ hk => hk.2) (.int .i64 ((rd_ITerm l0 x26_2).f0))) (fun _ hk => hk.2) (.int .i64 ((rd_ITerm l0 x26_2).f1))) (fun _ hk => hk.2) (.int .i64 ((rd_ITerm l0 x26_2).f2))) (fun _ hk => hk.2) (.int .i64 ((rd_ITerm l0 x26_2).f3))) (fun _ hk => trivial)⟩, ⟨by (with_reducible repeat (first | refine blk_drewN ?_ _ | refine blk_drew ?_ | refine blk_alloc ?_ _)); refine blk_put (cs := #[.int .i64 ((rd_ITerm l0 x26_2).f0), .int .i64 ((rd_ITerm l0 x26_2).f1), .int .i64 ((rd_ITerm l0 x26_2).f2), .int .i64 0]) ?_ 3 _ rfl; (with_reducible repeat (first | refine blk_drewN ?_ _ | refine blk_drew ?_ | refine blk_alloc ?_ _)); refine blk_put (cs := #[.int .i64 ((rd_ITerm l0 x26_2).f0), .int .i64 ((rd_ITerm l0 x26_2).f1), .int .i64 0, .int .i64 0]) ?_ 2 _ rfl; (with_reducible repeat (first | refine blk_drewN ?_ _ | refine blk_drew ?_ | refine blk_alloc ?_ _)); refine blk_put (cs := #[.int .i64 ((rd_ITerm l0 x26_2).f0), .int .i64 0, .int .i64 0, .int .i64 0]) ?_ 1 _ rfl; (with_reducible repeat (first | refine blk_drewN ?_ _ | refine blk_drew ?_ | refine blk_alloc ?_ _)); refine blk_put (cs := #[.int .i64 0, .int .i64 0, .int .i64 0, .int .i64 0]) ?_ 0 _ rfl; exact kz BK248⟩, ⟨bz1 HB GE248⟩⟩
             ·
              rw [if_neg c27] at H
              have c27b0 : (((rd_ITerm l0 x26_2).f0) == 1) = false := beq_eq_false_iff_ne.mpr c27
              have c27b1 : (((rd_ITerm l0 x26_2).f0) != 1) = true := bne_iff_ne.mpr c27
              by_cases c34 : t252 = true
              ·
               subst c34
               rw [if_pos rfl] at H
               by_cases c35 : ((rd_ITerm l0 x26_2).f1) = 0
               ·
                rw [if_pos c35] at H
                have c35b0 : (((rd_ITerm l0 x26_2).f1) == 0) = true := beq_iff_eq.mpr c35
                have c35b1 : (((rd_ITerm l0 x26_2).f1) != 0) = false := bne_eq_false_iff_eq.mpr c35
                clear c35
                replace H := Option.bind_eq_some_iff.mp H
                obtain ⟨t255, A360, H⟩ := H
                have A36 := Aside0.mk A360
                clear A360
                by_cases c37 : t255 = true
                ·
                 subst c37
                 rw [if_pos rfl] at H
                 replace H := Option.bind_eq_some_iff.mp H
                 obtain ⟨t256, A380, H⟩ := H
                 have A38 := Aside0.mk A380
                 clear A380
                 by_cases c39 : t256 = true
                 ·
                  subst c39
                  rw [if_pos rfl] at H
                  by_cases c40 : 0 ≤ ((rd_ITerm l0 x26_2).f2)
                  ·
                   rw [if_pos c40] at H
                   have c40b0 : decide (0 ≤ ((rd_ITerm l0 x26_2).f2)) = true := decide_eq_true c40
                   clear c40
                   by_cases c41 : ((rd_ITerm l0 x26_2).f2) < (x5_2.length : Int)
                   ·
                    rw [if_pos c41] at H
                    have c41b0 : decide (((rd_ITerm l0 x26_2).f2) < (x5_2.length : Int)) = true := decide_eq_true c41
                    clear c41
                    by_cases c42 : (rd x5_2 ((rd_ITerm l0 x26_2).f2)) = t250
                    ·
                     rw [if_pos c42] at H
                     have c42b0 : ((rd x5_2 ((rd_ITerm l0 x26_2).f2)) == t250) = true := beq_iff_eq.mpr c42
                     have c42b1 : ((rd x5_2 ((rd_ITerm l0 x26_2).f2)) != t250) = false := bne_eq_false_iff_eq.mpr c42
                     clear c42
                     by_cases c43 : 0 ≤ ((rd_ITerm l0 x26_2).f3)
                     ·
                      rw [if_pos c43] at H
                      have c43b0 : decide (0 ≤ ((rd_ITerm l0 x26_2).f3)) = true := decide_eq_true c43
                      clear c43
                      by_cases c44 : ((rd_ITerm l0 x26_2).f3) < (x5_2.length : Int)
                      ·
                       rw [if_pos c44] at H
                       have c44b0 : decide (((rd_ITerm l0 x26_2).f3) < (x5_2.length : Int)) = true := decide_eq_true c44
                       clear c44
                       by_cases c45 : (rd x5_2 ((rd_ITerm l0 x26_2).f3)) = t250
                       ·
                        rw [if_pos c45] at H
                        have c45b0 : ((rd x5_2 ((rd_ITerm l0 x26_2).f3)) == t250) = true := beq_iff_eq.mpr c45
                        have c45b1 : ((rd x5_2 ((rd_ITerm l0 x26_2).f3)) != t250) = false := bne_eq_false_iff_eq.mpr c45
                        clear c45
                        by_cases c46 : t249 = 2
                        ·
                         rw [if_pos c46] at H
                         have c46b0 : (t249 == 2) = true := beq_iff_eq.mpr c46
                         have c46b1 : (t249 != 2) = false := bne_eq_false_iff_eq.mpr c46
                         clear c46
                         have H' := Aside0.mk H
                         clear H
                         have hcz47_0 : w18.cell? ⟨gb248, 0, none⟩ = some (.int .i64 0) := (blk_cell BK248.out 0).trans rfl
                         have hcz47_1 : w18.cell? ⟨gb248, 1, none⟩ = some (.int .i64 0) := (blk_cell BK248.out 1).trans rfl
                         have hcz47_2 : w18.cell? ⟨gb248, 2, none⟩ = some (.int .i64 0) := (blk_cell BK248.out 2).trans rfl
                         have hcz47_3 : w18.cell? ⟨gb248, 3, none⟩ = some (.int .i64 0) := (blk_cell BK248.out 3).trans rfl
                         have hfz47_0 := blk_frozen BK248.out 0
                         have hfz47_1 := blk_frozen BK248.out 1
                         have hfz47_2 := blk_frozen BK248.out 2
                         have hfz47_3 := blk_frozen BK248.out 3
                         go_wp2_with (first | (go_at_call 96; (with_reducible refine (impl_in.calls ((rd_ITerm l0 x26_2).f2) 0 (wrap64 (x26_2 - 1)) true _ A36.out).mono ?_); rintro e w' ⟨rfl, ⟨nd, rfl⟩⟩) | (go_at_call 96; (with_reducible refine (impl_in.calls ((rd_ITerm l0 x26_2).f3) 0 (wrap64 (x26_2 - 1)) true _ A38.out).mono ?_); rintro e w' ⟨rfl, ⟨nd, rfl⟩⟩; obtain ⟨Ao48, co48, eo48⟩ := Kd.R_slice HO_5.out; subst eo48; have p257 : 0 ≤ (((rd_ITerm l0 x26_2).f2) : Int) := dz; have q257 : ((rd_ITerm l0 x26_2).f2) < (x5_2.length : Int) := dz; obtain ⟨ad257, e257, hx257_0⟩ := Kd.at_int (Kd.R_reads' HO_5.out).2.2 ((rd_ITerm l0 x26_2).f2) p257 q257; cases e257; have hn257_0 : ad257.block ≠ gb248 := Kd.own_blk (Kd.R_ne HO_5.out BK248.out (by decide)); have hn257_1 : ad257.block ≠ gb248 := Kd.own_blk (Kd.R_ne HO_5.out BK248.out (by decide)); have hn257_2 : ad257.block ≠ gb248 := Kd.own_blk (Kd.R_ne HO_5.out BK248.out (by decide)); have hn257_3 : ad257.block ≠ gb248 := Kd.own_blk (Kd.R_ne HO_5.out BK248.out (by decide)); replace hx257_0 := (cell_far (p := ⟨gb248, 0, none⟩) (by first | (rw [add_block]; exact hn257_0) | (show (Addr.add _ _).block ≠ _; rw [add_block]; exact hn257_0) | exact hn257_0) (.int .i64 ((rd_ITerm l0 x26_2).f0))).trans hx257_0; replace hx257_0 := (cell_far (p := ⟨gb248, 1, none⟩) (by first | (rw [add_block]; exact hn257_1) | (show (Addr.add _ _).block ≠ _; rw [add_block]; exact hn257_1) | exact hn257_1) (.int .i64 ((rd_ITerm l0 x26_2).f1))).trans hx257_0; replace hx257_0 := (cell_far (p := ⟨gb248, 2, none⟩) (by first | (rw [add_block]; exact hn257_2) | (show (Addr.add _ _).block ≠ _; rw [add_block]; exact hn257_2) | exact hn257_2) (.int .i64 ((rd_ITerm l0 x26_2).f2))).trans hx257_0; replace hx257_0 := (cell_far (p := ⟨gb248, 3, none⟩) (by first | (rw [add_block]; exact hn257_3) | (show (Addr.add _ _).block ≠ _; rw [add_block]; exact hn257_3) | exact hn257_3) (.int .i64 ((rd_ITerm l0 x26_2).f3))).trans hx257_0; clear hn257_0; clear hn257_1; clear hn257_2; clear hn257_3; replace p257 := eq_true p257; replace q257 := eq_true q257; have p258 : 0 ≤ (((rd_ITerm l0 x26_2).f3) : Int) := dz; have q258 : ((rd_ITerm l0 x26_2).f3) < (x5_2.length : Int) := dz; obtain ⟨ad258, e258, hx258_0⟩ := Kd.at_int (Kd.R_reads' HO_5.out).2.2 ((rd_ITerm l0 x26_2).f3) p258 q258; obtain rfl : ad257 = ad258 := (by injection e258); have hn258_0 : ad257.block ≠ gb248 := Kd.own_blk (Kd.R_ne HO_5.out BK248.out (by decide)); have hn258_1 : ad257.block ≠ gb248 := Kd.own_blk (Kd.R_ne HO_5.out BK248.out (by decide)); have hn258_2 : ad257.block ≠ gb248 := Kd.own_blk (Kd.R_ne HO_5.out BK248.out (by decide)); have hn258_3 : ad257.block ≠ gb248 := Kd.own_blk (Kd.R_ne HO_5.out BK248.out (by decide)); replace hx258_0 := (cell_far (p := ⟨gb248, 0, none⟩) (by first | (rw [add_block]; exact hn258_0) | (show (Addr.add _ _).block ≠ _; rw [add_block]; exact hn258_0) | exact hn258_0) (.int .i64 ((rd_ITerm l0 x26_2).f0))).trans hx258_0; replace hx258_0 := (cell_far (p := ⟨gb248, 1, none⟩) (by first | (rw [add_block]; exact hn258_1) | (show (Addr.add _ _).block ≠ _; rw [add_block]; exact hn258_1) | exact hn258_1) (.int .i64 ((rd_ITerm l0 x26_2).f1))).trans hx258_0; replace hx258_0 := (cell_far (p := ⟨gb248, 2, none⟩) (by first | (rw [add_block]; exact hn258_2) | (show (Addr.add _ _).block ≠ _; rw [add_block]; exact hn258_2) | exact hn258_2) (.int .i64 ((rd_ITerm l0 x26_2).f2))).trans hx258_0; replace hx258_0 := (cell_far (p := ⟨gb248, 3, none⟩) (by first | (rw [add_block]; exact hn258_3) | (show (Addr.add _ _).block ≠ _; rw [add_block]; exact hn258_3) | exact hn258_3) (.int .i64 ((rd_ITerm l0 x26_2).f3))).trans hx258_0; clear hn258_0; clear hn258_1; clear hn258_2; clear hn258_3; replace p258 := eq_true p258; replace q258 := eq_true q258))
                         go_meet
                         case rel => exact ⟨_, (true), rq, H', ⟨by have := HJ2.out; have := HK2.out; first | omega | exact Nat.le_refl _⟩, ⟨by (with_reducible repeat (first | apply Kd.R_alloc | apply Kd.R_drewN | apply Kd.R_drew)); exact Kd.R_mono (Kd.R_far (p := ⟨gb248, 3, none⟩) (Kd.R_far (p := ⟨gb248, 2, none⟩) (Kd.R_far (p := ⟨gb248, 1, none⟩) (Kd.R_far (p := ⟨gb248, 0, none⟩) (Kd.R_types HO_5.out BK248.out (by decide)) (fun _ hk => hk.2) (.int .i64 ((rd_ITerm l0 x26_2).f0))) (fun _ hk => hk.2) (.int .i64 ((rd_ITerm l0 x26_2).f1))) (fun _ hk => hk.2) (.int .i64 ((rd_ITerm l0 x26_2).f2))) (fun _ hk => hk.2) (.int .i64 ((rd_ITerm l0 x26_2).f3))) (fun _ hk => trivial)⟩, ⟨by (with_reducible repeat (first | refine blk_drewN ?_ _ | refine blk_drew ?_ | refine blk_alloc ?_ _)); refine blk_put (cs := #[.int .i64 ((rd_ITerm l0 x26_2).f0), .int .i64 ((rd_ITerm l0 x26_2).f1), .int .i64 ((rd_ITerm l0 x26_2).f2), .int .i64 0]) ?_ 3 _ rfl; (with_reducible repeat (first | refine blk_drewN ?_ _ | refine blk_drew ?_ | refine blk_alloc ?_ _)); refine blk_put (cs := #[.int .i64 ((rd_ITerm l0 x26_2).f0), .int .i64 ((rd_ITerm l0 x26_2).f1), .int .i64 0, .int .i64 0]) ?_ 2 _ rfl; (with_reducible repeat (first | refine blk_drewN ?_ _ | refine blk_drew ?_ | refine blk_alloc ?_ _)); refine blk_put (cs := #[.int .i64 ((rd_ITerm l0 x26_2).f0), .int .i64 0, .int .i64 0, .int .i64 0]) ?_ 1 _ rfl; (with_reducible repeat (first | refine blk_drewN ?_ _ | refine blk_drew ?_ | refine blk_alloc ?_ _)); refine blk_put (cs := #[.int .i64 0, .int .i64 0, .int .i64 0, .int .i64 0]) ?_ 0 _ rfl; exact kz BK248⟩, ⟨bz1 HB GE248⟩⟩
                        ·
                         rw [if_neg c46] at H
                         have c46b0 : (t249 == 2) = false := beq_eq_false_iff_ne.mpr c46
                         have c46b1 : (t249 != 2) = true := bne_iff_ne.mpr c46
                         have H' := Aside0.mk H
                         clear H
                         have hcz49_0 : w18.cell? ⟨gb248, 0, none⟩ = some (.int .i64 0) := (blk_cell BK248.out 0).trans rfl
                         have hcz49_1 : w18.cell? ⟨gb248, 1, none⟩ = some (.int .i64 0) := (blk_cell BK248.out 1).trans rfl
                         have hcz49_2 : w18.cell? ⟨gb248, 2, none⟩ = some (.int .i64 0) := (blk_cell BK248.out 2).trans rfl
                         have hcz49_3 : w18.cell? ⟨gb248, 3, none⟩ = some (.int .i64 0) := (blk_cell BK248.out 3).trans rfl
                         have hfz49_0 := blk_frozen BK248.out 0
                         have hfz49_1 := blk_frozen BK248.out 1
                         have hfz49_2 := blk_frozen BK248.out 2
                         have hfz49_3 := blk_frozen BK248.out 3
                         go_wp2_with (first | (go_at_call 96; (with_reducible refine (impl_in.calls ((rd_ITerm l0 x26_2).f2) 0 (wrap64 (x26_2 - 1)) true _ A36.out).mono ?_); rintro e w' ⟨rfl, ⟨nd, rfl⟩⟩) | (go_at_call 96; (with_reducible refine (impl_in.calls ((rd_ITerm l0 x26_2).f3) 0 (wrap64 (x26_2 - 1)) true _ A38.out).mono ?_); rintro e w' ⟨rfl, ⟨nd, rfl⟩⟩; obtain ⟨Ao50, co50, eo50⟩ := Kd.R_slice HO_5.out; subst eo50; have p257 : 0 ≤ (((rd_ITerm l0 x26_2).f2) : Int) := dz; have q257 : ((rd_ITerm l0 x26_2).f2) < (x5_2.length : Int) := dz; obtain ⟨ad257, e257, hx257_0⟩ := Kd.at_int (Kd.R_reads' HO_5.out).2.2 ((rd_ITerm l0 x26_2).f2) p257 q257; cases e257; have hn257_0 : ad257.block ≠ gb248 := Kd.own_blk (Kd.R_ne HO_5.out BK248.out (by decide)); have hn257_1 : ad257.block ≠ gb248 := Kd.own_blk (Kd.R_ne HO_5.out BK248.out (by decide)); have hn257_2 : ad257.block ≠ gb248 := Kd.own_blk (Kd.R_ne HO_5.out BK248.out (by decide)); have hn257_3 : ad257.block ≠ gb248 := Kd.own_blk (Kd.R_ne HO_5.out BK248.out (by decide)); replace hx257_0 := (cell_far (p := ⟨gb248, 0, none⟩) (by first | (rw [add_block]; exact hn257_0) | (show (Addr.add _ _).block ≠ _; rw [add_block]; exact hn257_0) | exact hn257_0) (.int .i64 ((rd_ITerm l0 x26_2).f0))).trans hx257_0; replace hx257_0 := (cell_far (p := ⟨gb248, 1, none⟩) (by first | (rw [add_block]; exact hn257_1) | (show (Addr.add _ _).block ≠ _; rw [add_block]; exact hn257_1) | exact hn257_1) (.int .i64 ((rd_ITerm l0 x26_2).f1))).trans hx257_0; replace hx257_0 := (cell_far (p := ⟨gb248, 2, none⟩) (by first | (rw [add_block]; exact hn257_2) | (show (Addr.add _ _).block ≠ _; rw [add_block]; exact hn257_2) | exact hn257_2) (.int .i64 ((rd_ITerm l0 x26_2).f2))).trans hx257_0; replace hx257_0 := (cell_far (p := ⟨gb248, 3, none⟩) (by first | (rw [add_block]; exact hn257_3) | (show (Addr.add _ _).block ≠ _; rw [add_block]; exact hn257_3) | exact hn257_3) (.int .i64 ((rd_ITerm l0 x26_2).f3))).trans hx257_0; clear hn257_0; clear hn257_1; clear hn257_2; clear hn257_3; replace p257 := eq_true p257; replace q257 := eq_true q257; have p258 : 0 ≤ (((rd_ITerm l0 x26_2).f3) : Int) := dz; have q258 : ((rd_ITerm l0 x26_2).f3) < (x5_2.length : Int) := dz; obtain ⟨ad258, e258, hx258_0⟩ := Kd.at_int (Kd.R_reads' HO_5.out).2.2 ((rd_ITerm l0 x26_2).f3) p258 q258; obtain rfl : ad257 = ad258 := (by injection e258); have hn258_0 : ad257.block ≠ gb248 := Kd.own_blk (Kd.R_ne HO_5.out BK248.out (by decide)); have hn258_1 : ad257.block ≠ gb248 := Kd.own_blk (Kd.R_ne HO_5.out BK248.out (by decide)); have hn258_2 : ad257.block ≠ gb248 := Kd.own_blk (Kd.R_ne HO_5.out BK248.out (by decide)); have hn258_3 : ad257.block ≠ gb248 := Kd.own_blk (Kd.R_ne HO_5.out BK248.out (by decide)); replace hx258_0 := (cell_far (p := ⟨gb248, 0, none⟩) (by first | (rw [add_block]; exact hn258_0) | (show (Addr.add _ _).block ≠ _; rw [add_block]; exact hn258_0) | exact hn258_0) (.int .i64 ((rd_ITerm l0 x26_2).f0))).trans hx258_0; replace hx258_0 := (cell_far (p := ⟨gb248, 1, none⟩) (by first | (rw [add_block]; exact hn258_1) | (show (Addr.add _ _).block ≠ _; rw [add_block]; exact hn258_1) | exact hn258_1) (.int .i64 ((rd_ITerm l0 x26_2).f1))).trans hx258_0; replace hx258_0 := (cell_far (p := ⟨gb248, 2, none⟩) (by first | (rw [add_block]; exact hn258_2) | (show (Addr.add _ _).block ≠ _; rw [add_block]; exact hn258_2) | exact hn258_2) (.int .i64 ((rd_ITerm l0 x26_2).f2))).trans hx258_0; replace hx258_0 := (cell_far (p := ⟨gb248, 3, none⟩) (by first | (rw [add_block]; exact hn258_3) | (show (Addr.add _ _).block ≠ _; rw [add_block]; exact hn258_3) | exact hn258_3) (.int .i64 ((rd_ITerm l0 x26_2).f3))).trans hx258_0; clear hn258_0; clear hn258_1; clear hn258_2; clear hn258_3; replace p258 := eq_true p258; replace q258 := eq_true q258))
                         go_meet
                         case rel => exact ⟨_, ((((rd_ITerm l0 x26_2).f2) == ((rd_ITerm l0 x26_2).f3))), rq, H', ⟨by have := HJ2.out; have := HK2.out; first | omega | exact Nat.le_refl _⟩, ⟨by (with_reducible repeat (first | apply Kd.R_alloc | apply Kd.R_drewN | apply Kd.R_drew)); exact Kd.R_mono (Kd.R_far (p := ⟨gb248, 3, none⟩) (Kd.R_far (p := ⟨gb248, 2, none⟩) (Kd.R_far (p := ⟨gb248, 1, none⟩) (Kd.R_far (p := ⟨gb248, 0, none⟩) (Kd.R_types HO_5.out BK248.out (by decide)) (fun _ hk => hk.2) (.int .i64 ((rd_ITerm l0 x26_2).f0))) (fun _ hk => hk.2) (.int .i64 ((rd_ITerm l0 x26_2).f1))) (fun _ hk => hk.2) (.int .i64 ((rd_ITerm l0 x26_2).f2))) (fun _ hk => hk.2) (.int .i64 ((rd_ITerm l0 x26_2).f3))) (fun _ hk => trivial)⟩, ⟨by (with_reducible repeat (first | refine blk_drewN ?_ _ | refine blk_drew ?_ | refine blk_alloc ?_ _)); refine blk_put (cs := #[.int .i64 ((rd_ITerm l0 x26_2).f0), .int .i64 ((rd_ITerm l0 x26_2).f1), .int .i64 ((rd_ITerm l0 x26_2).f2), .int .i64 0]) ?_ 3 _ rfl; (with_reducible repeat (first | refine blk_drewN ?_ _ | refine blk_drew ?_ | refine blk_alloc ?_ _)); refine blk_put (cs := #[.int .i64 ((rd_ITerm l0 x26_2).f0), .int .i64 ((rd_ITerm l0 x26_2).f1), .int .i64 0, .int .i64 0]) ?_ 2 _ rfl; (with_reducible repeat (first | refine blk_drewN ?_ _ | refine blk_drew ?_ | refine blk_alloc ?_ _)); refine blk_put (cs := #[.int .i64 ((rd_ITerm l0 x26_2).f0), .int .i64 0, .int .i64 0, .int .i64 0]) ?_ 1 _ rfl; (with_reducible repeat (first | refine blk_drewN ?_ _ | refine blk_drew ?_ | refine blk_alloc ?_ _)); refine blk_put (cs := #[.int .i64 0, .int .i64 0, .int .i64 0, .int .i64 0]) ?_ 0 _ rfl; exact kz BK248⟩, ⟨bz1 HB GE248⟩⟩
                       ·
                        rw [if_neg c45] at H
                        have c45b0 : ((rd x5_2 ((rd_ITerm l0 x26_2).f3)) == t250) = false := beq_eq_false_iff_ne.mpr c45
                        have c45b1 : ((rd x5_2 ((rd_ITerm l0 x26_2).f3)) != t250) = true := bne_iff_ne.mpr c45
                        have H' := Aside0.mk H
                        clear H
                        have hcz51_0 : w18.cell? ⟨gb248, 0, none⟩ = some (.int .i64 0) := (blk_cell BK248.out 0).trans rfl
                        have hcz51_1 : w18.cell? ⟨gb248, 1, none⟩ = some (.int .i64 0) := (blk_cell BK248.out 1).trans rfl
                        have hcz51_2 : w18.cell? ⟨gb248, 2, none⟩ = some (.int .i64 0) := (blk_cell BK248.out 2).trans rfl
                        have hcz51_3 : w18.cell? ⟨gb248, 3, none⟩ = some (.int .i64 0) := (blk_cell BK248.out 3).trans rfl
                        have hfz51_0 := blk_frozen BK248.out 0
                        have hfz51_1 := blk_frozen BK248.out 1
                        have hfz51_2 := blk_frozen BK248.out 2
                        have hfz51_3 := blk_frozen BK248.out 3
                        go_wp2_with (first | (go_at_call 96; (with_reducible refine (impl_in.calls ((rd_ITerm l0 x26_2).f2) 0 (wrap64 (x26_2 - 1)) true _ A36.out).mono ?_); rintro e w' ⟨rfl, ⟨nd, rfl⟩⟩) | (go_at_call 96; (with_reducible refine (impl_in.calls ((rd_ITerm l0 x26_2).f3) 0 (wrap64 (x26_2 - 1)) true _ A38.out).mono ?_); rintro e w' ⟨rfl, ⟨nd, rfl⟩⟩; obtain ⟨Ao52, co52, eo52⟩ := Kd.R_slice HO_5.out; subst eo52; have p257 : 0 ≤ (((rd_ITerm l0 x26_2).f2) : Int) := dz; have q257 : ((rd_ITerm l0 x26_2).f2) < (x5_2.length : Int) := dz; obtain ⟨ad257, e257, hx257_0⟩ := Kd.at_int (Kd.R_reads' HO_5.out).2.2 ((rd_ITerm l0 x26_2).f2) p257 q257; cases e257; have hn257_0 : ad257.block ≠ gb248 := Kd.own_blk (Kd.R_ne HO_5.out BK248.out (by decide)); have hn257_1 : ad257.block ≠ gb248 := Kd.own_blk (Kd.R_ne HO_5.out BK248.out (by decide)); have hn257_2 : ad257.block ≠ gb248 := Kd.own_blk (Kd.R_ne HO_5.out BK248.out (by decide)); have hn257_3 : ad257.block ≠ gb248 := Kd.own_blk (Kd.R_ne HO_5.out BK248.out (by decide)); replace hx257_0 := (cell_far (p := ⟨gb248, 0, none⟩) (by first | (rw [add_block]; exact hn257_0) | (show (Addr.add _ _).block ≠ _; rw [add_block]; exact hn257_0) | exact hn257_0) (.int .i64 ((rd_ITerm l0 x26_2).f0))).trans hx257_0; replace hx257_0 := (cell_far (p := ⟨gb248, 1, none⟩) (by first | (rw [add_block]; exact hn257_1) | (show (Addr.add _ _).block ≠ _; rw [add_block]; exact hn257_1) | exact hn257_1) (.int .i64 ((rd_ITerm l0 x26_2).f1))).trans hx257_0; replace hx257_0 := (cell_far (p := ⟨gb248, 2, none⟩) (by first | (rw [add_block]; exact hn257_2) | (show (Addr.add _ _).block ≠ _; rw [add_block]; exact hn257_2) | exact hn257_2) (.int .i64 ((rd_ITerm l0 x26_2).f2))).trans hx257_0; replace hx257_0 := (cell_far (p := ⟨gb248, 3, none⟩) (by first | (rw [add_block]; exact hn257_3) | (show (Addr.add _ _).block ≠ _; rw [add_block]; exact hn257_3) | exact hn257_3) (.int .i64 ((rd_ITerm l0 x26_2).f3))).trans hx257_0; clear hn257_0; clear hn257_1; clear hn257_2; clear hn257_3; replace p257 := eq_true p257; replace q257 := eq_true q257; have p258 : 0 ≤ (((rd_ITerm l0 x26_2).f3) : Int) := dz; have q258 : ((rd_ITerm l0 x26_2).f3) < (x5_2.length : Int) := dz; obtain ⟨ad258, e258, hx258_0⟩ := Kd.at_int (Kd.R_reads' HO_5.out).2.2 ((rd_ITerm l0 x26_2).f3) p258 q258; obtain rfl : ad257 = ad258 := (by injection e258); have hn258_0 : ad257.block ≠ gb248 := Kd.own_blk (Kd.R_ne HO_5.out BK248.out (by decide)); have hn258_1 : ad257.block ≠ gb248 := Kd.own_blk (Kd.R_ne HO_5.out BK248.out (by decide)); have hn258_2 : ad257.block ≠ gb248 := Kd.own_blk (Kd.R_ne HO_5.out BK248.out (by decide)); have hn258_3 : ad257.block ≠ gb248 := Kd.own_blk (Kd.R_ne HO_5.out BK248.out (by decide)); replace hx258_0 := (cell_far (p := ⟨gb248, 0, none⟩) (by first | (rw [add_block]; exact hn258_0) | (show (Addr.add _ _).block ≠ _; rw [add_block]; exact hn258_0) | exact hn258_0) (.int .i64 ((rd_ITerm l0 x26_2).f0))).trans hx258_0; replace hx258_0 := (cell_far (p := ⟨gb248, 1, none⟩) (by first | (rw [add_block]; exact hn258_1) | (show (Addr.add _ _).block ≠ _; rw [add_block]; exact hn258_1) | exact hn258_1) (.int .i64 ((rd_ITerm l0 x26_2).f1))).trans hx258_0; replace hx258_0 := (cell_far (p := ⟨gb248, 2, none⟩) (by first | (rw [add_block]; exact hn258_2) | (show (Addr.add _ _).block ≠ _; rw [add_block]; exact hn258_2) | exact hn258_2) (.int .i64 ((rd_ITerm l0 x26_2).f2))).trans hx258_0; replace hx258_0 := (cell_far (p := ⟨gb248, 3, none⟩) (by first | (rw [add_block]; exact hn258_3) | (show (Addr.add _ _).block ≠ _; rw [add_block]; exact hn258_3) | exact hn258_3) (.int .i64 ((rd_ITerm l0 x26_2).f3))).trans hx258_0; clear hn258_0; clear hn258_1; clear hn258_2; clear hn258_3; replace p258 := eq_true p258; replace q258 := eq_true q258))
                        go_meet
                        case rel => exact ⟨_, (false), rq, H', ⟨by have := HJ2.out; have := HK2.out; first | omega | exact Nat.le_refl _⟩, ⟨by (with_reducible repeat (first | apply Kd.R_alloc | apply Kd.R_drewN | apply Kd.R_drew)); exact Kd.R_mono (Kd.R_far (p := ⟨gb248, 3, none⟩) (Kd.R_far (p := ⟨gb248, 2, none⟩) (Kd.R_far (p := ⟨gb248, 1, none⟩) (Kd.R_far (p := ⟨gb248, 0, none⟩) (Kd.R_types HO_5.out BK248.out (by decide)) (fun _ hk => hk.2) (.int .i64 ((rd_ITerm l0 x26_2).f0))) (fun _ hk => hk.2) (.int .i64 ((rd_ITerm l0 x26_2).f1))) (fun _ hk => hk.2) (.int .i64 ((rd_ITerm l0 x26_2).f2))) (fun _ hk => hk.2) (.int .i64 ((rd_ITerm l0 x26_2).f3))) (fun _ hk => trivial)⟩, ⟨by (with_reducible repeat (first | refine blk_drewN ?_ _ | refine blk_drew ?_ | refine blk_alloc ?_ _)); refine blk_put (cs := #[.int .i64 ((rd_ITerm l0 x26_2).f0), .int .i64 ((rd_ITerm l0 x26_2).f1), .int .i64 ((rd_ITerm l0 x26_2).f2), .int .i64 0]) ?_ 3 _ rfl; (with_reducible repeat (first | refine blk_drewN ?_ _ | refine blk_drew ?_ | refine blk_alloc ?_ _)); refine blk_put (cs := #[.int .i64 ((rd_ITerm l0 x26_2).f0), .int .i64 ((rd_ITerm l0 x26_2).f1), .int .i64 0, .int .i64 0]) ?_ 2 _ rfl; (with_reducible repeat (first | refine blk_drewN ?_ _ | refine blk_drew ?_ | refine blk_alloc ?_ _)); refine blk_put (cs := #[.int .i64 ((rd_ITerm l0 x26_2).f0), .int .i64 0, .int .i64 0, .int .i64 0]) ?_ 1 _ rfl; (with_reducible repeat (first | refine blk_drewN ?_ _ | refine blk_drew ?_ | refine blk_alloc ?_ _)); refine blk_put (cs := #[.int .i64 0, .int .i64 0, .int .i64 0, .int .i64 0]) ?_ 0 _ rfl; exact kz BK248⟩, ⟨bz1 HB GE248⟩⟩
                      ·
                       rw [if_neg c44] at H
                       exact absurd H (by simp)
                     ·
                      rw [if_neg c43] at H
                      exact absurd H (by simp)
                    ·
                     rw [if_neg c42] at H
                     have c42b0 : ((rd x5_2 ((rd_ITerm l0 x26_2).f2)) == t250) = false := beq_eq_false_iff_ne.mpr c42
                     have c42b1 : ((rd x5_2 ((rd_ITerm l0 x26_2).f2)) != t250) = true := bne_iff_ne.mpr c42
                     have H' := Aside0.mk H
                     clear H
                     have hcz53_0 : w18.cell? ⟨gb248, 0, none⟩ = some (.int .i64 0) := (blk_cell BK248.out 0).trans rfl
                     have hcz53_1 : w18.cell? ⟨gb248, 1, none⟩ = some (.int .i64 0) := (blk_cell BK248.out 1).trans rfl
                     have hcz53_2 : w18.cell? ⟨gb248, 2, none⟩ = some (.int .i64 0) := (blk_cell BK248.out 2).trans rfl
                     have hcz53_3 : w18.cell? ⟨gb248, 3, none⟩ = some (.int .i64 0) := (blk_cell BK248.out 3).trans rfl
                     have hfz53_0 := blk_frozen BK248.out 0
                     have hfz53_1 := blk_frozen BK248.out 1
                     have hfz53_2 := blk_frozen BK248.out 2
                     have hfz53_3 := blk_frozen BK248.out 3
                     go_wp2_with (first | (go_at_call 96; (with_reducible refine (impl_in.calls ((rd_ITerm l0 x26_2).f2) 0 (wrap64 (x26_2 - 1)) true _ A36.out).mono ?_); rintro e w' ⟨rfl, ⟨nd, rfl⟩⟩) | (go_at_call 96; (with_reducible refine (impl_in.calls ((rd_ITerm l0 x26_2).f3) 0 (wrap64 (x26_2 - 1)) true _ A38.out).mono ?_); rintro e w' ⟨rfl, ⟨nd, rfl⟩⟩; obtain ⟨Ao54, co54, eo54⟩ := Kd.R_slice HO_5.out; subst eo54; have p257 : 0 ≤ (((rd_ITerm l0 x26_2).f2) : Int) := dz; have q257 : ((rd_ITerm l0 x26_2).f2) < (x5_2.length : Int) := dz; obtain ⟨ad257, e257, hx257_0⟩ := Kd.at_int (Kd.R_reads' HO_5.out).2.2 ((rd_ITerm l0 x26_2).f2) p257 q257; cases e257; have hn257_0 : ad257.block ≠ gb248 := Kd.own_blk (Kd.R_ne HO_5.out BK248.out (by decide)); have hn257_1 : ad257.block ≠ gb248 := Kd.own_blk (Kd.R_ne HO_5.out BK248.out (by decide)); have hn257_2 : ad257.block ≠ gb248 := Kd.own_blk (Kd.R_ne HO_5.out BK248.out (by decide)); have hn257_3 : ad257.block ≠ gb248 := Kd.own_blk (Kd.R_ne HO_5.out BK248.out (by decide)); replace hx257_0 := (cell_far (p := ⟨gb248, 0, none⟩) (by first | (rw [add_block]; exact hn257_0) | (show (Addr.add _ _).block ≠ _; rw [add_block]; exact hn257_0) | exact hn257_0) (.int .i64 ((rd_ITerm l0 x26_2).f0))).trans hx257_0; replace hx257_0 := (cell_far (p := ⟨gb248, 1, none⟩) (by first | (rw [add_block]; exact hn257_1) | (show (Addr.add _ _).block ≠ _; rw [add_block]; exact hn257_1) | exact hn257_1) (.int .i64 ((rd_ITerm l0 x26_2).f1))).trans hx257_0; replace hx257_0 := (cell_far (p := ⟨gb248, 2, none⟩) (by first | (rw [add_block]; exact hn257_2) | (show (Addr.add _ _).block ≠ _; rw [add_block]; exact hn257_2) | exact hn257_2) (.int .i64 ((rd_ITerm l0 x26_2).f2))).trans hx257_0; replace hx257_0 := (cell_far (p := ⟨gb248, 3, none⟩) (by first | (rw [add_block]; exact hn257_3) | (show (Addr.add _ _).block ≠ _; rw [add_block]; exact hn257_3) | exact hn257_3) (.int .i64 ((rd_ITerm l0 x26_2).f3))).trans hx257_0; clear hn257_0; clear hn257_1; clear hn257_2; clear hn257_3; replace p257 := eq_true p257; replace q257 := eq_true q257))
                     go_meet
                     case rel => exact ⟨_, (false), rq, H', ⟨by have := HJ2.out; have := HK2.out; first | omega | exact Nat.le_refl _⟩, ⟨by (with_reducible repeat (first | apply Kd.R_alloc | apply Kd.R_drewN | apply Kd.R_drew)); exact Kd.R_mono (Kd.R_far (p := ⟨gb248, 3, none⟩) (Kd.R_far (p := ⟨gb248, 2, none⟩) (Kd.R_far (p := ⟨gb248, 1, none⟩) (Kd.R_far (p := ⟨gb248, 0, none⟩) (Kd.R_types HO_5.out BK248.out (by decide)) (fun _ hk => hk.2) (.int .i64 ((rd_ITerm l0 x26_2).f0))) (fun _ hk => hk.2) (.int .i64 ((rd_ITerm l0 x26_2).f1))) (fun _ hk => hk.2) (.int .i64 ((rd_ITerm l0 x26_2).f2))) (fun _ hk => hk.2) (.int .i64 ((rd_ITerm l0 x26_2).f3))) (fun _ hk => trivial)⟩, ⟨by (with_reducible repeat (first | refine blk_drewN ?_ _ | refine blk_drew ?_ | refine blk_alloc ?_ _)); refine blk_put (cs := #[.int .i64 ((rd_ITerm l0 x26_2).f0), .int .i64 ((rd_ITerm l0 x26_2).f1), .int .i64 ((rd_ITerm l0 x26_2).f2), .int .i64 0]) ?_ 3 _ rfl; (with_reducible repeat (first | refine blk_drewN ?_ _ | refine blk_drew ?_ | refine blk_alloc ?_ _)); refine blk_put (cs := #[.int .i64 ((rd_ITerm l0 x26_2).f0), .int .i64 ((rd_ITerm l0 x26_2).f1), .int .i64 0, .int .i64 0]) ?_ 2 _ rfl; (with_reducible repeat (first | refine blk_drewN ?_ _ | refine blk_drew ?_ | refine blk_alloc ?_ _)); refine blk_put (cs := #[.int .i64 ((rd_ITerm l0 x26_2).f0), .int .i64 0, .int .i64 0, .int .i64 0]) ?_ 1 _ rfl; (with_reducible repeat (first | refine blk_drewN ?_ _ | refine blk_drew ?_ | refine blk_alloc ?_ _)); refine blk_put (cs := #[.int .i64 0, .int .i64 0, .int .i64 0, .int .i64 0]) ?_ 0 _ rfl; exact kz BK248⟩, ⟨bz1 HB GE248⟩⟩
                   ·
                    rw [if_neg c41] at H
                    exact absurd H (by simp)
                  ·
                   rw [if_neg c40] at H
                   exact absurd H (by simp)
                 ·
                  replace c39 := Bool.eq_false_iff.mpr c39
                  subst c39
                  rw [if_neg nt_] at H
                  have H' := Aside0.mk H
                  clear H
                  have hcz55_0 : w18.cell? ⟨gb248, 0, none⟩ = some (.int .i64 0) := (blk_cell BK248.out 0).trans rfl
                  have hcz55_1 : w18.cell? ⟨gb248, 1, none⟩ = some (.int .i64 0) := (blk_cell BK248.out 1).trans rfl
                  have hcz55_2 : w18.cell? ⟨gb248, 2, none⟩ = some (.int .i64 0) := (blk_cell BK248.out 2).trans rfl
                  have hcz55_3 : w18.cell? ⟨gb248, 3, none⟩ = some (.int .i64 0) := (blk_cell BK248.out 3).trans rfl
                  have hfz55_0 := blk_frozen BK248.out 0
                  have hfz55_1 := blk_frozen BK248.out 1
                  have hfz55_2 := blk_frozen BK248.out 2
                  have hfz55_3 := blk_frozen BK248.out 3
                  go_wp2_with (first | (go_at_call 96; (with_reducible refine (impl_in.calls ((rd_ITerm l0 x26_2).f2) 0 (wrap64 (x26_2 - 1)) true _ A36.out).mono ?_); rintro e w' ⟨rfl, ⟨nd, rfl⟩⟩) | (go_at_call 96; (with_reducible refine (impl_in.calls ((rd_ITerm l0 x26_2).f3) 0 (wrap64 (x26_2 - 1)) false _ A38.out).mono ?_); rintro e w' ⟨rfl, ⟨nd, rfl⟩⟩))
                  go_meet
                  case rel => exact ⟨_, (false), rq, H', ⟨by have := HJ2.out; have := HK2.out; first | omega | exact Nat.le_refl _⟩, ⟨by (with_reducible repeat (first | apply Kd.R_alloc | apply Kd.R_drewN | apply Kd.R_drew)); exact Kd.R_mono (Kd.R_far (p := ⟨gb248, 3, none⟩) (Kd.R_far (p := ⟨gb248, 2, none⟩) (Kd.R_far (p := ⟨gb248, 1, none⟩) (Kd.R_far (p := ⟨gb248, 0, none⟩) (Kd.R_types HO_5.out BK248.out (by decide)) (fun _ hk => hk.2) (.int .i64 ((rd_ITerm l0 x26_2).f0))) (fun _ hk => hk.2) (.int .i64 ((rd_ITerm l0 x26_2).f1))) (fun _ hk => hk.2) (.int .i64 ((rd_ITerm l0 x26_2).f2))) (fun _ hk => hk.2) (.int .i64 ((rd_ITerm l0 x26_2).f3))) (fun _ hk => trivial)⟩, ⟨by (with_reducible repeat (first | refine blk_drewN ?_ _ | refine blk_drew ?_ | refine blk_alloc ?_ _)); refine blk_put (cs := #[.int .i64 ((rd_ITerm l0 x26_2).f0), .int .i64 ((rd_ITerm l0 x26_2).f1), .int .i64 ((rd_ITerm l0 x26_2).f2), .int .i64 0]) ?_ 3 _ rfl; (with_reducible repeat (first | refine blk_drewN ?_ _ | refine blk_drew ?_ | refine blk_alloc ?_ _)); refine blk_put (cs := #[.int .i64 ((rd_ITerm l0 x26_2).f0), .int .i64 ((rd_ITerm l0 x26_2).f1), .int .i64 0, .int .i64 0]) ?_ 2 _ rfl; (with_reducible repeat (first | refine blk_drewN ?_ _ | refine blk_drew ?_ | refine blk_alloc ?_ _)); refine blk_put (cs := #[.int .i64 ((rd_ITerm l0 x26_2).f0), .int .i64 0, .int .i64 0, .int .i64 0]) ?_ 1 _ rfl; (with_reducible repeat (first | refine blk_drewN ?_ _ | refine blk_drew ?_ | refine blk_alloc ?_ _)); refine blk_put (cs := #[.int .i64 0, .int .i64 0, .int .i64 0, .int .i64 0]) ?_ 0 _ rfl; exact kz BK248⟩, ⟨bz1 HB GE248⟩⟩
                ·
                 replace c37 := Bool.eq_false_iff.mpr c37
                 subst c37
                 rw [if_neg nt_] at H
                 have H' := Aside0.mk H
                 clear H
                 have hcz56_0 : w18.cell? ⟨gb248, 0, none⟩ = some (.int .i64 0) := (blk_cell BK248.out 0).trans rfl
                 have hcz56_1 : w18.cell? ⟨gb248, 1, none⟩ = some (.int .i64 0) := (blk_cell BK248.out 1).trans rfl
                 have hcz56_2 : w18.cell? ⟨gb248, 2, none⟩ = some (.int .i64 0) := (blk_cell BK248.out 2).trans rfl
                 have hcz56_3 : w18.cell? ⟨gb248, 3, none⟩ = some (.int .i64 0) := (blk_cell BK248.out 3).trans rfl
                 have hfz56_0 := blk_frozen BK248.out 0
                 have hfz56_1 := blk_frozen BK248.out 1
                 have hfz56_2 := blk_frozen BK248.out 2
                 have hfz56_3 := blk_frozen BK248.out 3
                 go_wp2_with (first | (go_at_call 96; (with_reducible refine (impl_in.calls ((rd_ITerm l0 x26_2).f2) 0 (wrap64 (x26_2 - 1)) false _ A36.out).mono ?_); rintro e w' ⟨rfl, ⟨nd, rfl⟩⟩))
                 go_meet
                 case rel => exact ⟨_, (false), rq, H', ⟨by have := HJ2.out; have := HK2.out; first | omega | exact Nat.le_refl _⟩, ⟨by (with_reducible repeat (first | apply Kd.R_alloc | apply Kd.R_drewN | apply Kd.R_drew)); exact Kd.R_mono (Kd.R_far (p := ⟨gb248, 3, none⟩) (Kd.R_far (p := ⟨gb248, 2, none⟩) (Kd.R_far (p := ⟨gb248, 1, none⟩) (Kd.R_far (p := ⟨gb248, 0, none⟩) (Kd.R_types HO_5.out BK248.out (by decide)) (fun _ hk => hk.2) (.int .i64 ((rd_ITerm l0 x26_2).f0))) (fun _ hk => hk.2) (.int .i64 ((rd_ITerm l0 x26_2).f1))) (fun _ hk => hk.2) (.int .i64 ((rd_ITerm l0 x26_2).f2))) (fun _ hk => hk.2) (.int .i64 ((rd_ITerm l0 x26_2).f3))) (fun _ hk => trivial)⟩, ⟨by (with_reducible repeat (first | refine blk_drewN ?_ _ | refine blk_drew ?_ | refine blk_alloc ?_ _)); refine blk_put (cs := #[.int .i64 ((rd_ITerm l0 x26_2).f0), .int .i64 ((rd_ITerm l0 x26_2).f1), .int .i64 ((rd_ITerm l0 x26_2).f2), .int .i64 0]) ?_ 3 _ rfl; (with_reducible repeat (first | refine blk_drewN ?_ _ | refine blk_drew ?_ | refine blk_alloc ?_ _)); refine blk_put (cs := #[.int .i64 ((rd_ITerm l0 x26_2).f0), .int .i64 ((rd_ITerm l0 x26_2).f1), .int .i64 0, .int .i64 0]) ?_ 2 _ rfl; (with_reducible repeat (first | refine blk_drewN ?_ _ | refine blk_drew ?_ | refine blk_alloc ?_ _)); refine blk_put (cs := #[.int .i64 ((rd_ITerm l0 x26_2).f0), .int .i64 0, .int .i64 0, .int .i64 0]) ?_ 1 _ rfl; (with_reducible repeat (first | refine blk_drewN ?_ _ | refine blk_drew ?_ | refine blk_alloc ?_ _)); refine blk_put (cs := #[.int .i64 0, .int .i64 0, .int .i64 0, .int .i64 0]) ?_ 0 _ rfl; exact kz BK248⟩, ⟨bz1 HB GE248⟩⟩
               ·
                rw [if_neg c35] at H
                have c35b0 : (((rd_ITerm l0 x26_2).f1) == 0) = false := beq_eq_false_iff_ne.mpr c35
                have c35b1 : (((rd_ITerm l0 x26_2).f1) != 0) = true := bne_iff_ne.mpr c35
                have H' := Aside0.mk H
                clear H
                have hcz57_0 : w18.cell? ⟨gb248, 0, none⟩ = some (.int .i64 0) := (blk_cell BK248.out 0).trans rfl
                have hcz57_1 : w18.cell? ⟨gb248, 1, none⟩ = some (.int .i64 0) := (blk_cell BK248.out 1).trans rfl
                have hcz57_2 : w18.cell? ⟨gb248, 2, none⟩ = some (.int .i64 0) := (blk_cell BK248.out 2).trans rfl
                have hcz57_3 : w18.cell? ⟨gb248, 3, none⟩ = some (.int .i64 0) := (blk_cell BK248.out 3).trans rfl
                have hfz57_0 := blk_frozen BK248.out 0
                have hfz57_1 := blk_frozen BK248.out 1
                have hfz57_2 := blk_frozen BK248.out 2
                have hfz57_3 := blk_frozen BK248.out 3
                go_wp2
                go_meet
                case rel => exact ⟨_, (false), rq, H', ⟨by have := HJ2.out; have := HK2.out; first | omega | exact Nat.le_refl _⟩, ⟨by (with_reducible repeat (first | apply Kd.R_alloc | apply Kd.R_drewN | apply Kd.R_drew)); exact Kd.R_mono (Kd.R_far (p := ⟨gb248, 3, none⟩) (Kd.R_far (p := ⟨gb248, 2, none⟩) (Kd.R_far (p := ⟨gb248, 1, none⟩) (Kd.R_far (p := ⟨gb248, 0, none⟩) (Kd.R_types HO_5.out BK248.out (by decide)) (fun _ hk => hk.2) (.int .i64 ((rd_ITerm l0 x26_2).f0))) (fun _ hk => hk.2) (.int .i64 ((rd_ITerm l0 x26_2).f1))) (fun _ hk => hk.2) (.int .i64 ((rd_ITerm l0 x26_2).f2))) (fun _ hk => hk.2) (.int .i64 ((rd_ITerm l0 x26_2).f3))) (fun _ hk => trivial)⟩, ⟨by (with_reducible repeat (first | refine blk_drewN ?_ _ | refine blk_drew ?_ | refine blk_alloc ?_ _)); refine blk_put (cs := #[.int .i64 ((rd_ITerm l0 x26_2).f0), .int .i64 ((rd_ITerm l0 x26_2).f1), .int .i64 ((rd_ITerm l0 x26_2).f2), .int .i64 0]) ?_ 3 _ rfl; (with_reducible repeat (first | refine blk_drewN ?_ _ | refine blk_drew ?_ | refine blk_alloc ?_ _)); refine blk_put (cs := #[.int .i64 ((rd_ITerm l0 x26_2).f0), .int .i64 ((rd_ITerm l0 x26_2).f1), .int .i64 0, .int .i64 0]) ?_ 2 _ rfl; (with_reducible repeat (first | refine blk_drewN ?_ _ | refine blk_drew ?_ | refine blk_alloc ?_ _)); refine blk_put (cs := #[.int .i64 ((rd_ITerm l0 x26_2).f0), .int .i64 0, .int .i64 0, .int .i64 0]) ?_ 1 _ rfl; (with_reducible repeat (first | refine blk_drewN ?_ _ | refine blk_drew ?_ | refine blk_alloc ?_ _)); refine blk_put (cs := #[.int .i64 0, .int .i64 0, .int .i64 0, .int .i64 0]) ?_ 0 _ rfl; exact kz BK248⟩, ⟨bz1 HB GE248⟩⟩
              ·
               replace c34 := Bool.eq_false_iff.mpr c34
               subst c34
               rw [if_neg nt_] at H
               have H' := Aside0.mk H
               clear H
               have hcz58_0 : w18.cell? ⟨gb248, 0, none⟩ = some (.int .i64 0) := (blk_cell BK248.out 0).trans rfl
               have hcz58_1 : w18.cell? ⟨gb248, 1, none⟩ = some (.int .i64 0) := (blk_cell BK248.out 1).trans rfl
               have hcz58_2 : w18.cell? ⟨gb248, 2, none⟩ = some (.int .i64 0) := (blk_cell BK248.out 2).trans rfl
               have hcz58_3 : w18.cell? ⟨gb248, 3, none⟩ = some (.int .i64 0) := (blk_cell BK248.out 3).trans rfl
               have hfz58_0 := blk_frozen BK248.out 0
               have hfz58_1 := blk_frozen BK248.out 1
               have hfz58_2 := blk_frozen BK248.out 2
               have hfz58_3 := blk_frozen BK248.out 3
               go_wp2
               go_meet
               case rel => exact ⟨_, (false), rq, H', ⟨by have := HJ2.out; have := HK2.out; first | omega | exact Nat.le_refl _⟩, ⟨by (with_reducible repeat (first | apply Kd.R_alloc | apply Kd.R_drewN | apply Kd.R_drew)); exact Kd.R_mono (Kd.R_far (p := ⟨gb248, 3, none⟩) (Kd.R_far (p := ⟨gb248, 2, none⟩) (Kd.R_far (p := ⟨gb248, 1, none⟩) (Kd.R_far (p := ⟨gb248, 0, none⟩) (Kd.R_types HO_5.out BK248.out (by decide)) (fun _ hk => hk.2) (.int .i64 ((rd_ITerm l0 x26_2).f0))) (fun _ hk => hk.2) (.int .i64 ((rd_ITerm l0 x26_2).f1))) (fun _ hk => hk.2) (.int .i64 ((rd_ITerm l0 x26_2).f2))) (fun _ hk => hk.2) (.int .i64 ((rd_ITerm l0 x26_2).f3))) (fun _ hk => trivial)⟩, ⟨by (with_reducible repeat (first | refine blk_drewN ?_ _ | refine blk_drew ?_ | refine blk_alloc ?_ _)); refine blk_put (cs := #[.int .i64 ((rd_ITerm l0 x26_2).f0), .int .i64 ((rd_ITerm l0 x26_2).f1), .int .i64 ((rd_ITerm l0 x26_2).f2), .int .i64 0]) ?_ 3 _ rfl; (with_reducible repeat (first | refine blk_drewN ?_ _ | refine blk_drew ?_ | refine blk_alloc ?_ _)); refine blk_put (cs := #[.int .i64 ((rd_ITerm l0 x26_2).f0), .int .i64 ((rd_ITerm l0 x26_2).f1), .int .i64 0, .int .i64 0]) ?_ 2 _ rfl; (with_reducible repeat (first | refine blk_drewN ?_ _ | refine blk_drew ?_ | refine blk_alloc ?_ _)); refine blk_put (cs := #[.int .i64 ((rd_ITerm l0 x26_2).f0), .int .i64 0, .int .i64 0, .int .i64 0]) ?_ 1 _ rfl; (with_reducible repeat (first | refine blk_drewN ?_ _ | refine blk_drew ?_ | refine blk_alloc ?_ _)); refine blk_put (cs := #[.int .i64 0, .int .i64 0, .int .i64 0, .int .i64 0]) ?_ 0 _ rfl; exact kz BK248⟩, ⟨bz1 HB GE248⟩⟩
           case rest =>
            clear HC17
            try clear c1
            try clear c2
            try clear p2
            try clear q2
            try clear hx2
            try clear c3
            try clear c4
            try clear c5
            try clear p6
            try clear c7
            try clear c8
            try clear c8b0
            try clear c8b1
            try clear c9
            try clear c9b0
            try clear c9b1
            try clear c12
            try clear c12b0
            try clear c13
            try clear c13b0
            try clear c14
            try clear c14b0
            try clear c16
            try clear c20
            try clear c20b0
            try clear c20b1
            try clear c22
            try clear c23
            try clear c23b0
            try clear c23b1
            try clear p24
            try clear q24
            try clear hx24
            try clear p25
            try clear q25
            try clear hx25
            try clear c27
            try clear c27b0
            try clear c27b1
            try clear c29
            try clear c30
            try clear c30b0
            try clear c30b1
            try clear c34
            try clear c35
            try clear c35b0
            try clear c35b1
            try clear c37
            try clear c39
            try clear c40
            try clear c40b0
            try clear c41
            try clear c41b0
            try clear c42
            try clear c42b0
            try clear c42b1
            try clear c43
            try clear c43b0
            try clear c44
            try clear c44b0
            try clear c45
            try clear c45b0
            try clear c45b1
            try clear c46
            try clear c46b0
            try clear c46b1
            try clear hcz19_0
            try clear hcz19_1
            try clear hcz19_2
            try clear hcz19_3
            try clear hcz24_0
            try clear hcz24_1
            try clear hcz24_2
            try clear hcz24_3
            try clear hcz25_0
            try clear hcz25_1
            try clear hcz25_2
            try clear hcz25_3
            try clear hcz26_0
            try clear hcz26_1
            try clear hcz26_2
            try clear hcz26_3
            try clear hcz31_0
            try clear hcz31_1
            try clear hcz31_2
            try clear hcz31_3
            try clear hcz32_0
            try clear hcz32_1
            try clear hcz32_2
            try clear hcz32_3
            try clear hcz33_0
            try clear hcz33_1
            try clear hcz33_2
            try clear hcz33_3
            try clear hcz47_0
            try clear hcz47_1
            try clear hcz47_2
            try clear hcz47_3
            try clear hcz49_0
            try clear hcz49_1
            try clear hcz49_2
            try clear hcz49_3
            try clear hcz51_0
            try clear hcz51_1
            try clear hcz51_2
            try clear hcz51_3
            try clear hcz53_0
            try clear hcz53_1
            try clear hcz53_2
            try clear hcz53_3
            try clear hcz55_0
            try clear hcz55_1
            try clear hcz55_2
            try clear hcz55_3
            try clear hcz56_0
            try clear hcz56_1
            try clear hcz56_2
            try clear hcz56_3
            try clear hcz57_0
            try clear hcz57_1
            try clear hcz57_2
            try clear hcz57_3
            try clear hcz58_0
            try clear hcz58_1
            try clear hcz58_2
            try clear hcz58_3
            try clear hfz19_0
            try clear hfz19_1
            try clear hfz19_2
            try clear hfz19_3
            try clear hfz24_0
            try clear hfz24_1
            try clear hfz24_2
            try clear hfz24_3
            try clear hfz25_0
            try clear hfz25_1
            try clear hfz25_2
            try clear hfz25_3
            try clear hfz26_0
            try clear hfz26_1
            try clear hfz26_2
            try clear hfz26_3
            try clear hfz31_0
            try clear hfz31_1
            try clear hfz31_2
            try clear hfz31_3
            try clear hfz32_0
            try clear hfz32_1
            try clear hfz32_2
            try clear hfz32_3
            try clear hfz33_0
            try clear hfz33_1
            try clear hfz33_2
            try clear hfz33_3
            try clear hfz47_0
            try clear hfz47_1
            try clear hfz47_2
            try clear hfz47_3
            try clear hfz49_0
            try clear hfz49_1
            try clear hfz49_2
            try clear hfz49_3
            try clear hfz51_0
            try clear hfz51_1
            try clear hfz51_2
            try clear hfz51_3
            try clear hfz53_0
            try clear hfz53_1
            try clear hfz53_2
            try clear hfz53_3
            try clear hfz55_0
            try clear hfz55_1
            try clear hfz55_2
            try clear hfz55_3
            try clear hfz56_0
            try clear hfz56_1
            try clear hfz56_2
            try clear hfz56_3
            try clear hfz57_0
            try clear hfz57_1
            try clear hfz57_2
            try clear hfz57_3
            try clear hfz58_0
            try clear hfz58_1
            try clear hfz58_2
            try clear hfz58_3
            try clear hx247_0
            try clear hx247_1
            try clear hx247_2
            try clear hx247_3
            try clear hx257_0
            try clear hx258_0
            try clear p2
            try clear p247
            try clear p257
            try clear p258
            try clear q247
            try clear q257
            try clear q258
            obtain ⟨kq, x11_16, rfl, HA, HJ16, HO_5, BK248, HB⟩ := hcut
            cases kq with
            | zero => exact absurd HA.out (by simp [impl_kindsOf.j2])
            | succ kj16 =>
             have H := HA.out
             clear HA
             simp only [impl_kindsOf.j2] at H
             by_cases c59 : x11_16 = true
             ·
              subst c59
              rw [if_pos rfl] at H
              by_cases c60 : x5_2.length < 17592186044416
              ·
               rw [if_pos c60] at H
               have LMc60 := Aside0.mk c60
               clear c60
               obtain ⟨y259, hy259⟩ : ∃ y_ : List Int, y_ = (x5_2 ++ [t251]) := ⟨_, rfl⟩
               replace H : (impl_kindsOf.l0 kj16 a1 y259 l0 (l0.length : Int) (wrap64 (x26_2 + 1))) = some r := by first | (rw [hy259]; with_reducible exact H) | (have H2_ := (Option.bind_some _ _).symm.trans H; rw [hy259]; with_reducible exact H2_) | (have H2_ := (Option.bind_some _ _).symm.trans H; with_reducible exact H2_) | with_reducible exact H | (rw [hy259]; exact H) | exact H
               have Ny259 := Aside0.mk hy259
               clear hy259
               have H' := Aside0.mk H
               clear H
               go_wp2_with (first | ((with_reducible refine gate_builtin (b := .append) (xs := #[.tmp 127, .tmp 129]) rfl ?_); (try (refine gate_guard (by rfl) ?_; dsimp only)); at_builtin; refine Kd.R_append (Kd.int .i64) (w0 := w) w.heap.size rfl (.tmp 127) (.tmp 129) 26 3 (.int .i64 0) 8 rfl Try.underlying26 info3 rfl (by decide) (by omega) u5 x5_2 t251 [.int .i64 t251] (fun _ => True) (fun _ => False) rfl rfl ?aP (fun _ hk => hk.elim) ?aF ?aO ?aB ?aS ?aL ?_; (case aP => exact rfl); (case aB => exact (bz1 HB GE248)); (case aF => exact (fun _ _ => trivial)); (case aO => exact (ozR HO_5)); (case aS => exact (below_size (bz1 HB GE248))); (case aL => have := LMc60.out; omega); intro v260 w61 ho hb hg hat; rw [← Ny259.out] at ho; replace BK248 := Aside0.mk (blk_grown (g := gb248) (o := .cells #[.int .i64 ((rd_ITerm l0 x26_2).f0), .int .i64 ((rd_ITerm l0 x26_2).f1), .int .i64 ((rd_ITerm l0 x26_2).f2), .int .i64 ((rd_ITerm l0 x26_2).f3)] 107 (0, 0)) (kz BK248) hg (Kd.R_ne HO_5.out BK248.out (by decide))); replace HB := Aside0.mk (hb); have HO261 := Aside0.mk (ho); clear HO_5; clear ho hb hg hat))
               go_roundg kj16
               case measure => have := HJ2.out; have := HK2.out; have := HJ16.out; omega
               case rel => exact ⟨(y259), (wrap64 (x26_2 + 1)), rq, H', ⟨by have := HJ2.out; have := HK2.out; have := HJ16.out; omega⟩, ⟨ozR HO261⟩, ⟨bz1 HB GE248⟩⟩
              ·
               rw [if_neg c60] at H
               exact absurd H (by simp)
             ·
              replace c59 := Bool.eq_false_iff.mpr c59
              subst c59
              rw [if_neg nt_] at H
              obtain rfl := Option.some.inj H
              go_wp2
              go_ret
              exact ⟨_, rz, nz, bz1 HB GE248, by first | exact NilIf.intro (fun _ => rfl) | exact NilIf.intro (fun e_ => absurd (‹Aside0 (0 < List.length _)›).out (by rw [e_]; exact Nat.lt_irrefl 0))⟩
          ·
           rw [if_neg c14] at H
           exact absurd H (by simp)
         ·
          rw [if_neg c13] at H
          exact absurd H (by simp)
        ·
         rw [if_neg c12] at H
         have c12b0 : decide (x26_2 < (l0.length : Int)) = false := decide_eq_false c12
         clear c12
         by_cases c62 : 0 < x5_2.length
         ·
          rw [if_pos c62] at H
          have LMc62 := Aside0.mk c62
          clear c62
          obtain rfl := Option.some.inj H
          go_wp2
          go_ret
          exact ⟨_, rz, ozR HO_5, bz HB, by first | exact NilIf.intro (fun _ => rfl) | exact NilIf.intro (fun e_ => absurd (‹Aside0 (0 < List.length _)›).out (by rw [e_]; exact Nat.lt_irrefl 0))⟩
         ·
          rw [if_neg c62] at H
          exact absurd H (by simp)
     ·
      rw [if_neg c9] at H
      exact absurd H (by simp)
    ·
     rw [if_neg c8] at H
     exact absurd H (by simp)
end Go.Proofs.Ytndmhmekmkgccaa.PFnExactInRange
end
section
namespace Go.Proofs.Ytndmhmekmkgccaa.PFnExactInRange
open Go.RowKit Go.Proofs.YtndmhmekmkgccaaW.PrintWords Go.Proofs.YtndmhmekmkgccaaW.PrintLast Go.Proofs.YtndmhmekmkgccaaW.PrintMore
attribute [local go_sem] max2_int min2_int max_two min_two max_three min_three max_four min_four   -- for this text's walks alone
set_option linter.unusedVariables false
set_option linter.unusedSimpArgs false
set_option maxHeartbeats 4000000 in
set_option maxRecDepth 100000 in
theorem impl_kindOf.calls (k : Nat) (A0 : Option Addr) (c0 : Nat) (l0 : List (ITerm)) (a1 : Int) (r : Int) (w : World) (hr0 : Kd.C k107 w A0 l0.length l0) (hc0 : l0.length ≤ c0) (h : impl_kindOf.f k l0 a1 = some r) :
  Calls Try.prog 161 #[.slice A0 l0.length c0, .int .i64 a1] w fun e w' => e = .returned (.int .i64 r) ∧ Below w.heap.size w w' := by
 obtain ⟨t, A50, H⟩ := Option.bind_eq_some_iff.mp h
 clear h
 have A5 := Aside0.mk A50
 have HR0 := Aside0.mk hr0
 have HC0 := Aside0.mk hc0
 clear A50 hr0 hc0
 have he := fun (W : World) => Lib.run_eql_slice_nil (P := Try.prog) W 26 3 none 0 0 0 0 Try.underlying26
 have he2 := fun (W : World) (ad : Addr) (c : Nat) => Lib.run_eql_slice_nil (P := Try.prog) W 26 3 (some ad) t.length c 0 0 Try.underlying26
 have hn := fun (W : World) => run_neq_slice_nil_any (P := Try.prog) W 26 3 none 0 0 0 0 Try.underlying26
 have hn2 := fun (W : World) (ad : Addr) (c : Nat) => run_neq_slice_nil_any (P := Try.prog) W 26 3 (some ad) t.length c 0 0 Try.underlying26
 by_cases c6 : t = []
 ·
  subst c6
  have H2 := Aside0.mk H
  clear H
  go_enter Try.func161, Try.ntmps161
  go_wp2_with (first | ((with_reducible refine gate_callee (f := 137) rfl ?_); refine goesL_ (some 8) rfl rfl Try.func137 (by kernel_rfl) rfl #[.slice A0 l0.length c0, .int .i64 a1] rfl (by (try simp only [List.map_toArray, List.map_cons, List.map_nil]); first | done | rfl) ?_; (with_reducible refine (impl_kindsOf.calls k _ _ l0 a1 [] _ HR0.out HC0.out A5.out).mono ?_); rintro e w1 ⟨v, rfl, ho, hb, hnil⟩; refine ⟨_, rfl, ?_⟩; obtain rfl := hnil.out rfl; have HB := Aside0.mk hb; clear hb ho hnil))
  go_ret
  have H3 := H2.out
  exact ⟨by simpa using H3, HB.out⟩
 ·
  have HN := Aside0.mk c6
  rw [if_neg c6] at H
  obtain ⟨ji6, hji6⟩ : ∃ j_ : Int, (wrap64 ((t.length : Int) - 1)) = j_ := ⟨_, rfl⟩
  rw [hji6] at H
  have hji6w : (IntKind.i64.wrap ((t.length : Int) - 1)) = ji6 := (i64_w _).trans hji6
  by_cases c7 : 0 ≤ ji6
  case neg => rw [if_neg c7] at H; exact absurd H (by simp)
  rw [if_pos c7] at H
  by_cases c8 : ji6 < (t.length : Int)
  case neg => rw [if_neg c8] at H; exact absurd H (by simp)
  rw [if_pos c8] at H
  obtain rfl := Option.some.inj H
  clear H
  have c7b0 : decide (0 ≤ ji6) = true := decide_eq_true c7
  have c8b0 : decide (ji6 < (t.length : Int)) = true := decide_eq_true c8
  have C7 := Aside0.mk c7
  have C8 := Aside0.mk c8
  clear c7 c8
  clear c6
  go_enter Try.func161, Try.ntmps161
  go_wp2_with (first | ((with_reducible refine gate_callee (f := 137) rfl ?_); refine goesL_ (some 8) rfl rfl Try.func137 (by kernel_rfl) rfl #[.slice A0 l0.length c0, .int .i64 a1] rfl (by (try simp only [List.map_toArray, List.map_cons, List.map_nil]); first | done | rfl) ?_; (with_reducible refine (impl_kindsOf.calls k _ _ l0 a1 t _ HR0.out HC0.out A5.out).mono ?_); rintro e w1 ⟨v, rfl, ho, hb, hnil⟩; refine ⟨_, rfl, ?_⟩; obtain ⟨ad, c, rfl⟩ := Kd.R_some ho HN.out; obtain ⟨ad9, e9, hx9⟩ := Kd.at_int (Kd.R_reads' ho).2.2 ji6 C7.out C8.out; cases e9; have p9 := eq_true C7.out; have q9 := eq_true C8.out; have HB := Aside0.mk hb; clear hb ho hnil))
  go_ret
  exact ⟨rfl, HB.out⟩
end Go.Proofs.Ytndmhmekmkgccaa.PFnExactInRange
end
section
namespace Go.Proofs.Ytndmhmekmkgccaa.PFnExactInRange
open Go.RowKit Go.Proofs.YtndmhmekmkgccaaW.PrintWords Go.Proofs.YtndmhmekmkgccaaW.PrintLast Go.Proofs.YtndmhmekmkgccaaW.PrintMore
attribute [local go_sem] max2_int min2_int max_two min_two max_three min_three max_four min_four   -- for this text's walks alone
set_option linter.unusedVariables false
set_option linter.unusedSimpArgs false
set_option maxHeartbeats 8000000 in
set_option maxRecDepth 100000 in
theorem impl_ruleOk.calls (k : Nat) (A0_0 : Option Addr) (c0_0 : Nat) (l0_0 : List (ITerm)) (A0_1 : Option Addr) (c0_1 : Nat) (l0_1 : List Int) (A0_2 : Option Addr) (c0_2 : Nat) (l0_2 : List (List (ITerm))) (a1 : Int) (r : Bool) (w : World) (hr0_0 : Kd.C k107 w A0_0 l0_0.length l0_0) (hc0_0 : l0_0.length ≤ c0_0) (hr0_1 : Kd.C (Kd.int .i64) w A0_1 l0_1.length l0_1) (hc0_1 : l0_1.length ≤ c0_1) (hr0_2 : Kd.C (Kd.slice 107 k107) w A0_2 l0_2.length l0_2) (hc0_2 : l0_2.length ≤ c0_2) (h : impl_ruleOk.f k l0_0 l0_1 l0_2 a1 = some r) :
  Calls Try.prog 123 #[.agg #[.slice A0_0 l0_0.length c0_0, .slice A0_1 l0_1.length c0_1, .slice A0_2 l0_2.length c0_2], .int .i64 a1] w fun e w' => e = .returned (.bool r) ∧ Below w.heap.size w w' := by
 have hu145 := Try.underlying145
 have HR0_0 := Aside0.mk hr0_0
 have HC0_0 := Aside0.mk hc0_0
 clear hr0_0 hc0_0
 have HR0_1 := Aside0.mk hr0_1
 have HC0_1 := Aside0.mk hc0_1
 clear hr0_1 hc0_1
 have HR0_2 := Aside0.mk hr0_2
 have HC0_2 := Aside0.mk hc0_2
 clear hr0_2 hc0_2
 have HB := Aside0.mk (Below.refl w.heap.size w)
 have H : ((impl_kindOf.f k l0_0 a1).bind fun t263 => (if t263 = 2 then (impl_ruleOk.j0 k a1 ((l0_1.length : Int) != (l0_2.length : Int)) l0_0 l0_1 l0_2) else (impl_ruleOk.j0 k a1 true l0_0 l0_1 l0_2))) = some r := h
 clear h
 have HC3 := Aside0.mk H
 clear H
 go_enter Try.func123, Try.ntmps123
 go_upto_region 1 with (first | ((with_reducible refine gate_dst (N := 2) rfl ?_); (try (refine gate_guard (by rfl) ?_; dsimp only)); refine box_event ?hg (N := 2) ?hd (cs := #[.slice A0_0 l0_0.length c0_0, .slice A0_1 l0_1.length c0_1, .slice A0_2 l0_2.length c0_2]) (t := 145) ?hr ?_; (case hd => rfl); (case hg => rfl); (case hr => first | (go_simp; done) | (go_simp; rfl)); intro gb262 hg w4 hbox hb; have n0_ := Aside0.mk (below_step (bz HB) hb); have n1_ := Aside0.mk (hbox); have n2_ := Aside0.mk ((by rw [hg]; exact (below_size (bz HB)) : w.heap.size ≤ gb262)); have n3_ := Aside0.mk ((by rw [hg]; exact (below_size (bz HB)) : w.heap.size ≤ gb262)); clear HB; have HB := n0_; have BK262 := n1_; have GW262 := n2_; have GE262 := n3_; clear n0_ n1_ n2_ n3_; clear hb hbox hg))
 (try simp only [Act.put, sb_, sc0_, sc1_])
 go_cut [20] (fun v20 wc => ∃ (kq : Nat) (x20_2 : Bool), v20 = .bool x20_2 ∧ Aside0 (impl_ruleOk.j0 kq a1 x20_2 l0_0 l0_1 l0_2 = some r) ∧ Aside0 (kq ≤ k) ∧ Aside0 (wc.heap[gb262]? = some (.cells #[(.slice A0_0 l0_0.length c0_0), (.slice A0_1 l0_1.length c0_1), (.slice A0_2 l0_2.length c0_2)] 145 (0, 0))) ∧ Aside0 (Below w.heap.size w wc))
 case first =>
  have H := HC3.out
  clear HC3
  replace H := Option.bind_eq_some_iff.mp H
  obtain ⟨t263, A50, H⟩ := H
  have A5 := Aside0.mk A50
  clear A50
  by_cases c6 : t263 = 2
  ·
   rw [if_pos c6] at H
   have c6b0 : (t263 == 2) = true := beq_iff_eq.mpr c6
   have c6b1 : (t263 != 2) = false := bne_eq_false_iff_eq.mpr c6
   clear c6
   (first | rw [c6b0] | (simp only [i64_w, i32_w]; rw [c6b0]) | skip)
   have H' := Aside0.mk H
   clear H
   have hcz7_0 : w4.cell? ⟨gb262, 0, none⟩ = some (.slice A0_0 l0_0.length c0_0) := (blk_cell BK262.out 0).trans rfl
   have hcz7_1 : w4.cell? ⟨gb262, 1, none⟩ = some (.slice A0_1 l0_1.length c0_1) := (blk_cell BK262.out 1).trans rfl
   have hcz7_2 : w4.cell? ⟨gb262, 2, none⟩ = some (.slice A0_2 l0_2.length c0_2) := (blk_cell BK262.out 2).trans rfl
   have hfz7_0 := blk_frozen BK262.out 0
   have hfz7_1 := blk_frozen BK262.out 1
   have hfz7_2 := blk_frozen BK262.out 2
   go_wp2_with (first | ((with_reducible refine gate_callee (f := 161) rfl ?_); refine goesL_ (some 10) rfl rfl Try.func161 (by kernel_rfl) rfl #[.slice A0_0 l0_0.length c0_0, .int .i64 a1] rfl az ?_; (with_reducible refine (impl_kindOf.calls k _ _ l0_0 a1 t263 _ ?side1 HC0_0.out A5.out).mono ?_); (case side1 => exact cz HR0_0 HB); rintro e w8 ⟨rfl, hb⟩; refine ⟨_, rfl, ?_⟩; replace BK262 := Aside0.mk (blk_below (g := gb262) (o := .cells #[.slice A0_0 l0_0.length c0_0, .slice A0_1 l0_1.length c0_1, .slice A0_2 l0_2.length c0_2] 145 (0, 0)) (kz BK262) hb); replace HB := Aside0.mk (below_step (bz1 HB GE262) hb); clear hb; have hcz9_0 : w8.cell? ⟨gb262, 0, none⟩ = some (.slice A0_0 l0_0.length c0_0) := (blk_cell BK262.out 0).trans rfl; have hcz9_1 : w8.cell? ⟨gb262, 1, none⟩ = some (.slice A0_1 l0_1.length c0_1) := (blk_cell BK262.out 1).trans rfl; have hcz9_2 : w8.cell? ⟨gb262, 2, none⟩ = some (.slice A0_2 l0_2.length c0_2) := (blk_cell BK262.out 2).trans rfl; have hfz9_0 := blk_frozen BK262.out 0; have hfz9_1 := blk_frozen BK262.out 1; have hfz9_2 := blk_frozen BK262.out 2))
   go_meet
   case rel => exact ⟨_, (((l0_1.length : Int) != (l0_2.length : Int))), rq, H', ⟨by first | omega | exact Nat.le_refl _⟩, ⟨kz BK262⟩, ⟨bz1 HB GE262⟩⟩
  ·
   rw [if_neg c6] at H
   have c6b0 : (t263 == 2) = false := beq_eq_false_iff_ne.mpr c6
   have c6b1 : (t263 != 2) = true := bne_iff_ne.mpr c6
   (first | rw [c6b0] | (simp only [i64_w, i32_w]; rw [c6b0]) | skip)
   have H' := Aside0.mk H
   clear H
   have hcz10_0 : w4.cell? ⟨gb262, 0, none⟩ = some (.slice A0_0 l0_0.length c0_0) := (blk_cell BK262.out 0).trans rfl
   have hcz10_1 : w4.cell? ⟨gb262, 1, none⟩ = some (.slice A0_1 l0_1.length c0_1) := (blk_cell BK262.out 1).trans rfl
   have hcz10_2 : w4.cell? ⟨gb262, 2, none⟩ = some (.slice A0_2 l0_2.length c0_2) := (blk_cell BK262.out 2).trans rfl
   have hfz10_0 := blk_frozen BK262.out 0
   have hfz10_1 := blk_frozen BK262.out 1
   have hfz10_2 := blk_frozen BK262.out 2
   go_wp2_with (first | ((with_reducible refine gate_callee (f := 161) rfl ?_); refine goesL_ (some 10) rfl rfl Try.func161 (by kernel_rfl) rfl #[.slice A0_0 l0_0.length c0_0, .int .i64 a1] rfl az ?_; (with_reducible refine (impl_kindOf.calls k _ _ l0_0 a1 t263 _ ?side1 HC0_0.out A5.out).mono ?_); (case side1 => exact cz HR0_0 HB); rintro e w11 ⟨rfl, hb⟩; refine ⟨_, rfl, ?_⟩; replace BK262 := Aside0.mk (blk_below (g := gb262) (o := .cells #[.slice A0_0 l0_0.length c0_0, .slice A0_1 l0_1.length c0_1, .slice A0_2 l0_2.length c0_2] 145 (0, 0)) (kz BK262) hb); replace HB := Aside0.mk (below_step (bz1 HB GE262) hb); clear hb))
   go_meet
   case rel => exact ⟨_, (true), rq, H', ⟨by first | omega | exact Nat.le_refl _⟩, ⟨kz BK262⟩, ⟨bz1 HB GE262⟩⟩
 case rest =>
  clear HC3
  try clear c1
  try clear p2
  try clear c6
  try clear c6b0
  try clear c6b1
  try clear hcz10_0
  try clear hcz10_1
  try clear hcz10_2
  try clear hcz7_0
  try clear hcz7_1
  try clear hcz7_2
  try clear hcz9_0
  try clear hcz9_1
  try clear hcz9_2
  try clear hfz10_0
  try clear hfz10_1
  try clear hfz10_2
  try clear hfz7_0
  try clear hfz7_1
  try clear hfz7_2
  try clear hfz9_0
  try clear hfz9_1
  try clear hfz9_2
  obtain ⟨kq, x20_2, rfl, HA, HJ2, BK262, HB⟩ := hcut
  cases kq with
  | zero => exact absurd HA.out (by simp [impl_ruleOk.j0])
  | succ kj2 =>
   have H := HA.out
   clear HA
   simp only [impl_ruleOk.j0] at H
   by_cases c12 : x20_2 = true
   ·
    subst c12
    rw [if_pos rfl] at H
    obtain rfl := Option.some.inj H
    go_wp2
    go_ret
    exact ⟨rz, bz1 HB GE262⟩
   ·
    replace c12 := Bool.eq_false_iff.mpr c12
    subst c12
    rw [if_neg nt_] at H
    have H' := Aside0.mk H
    clear H
    have hcz13_0 : wc.cell? ⟨gb262, 0, none⟩ = some (.slice A0_0 l0_0.length c0_0) := (blk_cell BK262.out 0).trans rfl
    have hcz13_1 : wc.cell? ⟨gb262, 1, none⟩ = some (.slice A0_1 l0_1.length c0_1) := (blk_cell BK262.out 1).trans rfl
    have hcz13_2 : wc.cell? ⟨gb262, 2, none⟩ = some (.slice A0_2 l0_2.length c0_2) := (blk_cell BK262.out 2).trans rfl
    have hfz13_0 := blk_frozen BK262.out 0
    have hfz13_1 := blk_frozen BK262.out 1
    have hfz13_2 := blk_frozen BK262.out 2
    go_wp2
    go_loopg [24] kj2 (fun kq v24 w' => ∃ (x24_2 : Int), v24 = .int .i64 x24_2 ∧ Aside0 (impl_ruleOk.l0 kq a1 l0_1 (l0_1.length : Int) x24_2 l0_0 l0_1 l0_2 = some r) ∧ Aside0 (kq ≤ kj2) ∧ Aside0 (w'.heap[gb262]? = some (.cells #[(.slice A0_0 l0_0.length c0_0), (.slice A0_1 l0_1.length c0_1), (.slice A0_2 l0_2.length c0_2)] 145 (0, 0))) ∧ Aside0 (Below w.heap.size w w'))
    case atStart => exact ⟨(0), rq, H', ⟨Nat.le_refl _⟩, ⟨kz BK262⟩, ⟨bz1 HB GE262⟩⟩
    case round =>
     clear H'
     try clear c1
     try clear p2
     try clear c6
     try clear c6b0
     try clear c6b1
     try clear c12
     try clear hcz10_0
     try clear hcz10_1
     try clear hcz10_2
     try clear hcz13_0
     try clear hcz13_1
     try clear hcz13_2
     try clear hcz7_0
     try clear hcz7_1
     try clear hcz7_2
     try clear hcz9_0
     try clear hcz9_1
     try clear hcz9_2
     try clear hfz10_0
     try clear hfz10_1
     try clear hfz10_2
     try clear hfz13_0
     try clear hfz13_1
     try clear hfz13_2
     try clear hfz7_0
     try clear hfz7_1
     try clear hfz7_2
     try clear hfz9_0
     try clear hfz9_1
     try clear hfz9_2
     try clear p2
     obtain ⟨x24_2, rfl, HA, HK2, BK262, HB⟩ := hrel
     cases gk with
     | zero => exact absurd HA.out (by simp [impl_ruleOk.l0])
     | succ k2 =>
      have H := HA.out
      clear HA
      simp only [impl_ruleOk.l0] at H
      by_cases c14 : x24_2 < (l0_1.length : Int)
      ·
       rw [if_pos c14] at H
       have c14b0 : decide (x24_2 < (l0_1.length : Int)) = true := decide_eq_true c14
       clear c14
       by_cases c15 : 0 ≤ x24_2
       ·
        rw [if_pos c15] at H
        have c15b0 : decide (0 ≤ x24_2) = true := decide_eq_true c15
        clear c15
        by_cases c16 : x24_2 < (l0_1.length : Int)
        ·
         rw [if_pos c16] at H
         have c16b0 : decide (x24_2 < (l0_1.length : Int)) = true := decide_eq_true c16
         clear c16
         have HC17 := Aside0.mk H
         clear H
         have p264 : 0 ≤ (x24_2 : Int) := dz
         have q264 : x24_2 < (l0_1.length : Int) := dz
         obtain ⟨ad264, e264, hx264_0⟩ := Kd.at_int HR0_1.out x24_2 p264 q264
         cases e264
         replace hx264_0 := xz HB hx264_0
         replace p264 := eq_true p264
         replace q264 := eq_true q264
         go_upto_region 6 with (fail)
         go_cut [57] (fun v57 wc => ∃ (kq : Nat) (x57_16 : Bool), v57 = .bool x57_16 ∧ Aside0 (impl_ruleOk.j2 kq a1 l0_1 (l0_1.length : Int) x24_2 x57_16 l0_0 l0_1 l0_2 = some r) ∧ Aside0 (kq ≤ k2) ∧ Aside0 (wc.heap[gb262]? = some (.cells #[(.slice A0_0 l0_0.length c0_0), (.slice (some ad264) l0_1.length c0_1), (.slice A0_2 l0_2.length c0_2)] 145 (0, 0))) ∧ Aside0 (Below w.heap.size w wc))
         case first =>
          have H := HC17.out
          clear HC17
          replace H := Option.bind_eq_some_iff.mp H
          obtain ⟨t265, A180, H⟩ := H
          have A18 := Aside0.mk A180
          clear A180
          by_cases c19 : t265 = true
          ·
           subst c19
           rw [if_pos rfl] at H
           by_cases c20 : x24_2 > 0
           ·
            rw [if_pos c20] at H
            have c20b0 : decide (0 < x24_2) = true := decide_eq_true c20
            clear c20
            (first | rw [c20b0] | (simp only [i64_w, i32_w]; rw [c20b0]) | skip)
            obtain ⟨ji21, hji21⟩ : ∃ j_ : Int, (wrap64 (x24_2 - 1)) = j_ := ⟨_, rfl⟩
            replace H : (if 0 ≤ (ji21) then (if (ji21) < (l0_1.length : Int) then (if (rd l0_1 (ji21)) ≥ (rd l0_1 x24_2) then (impl_ruleOk.j2 k2 a1 l0_1 (l0_1.length : Int) x24_2 true l0_0 l0_1 l0_2) else (if x24_2 < (l0_2.length : Int) then ((impl_kindOf.f k2 (rd_LITerm l0_2 x24_2) a1).bind fun t268 => (impl_ruleOk.j2 k2 a1 l0_1 (l0_1.length : Int) x24_2 (t268 != 1) l0_0 l0_1 l0_2)) else (none))) else (none)) else (none)) = some r := by first | (rw [hji21] at H; exact H) | (simp only [hji21] at H ⊢; exact H)
            (try rw [hji21] at A18)
            have hji21w : (IntKind.i64.wrap (x24_2 - 1)) = ji21 := (i64_w _).trans hji21
            by_cases c22 : 0 ≤ (ji21)
            ·
             rw [if_pos c22] at H
             have c22b0 : decide (0 ≤ (ji21)) = true := decide_eq_true c22
             clear c22
             by_cases c23 : (ji21) < (l0_1.length : Int)
             ·
              rw [if_pos c23] at H
              have c23b0 : decide ((ji21) < (l0_1.length : Int)) = true := decide_eq_true c23
              clear c23
              by_cases c24 : (rd l0_1 (ji21)) ≥ (rd l0_1 x24_2)
              ·
               rw [if_pos c24] at H
               have c24b0 : decide ((rd l0_1 x24_2) ≤ (rd l0_1 (ji21))) = true := decide_eq_true c24
               clear c24
               have H' := Aside0.mk H
               clear H
               go_wp2_with (first | ((with_reducible refine gate_callee (f := 96) rfl ?_); refine goesL_ (some 32) rfl rfl Try.func96 (by kernel_rfl) rfl #[.int .i64 (rd l0_1 x24_2), .int .i64 0, .int .i64 (wrap64 (a1 - 1))] rfl az ?_; (with_reducible refine (impl_in.calls (rd l0_1 x24_2) 0 (wrap64 (a1 - 1)) true _ A18.out).mono ?_); rintro e w' ⟨rfl, ⟨nd, rfl⟩⟩; refine ⟨_, rfl, ?_⟩; have hcz25_0 : wr.cell? ⟨gb262, 0, none⟩ = some (.slice A0_0 l0_0.length c0_0) := (blk_cell BK262.out 0).trans rfl; have hcz25_1 : wr.cell? ⟨gb262, 1, none⟩ = some (.slice (some ad264) l0_1.length c0_1) := (blk_cell BK262.out 1).trans rfl; have hcz25_2 : wr.cell? ⟨gb262, 2, none⟩ = some (.slice A0_2 l0_2.length c0_2) := (blk_cell BK262.out 2).trans rfl; have hfz25_0 := blk_frozen BK262.out 0; have hfz25_1 := blk_frozen BK262.out 1; have hfz25_2 := blk_frozen BK262.out 2; have p266 : 0 ≤ ((ji21) : Int) := dz; have q266 : (ji21) < (l0_1.length : Int) := dz; obtain ⟨ad266, e266, hx266_0⟩ := Kd.at_int HR0_1.out (ji21) p266 q266; obtain rfl : ad264 = ad266 := (by injection e266); replace hx266_0 := xz HB hx266_0; replace p266 := eq_true p266; replace q266 := eq_true q266))
               go_meet
               case rel => exact ⟨_, (true), rq, H', ⟨by have := HJ2.out; have := HK2.out; first | omega | exact Nat.le_refl _⟩, ⟨kz BK262⟩, ⟨bz1 HB GE262⟩⟩
              ·
               rw [if_neg c24] at H
               have c24b0 : decide ((rd l0_1 x24_2) ≤ (rd l0_1 (ji21))) = false := decide_eq_false c24
               clear c24
               by_cases c26 : x24_2 < (l0_2.length : Int)
               ·
                rw [if_pos c26] at H
                have c26b0 : decide (x24_2 < (l0_2.length : Int)) = true := decide_eq_true c26
                clear c26
                replace H := Option.bind_eq_some_iff.mp H
                obtain ⟨t268, A270, H⟩ := H
                have A27 := Aside0.mk A270
                clear A270
                have H' := Aside0.mk H
                clear H
                go_wp2_with (first | ((with_reducible refine gate_callee (f := 96) rfl ?_); refine goesL_ (some 32) rfl rfl Try.func96 (by kernel_rfl) rfl #[.int .i64 (rd l0_1 x24_2), .int .i64 0, .int .i64 (wrap64 (a1 - 1))] rfl az ?_; (with_reducible refine (impl_in.calls (rd l0_1 x24_2) 0 (wrap64 (a1 - 1)) true _ A18.out).mono ?_); rintro e w' ⟨rfl, ⟨nd, rfl⟩⟩; refine ⟨_, rfl, ?_⟩; have hcz28_0 : wr.cell? ⟨gb262, 0, none⟩ = some (.slice A0_0 l0_0.length c0_0) := (blk_cell BK262.out 0).trans rfl; have hcz28_1 : wr.cell? ⟨gb262, 1, none⟩ = some (.slice (some ad264) l0_1.length c0_1) := (blk_cell BK262.out 1).trans rfl; have hcz28_2 : wr.cell? ⟨gb262, 2, none⟩ = some (.slice A0_2 l0_2.length c0_2) := (blk_cell BK262.out 2).trans rfl; have hfz28_0 := blk_frozen BK262.out 0; have hfz28_1 := blk_frozen BK262.out 1; have hfz28_2 := blk_frozen BK262.out 2; have p266 : 0 ≤ ((ji21) : Int) := dz; have q266 : (ji21) < (l0_1.length : Int) := dz; obtain ⟨ad266, e266, hx266_0⟩ := Kd.at_int HR0_1.out (ji21) p266 q266; obtain rfl : ad264 = ad266 := (by injection e266); replace hx266_0 := xz HB hx266_0; replace p266 := eq_true p266; replace q266 := eq_true q266; have p267 : 0 ≤ (x24_2 : Int) := dz; have q267 : x24_2 < (l0_2.length : Int) := dz; obtain ⟨ad267, A267_0, c267_0, e267, hx267_0, hl267_0, hi267_0⟩ := at_LITerm HR0_2.out x24_2 p267 q267; cases e267; replace hx267_0 := xz HB hx267_0; have HR267_0 := Aside0.mk hi267_0; have HC267_0 := Aside0.mk hl267_0; clear hi267_0 hl267_0; replace p267 := eq_true p267; replace q267 := eq_true q267) | (go_at_call 161; (with_reducible refine (impl_kindOf.calls k2 _ _ (rd_LITerm l0_2 x24_2) a1 t268 _ ?side1 HC267_0.out A27.out).mono ?_); (case side1 => repeat (first | exact (Kd.C_below HR267_0.out (bz1 HB GE262)) | (with_reducible refine Kd.C_alloc ?_ _) | (with_reducible refine Kd.C_drewN ?_ _) | (with_reducible refine Kd.C_drew ?_))); rintro e w29 ⟨rfl, hb⟩; replace BK262 := Aside0.mk (blk_below (g := gb262) (o := .cells #[.slice A0_0 l0_0.length c0_0, .slice (some ad264) l0_1.length c0_1, .slice (some ad267) l0_2.length c0_2] 145 (0, 0)) (kz BK262) hb); replace HB := Aside0.mk (below_step (bz1 HB GE262) hb); clear hb))
                go_meet
                case rel => exact ⟨_, ((t268 != 1)), rq, H', ⟨by have := HJ2.out; have := HK2.out; first | omega | exact Nat.le_refl _⟩, ⟨kz BK262⟩, ⟨bz1 HB GE262⟩⟩
               ·
                rw [if_neg c26] at H
                exact absurd H (by simp)
             ·
              rw [if_neg c23] at H
              exact absurd H (by simp)
            ·
             rw [if_neg c22] at H
             exact absurd H (by simp)
           ·
            rw [if_neg c20] at H
            have c20b0 : decide (0 < x24_2) = false := decide_eq_false c20
            clear c20
            (first | rw [c20b0] | (simp only [i64_w, i32_w]; rw [c20b0]) | skip)
            by_cases c30 : x24_2 < (l0_2.length : Int)
            ·
             rw [if_pos c30] at H
             have c30b0 : decide (x24_2 < (l0_2.length : Int)) = true := decide_eq_true c30
             clear c30
             replace H := Option.bind_eq_some_iff.mp H
             obtain ⟨t270, A310, H⟩ := H
             have A31 := Aside0.mk A310
             clear A310
             have H' := Aside0.mk H
             clear H
             go_wp2_with (first | ((with_reducible refine gate_callee (f := 96) rfl ?_); refine goesL_ (some 32) rfl rfl Try.func96 (by kernel_rfl) rfl #[.int .i64 (rd l0_1 x24_2), .int .i64 0, .int .i64 (wrap64 (a1 - 1))] rfl az ?_; (with_reducible refine (impl_in.calls (rd l0_1 x24_2) 0 (wrap64 (a1 - 1)) true _ A18.out).mono ?_); rintro e w' ⟨rfl, ⟨nd, rfl⟩⟩; refine ⟨_, rfl, ?_⟩; have hcz32_0 : wr.cell? ⟨gb262, 0, none⟩ = some (.slice A0_0 l0_0.length c0_0) := (blk_cell BK262.out 0).trans rfl; have hcz32_1 : wr.cell? ⟨gb262, 1, none⟩ = some (.slice (some ad264) l0_1.length c0_1) := (blk_cell BK262.out 1).trans rfl; have hcz32_2 : wr.cell? ⟨gb262, 2, none⟩ = some (.slice A0_2 l0_2.length c0_2) := (blk_cell BK262.out 2).trans rfl; have hfz32_0 := blk_frozen BK262.out 0; have hfz32_1 := blk_frozen BK262.out 1; have hfz32_2 := blk_frozen BK262.out 2; have p269 : 0 ≤ (x24_2 : Int) := dz; have q269 : x24_2 < (l0_2.length : Int) := dz; obtain ⟨ad269, A269_0, c269_0, e269, hx269_0, hl269_0, hi269_0⟩ := at_LITerm HR0_2.out x24_2 p269 q269; cases e269; replace hx269_0 := xz HB hx269_0; have HR269_0 := Aside0.mk hi269_0; have HC269_0 := Aside0.mk hl269_0; clear hi269_0 hl269_0; replace p269 := eq_true p269; replace q269 := eq_true q269) | (go_at_call 161; (with_reducible refine (impl_kindOf.calls k2 _ _ (rd_LITerm l0_2 x24_2) a1 t270 _ ?side1 HC269_0.out A31.out).mono ?_); (case side1 => repeat (first | exact (Kd.C_below HR269_0.out (bz1 HB GE262)) | (with_reducible refine Kd.C_alloc ?_ _) | (with_reducible refine Kd.C_drewN ?_ _) | (with_reducible refine Kd.C_drew ?_))); rintro e w33 ⟨rfl, hb⟩; replace BK262 := Aside0.mk (blk_below (g := gb262) (o := .cells #[.slice A0_0 l0_0.length c0_0, .slice (some ad264) l0_1.length c0_1, .slice (some ad269) l0_2.length c0_2] 145 (0, 0)) (kz BK262) hb); replace HB := Aside0.mk (below_step (bz1 HB GE262) hb); clear hb))
             go_meet
             case rel => exact ⟨_, ((t270 != 1)), rq, H', ⟨by have := HJ2.out; have := HK2.out; first | omega | exact Nat.le_refl _⟩, ⟨kz BK262⟩, ⟨bz1 HB GE262⟩⟩
            ·
             rw [if_neg c30] at H
             exact absurd H (by simp)
          ·
           replace c19 := Bool.eq_false_iff.mpr c19
           subst c19
           rw [if_neg nt_] at H
           have H' := Aside0.mk H
           clear H
           go_wp2_with (first | ((with_reducible refine gate_callee (f := 96) rfl ?_); refine goesL_ (some 32) rfl rfl Try.func96 (by kernel_rfl) rfl #[.int .i64 (rd l0_1 x24_2), .int .i64 0, .int .i64 (wrap64 (a1 - 1))] rfl az ?_; (with_reducible refine (impl_in.calls (rd l0_1 x24_2) 0 (wrap64 (a1 - 1)) false _ A18.out).mono ?_); rintro e w' ⟨rfl, ⟨nd, rfl⟩⟩; refine ⟨_, rfl, ?_⟩))
           go_meet
           case rel => exact ⟨_, (true), rq, H', ⟨by have := HJ2.out; have := HK2.out; first | omega | exact Nat.le_refl _⟩, ⟨kz BK262⟩, ⟨bz1 HB GE262⟩⟩
         case rest =>
          clear HC17
          try clear c1
          try clear c2
          try clear p2
          try clear q2
          try clear hx2
          try clear c3
          try clear c6
          try clear c6b0
          try clear c6b1
          try clear p6
          try clear c9
          try clear c12
          try clear c14
          try clear c14b0
          try clear c15
          try clear c15b0
          try clear c16
          try clear c16b0
          try clear c19
          try clear c20
          try clear c20b0
          try clear c22
          try clear c22b0
          try clear c23
          try clear c23b0
          try clear c24
          try clear c24b0
          try clear c26
          try clear c26b0
          try clear p26
          try clear q26
          try clear hx26
          try clear c30
          try clear c30b0
          try clear hcz10_0
          try clear hcz10_1
          try clear hcz10_2
          try clear hcz13_0
          try clear hcz13_1
          try clear hcz13_2
          try clear hcz25_0
          try clear hcz25_1
          try clear hcz25_2
          try clear hcz28_0
          try clear hcz28_1
          try clear hcz28_2
          try clear hcz32_0
          try clear hcz32_1
          try clear hcz32_2
          try clear hcz7_0
          try clear hcz7_1
          try clear hcz7_2
          try clear hcz9_0
          try clear hcz9_1
          try clear hcz9_2
          try clear hfz10_0
          try clear hfz10_1
          try clear hfz10_2
          try clear hfz13_0
          try clear hfz13_1
          try clear hfz13_2
          try clear hfz25_0
          try clear hfz25_1
          try clear hfz25_2
          try clear hfz28_0
          try clear hfz28_1
          try clear hfz28_2
          try clear hfz32_0
          try clear hfz32_1
          try clear hfz32_2
          try clear hfz7_0
          try clear hfz7_1
          try clear hfz7_2
          try clear hfz9_0
          try clear hfz9_1
          try clear hfz9_2
          try clear hx264_0
          try clear hx266_0
          try clear hx267_0
          try clear hx269_0
          try clear p2
          try clear p264
          try clear p266
          try clear p267
          try clear p269
          try clear q264
          try clear q266
          try clear q267
          try clear q269
          obtain ⟨kq, x57_16, rfl, HA, HJ16, BK262, HB⟩ := hcut
          cases kq with
          | zero => exact absurd HA.out (by simp [impl_ruleOk.j2])
          | succ kj16 =>
           have H := HA.out
           clear HA
           simp only [impl_ruleOk.j2] at H
           by_cases c34 : x57_16 = true
           ·
            subst c34
            rw [if_pos rfl] at H
            obtain rfl := Option.some.inj H
            go_wp2
            go_ret
            exact ⟨rz, bz1 HB GE262⟩
           ·
            replace c34 := Bool.eq_false_iff.mpr c34
            subst c34
            rw [if_neg nt_] at H
            have H' := Aside0.mk H
            clear H
            go_wp2
            go_roundg kj16
            case measure => have := HJ2.out; have := HK2.out; have := HJ16.out; omega
            case rel => exact ⟨(wrap64 (x24_2 + 1)), rq, H', ⟨by have := HJ2.out; have := HK2.out; have := HJ16.out; omega⟩, ⟨kz BK262⟩, ⟨bz1 HB GE262⟩⟩
        ·
         rw [if_neg c16] at H
         exact absurd H (by simp)
       ·
        rw [if_neg c15] at H
        exact absurd H (by simp)
      ·
       rw [if_neg c14] at H
       have c14b0 : decide (x24_2 < (l0_1.length : Int)) = false := decide_eq_false c14
       clear c14
       obtain rfl := Option.some.inj H
       go_wp2
       go_ret
       exact ⟨rz, bz1 HB GE262⟩
end Go.Proofs.Ytndmhmekmkgccaa.PFnExactInRange
end
section
namespace Go.Proofs.Ytndmhmekmkgccaa.PFnExactInRange
open Go.RowKit Go.Proofs.YtndmhmekmkgccaaW.PrintWords Go.Proofs.YtndmhmekmkgccaaW.PrintLast Go.Proofs.YtndmhmekmkgccaaW.PrintMore
attribute [local go_sem] max2_int min2_int max_two min_two max_three min_three max_four min_four   -- for this text's walks alone
set_option linter.unusedVariables false
set_option linter.unusedSimpArgs false
set_option maxHeartbeats 8000000 in
set_option maxRecDepth 100000 in
theorem impl_SystemValid_2.calls (k : Nat) (A0_0 : Option Addr) (c0_0 : Nat) (l0_0 : List (ITerm)) (A0_1 : Option Addr) (c0_1 : Nat) (l0_1 : List Int) (A0_2 : Option Addr) (c0_2 : Nat) (l0_2 : List (List (ITerm))) (gc1 : Nat) (A1_0 : Option Addr) (c1_0 : Nat) (l1_0 : List (IVar)) (A1_1 : Option Addr) (c1_1 : Nat) (l1_1 : List (IRule)) (r : Bool) (w : World) (hr0_0 : Kd.C k107 w A0_0 l0_0.length l0_0) (hc0_0 : l0_0.length ≤ c0_0) (hr0_1 : Kd.C (Kd.int .i64) w A0_1 l0_1.length l0_1) (hc0_1 : l0_1.length ≤ c0_1) (hr0_2 : Kd.C (Kd.slice 107 k107) w A0_2 l0_2.length l0_2) (hc0_2 : l0_2.length ≤ c0_2) (hr1_0 : Kd.C k141 w A1_0 l1_0.length l1_0) (hc1_0 : l1_0.length ≤ c1_0) (hr1_1 : Kd.C k145 w A1_1 l1_1.length l1_1) (hc1_1 : l1_1.length ≤ c1_1) (hk1 : w.heap[gc1]? = some (.cells #[.slice A1_0 l1_0.length c1_0, .slice A1_1 l1_1.length c1_1] 43 (0, 0))) (h : impl_SystemValid_2.f k l0_0 l0_1 l0_2 l1_0 l1_1 = some r) :
  Calls Try.prog 122 #[.agg #[.slice A0_0 l0_0.length c0_0, .slice A0_1 l0_1.length c0_1, .slice A0_2 l0_2.length c0_2], .pointer (some ⟨gc1, 0, none⟩)] w fun e w' => e = .returned (.bool r) ∧ Below w.heap.size w w' := by
 have hu145 := Try.underlying145
 have HR0_0 := Aside0.mk hr0_0
 have HC0_0 := Aside0.mk hc0_0
 clear hr0_0 hc0_0
 have HR0_1 := Aside0.mk hr0_1
 have HC0_1 := Aside0.mk hc0_1
 clear hr0_1 hc0_1
 have HR0_2 := Aside0.mk hr0_2
 have HC0_2 := Aside0.mk hc0_2
 clear hr0_2 hc0_2
 have HR1_0 := Aside0.mk hr1_0
 have HC1_0 := Aside0.mk hc1_0
 clear hr1_0 hc1_0
 have HR1_1 := Aside0.mk hr1_1
 have HC1_1 := Aside0.mk hc1_1
 clear hr1_1 hc1_1
 have BKc1 := Aside0.mk hk1
 clear hk1
 have HB := Aside0.mk (Below.refl w.heap.size w)
 have H : ((impl_ruleOk.f k l0_0 l0_1 l0_2 (l1_0.length : Int)).bind fun t278 => (some (!t278))) = some r := h
 clear h
 replace H := Option.bind_eq_some_iff.mp H
 obtain ⟨t278, A30, H⟩ := H
 have A3 := Aside0.mk A30
 clear A30
 obtain rfl := Option.some.inj H
 go_enter Try.func122, Try.ntmps122
 go_wp2_with (first | ((with_reducible refine gate_dst (N := 2) rfl ?_); refine box_event ?hg (N := 2) ?hd (cs := #[.slice A0_0 l0_0.length c0_0, .slice A0_1 l0_1.length c0_1, .slice A0_2 l0_2.length c0_2]) (t := 145) ?hr ?_; (case hd => rfl); (case hg => rfl); (case hr => first | (go_simp; done) | (go_simp; rfl)); intro gb277 hg w4 hbox hb; have n0_ := Aside0.mk (blk_below (g := gc1) (o := .cells #[.slice A1_0 l1_0.length c1_0, .slice A1_1 l1_1.length c1_1] 43 (0, 0)) (kz BKc1) hb); have n1_ := Aside0.mk (below_step (bz HB) hb); have n2_ := Aside0.mk (hbox); have n3_ := Aside0.mk ((by rw [hg]; exact (below_size (bz HB)) : w.heap.size ≤ gb277)); have n4_ := Aside0.mk ((by rw [hg]; exact (below_size (bz HB)) : w.heap.size ≤ gb277)); have n5_ := Aside0.mk ((by rw [hg]; exact Nat.ne_of_lt (blk_lt (g := gc1) (o := .cells #[.slice A1_0 l1_0.length c1_0, .slice A1_1 l1_1.length c1_1] 43 (0, 0)) (kz BKc1)) : gc1 ≠ gb277)); have n6_ := Aside0.mk ((by rw [hg]; exact Nat.ne_of_gt (blk_lt (g := gc1) (o := .cells #[.slice A1_0 l1_0.length c1_0, .slice A1_1 l1_1.length c1_1] 43 (0, 0)) (kz BKc1)) : gb277 ≠ gc1)); clear BKc1; clear HB; have BKc1 := n0_; have HB := n1_; have BK277 := n2_; have GW277 := n3_; have GE277 := n4_; have NB276_277 := n5_; have NB277_276 := n6_; clear n0_ n1_ n2_ n3_ n4_ n5_ n6_; clear hb hbox hg; have hnb5 := NB277_276.out; have hnc5 := NB276_277.out; have hcz6_0 : w4.cell? ⟨gb277, 0, none⟩ = some (.slice A0_0 l0_0.length c0_0) := (blk_cell BK277.out 0).trans rfl; have hcz6_1 : w4.cell? ⟨gb277, 1, none⟩ = some (.slice A0_1 l0_1.length c0_1) := (blk_cell BK277.out 1).trans rfl; have hcz6_2 : w4.cell? ⟨gb277, 2, none⟩ = some (.slice A0_2 l0_2.length c0_2) := (blk_cell BK277.out 2).trans rfl; have hfz6_0 := blk_frozen BK277.out 0; have hfz6_1 := blk_frozen BK277.out 1; have hfz6_2 := blk_frozen BK277.out 2; have hcz7_0 : w4.cell? ⟨gc1, 0, none⟩ = some (.slice A1_0 l1_0.length c1_0) := (blk_cell BKc1.out 0).trans rfl; have hcz7_1 : w4.cell? ⟨gc1, 1, none⟩ = some (.slice A1_1 l1_1.length c1_1) := (blk_cell BKc1.out 1).trans rfl; have hfz7_0 := blk_frozen BKc1.out 0; have hfz7_1 := blk_frozen BKc1.out 1) | ((with_reducible refine gate_callee (f := 123) rfl ?_); refine goesL_ (some 8) rfl rfl Try.func123 (by kernel_rfl) rfl #[.agg #[.slice A0_0 l0_0.length c0_0, .slice A0_1 l0_1.length c0_1, .slice A0_2 l0_2.length c0_2], .int .i64 (l1_0.length : Int)] rfl az ?_; (with_reducible refine (impl_ruleOk.calls k _ _ l0_0 _ _ l0_1 _ _ l0_2 (l1_0.length : Int) t278 _ ?side1 HC0_0.out ?side3 HC0_1.out ?side5 HC0_2.out A3.out).mono ?_); (case side1 => exact cz HR0_0 HB); (case side3 => exact cz HR0_1 HB); (case side5 => exact cz HR0_2 HB); rintro e w8 ⟨rfl, hb⟩; refine ⟨_, rfl, ?_⟩; replace BKc1 := Aside0.mk (blk_below (g := gc1) (o := .cells #[.slice A1_0 l1_0.length c1_0, .slice A1_1 l1_1.length c1_1] 43 (0, 0)) (kz BKc1) hb); replace BK277 := Aside0.mk (blk_below (g := gb277) (o := .cells #[.slice A0_0 l0_0.length c0_0, .slice A0_1 l0_1.length c0_1, .slice A0_2 l0_2.length c0_2] 145 (0, 0)) (kz BK277) hb); replace HB := Aside0.mk (below_step (bz1 HB GE277) hb); clear hb))
 go_ret
 exact ⟨rz, bz1 HB GE277⟩
end Go.Proofs.Ytndmhmekmkgccaa.PFnExactInRange
end
section
namespace Go.Proofs.Ytndmhmekmkgccaa.PFnExactInRange
open Go.RowKit Go.Proofs.YtndmhmekmkgccaaW.PrintWords Go.Proofs.YtndmhmekmkgccaaW.PrintLast Go.Proofs.YtndmhmekmkgccaaW.PrintMore
attribute [local go_sem] max2_int min2_int max_two min_two max_three min_three max_four min_four   -- for this text's walks alone
set_option linter.unusedVariables false
set_option linter.unusedSimpArgs false
set_option maxHeartbeats 8000000 in
set_option maxRecDepth 100000 in
theorem slices_IndexFunc_at_impl_SystemValid_2.calls (k : Nat) (A0 : Option Addr) (c0 : Nat) (l0 : List (IRule))  (gc2 : Nat) (A2_0 : Option Addr) (c2_0 : Nat) (l2_0 : List (IVar)) (A2_1 : Option Addr) (c2_1 : Nat) (l2_1 : List (IRule)) (r : Int) (w : World) (hr0 : Kd.C k145 w A0 l0.length l0) (hc0 : l0.length ≤ c0) (hr2_0 : Kd.C k141 w A2_0 l2_0.length l2_0) (hc2_0 : l2_0.length ≤ c2_0) (hr2_1 : Kd.C k145 w A2_1 l2_1.length l2_1) (hc2_1 : l2_1.length ≤ c2_1) (hk2 : w.heap[gc2]? = some (.cells #[.slice A2_0 l2_0.length c2_0, .slice A2_1 l2_1.length c2_1] 43 (0, 0))) (h : slices_IndexFunc_at_impl_SystemValid_2.f k l0 l2_0 l2_1 = some r) :
  Calls Try.prog 160 #[.slice A0 l0.length c0, .func (.func 122) #[] #[.pointer (some ⟨gc2, 0, none⟩)]] w fun e w' => e = .returned (.int .i64 r) ∧ Below w.heap.size w w' := by
 have hu145 := Try.underlying145
 have HR0 := Aside0.mk hr0
 have HC0 := Aside0.mk hc0
 clear hr0 hc0
 have HR2_0 := Aside0.mk hr2_0
 have HC2_0 := Aside0.mk hc2_0
 clear hr2_0 hc2_0
 have HR2_1 := Aside0.mk hr2_1
 have HC2_1 := Aside0.mk hc2_1
 clear hr2_1 hc2_1
 have BKc2 := Aside0.mk hk2
 clear hk2
 have HB := Aside0.mk (Below.refl w.heap.size w)
 have H : (slices_IndexFunc_at_impl_SystemValid_2.l0 k l0 (l0.length : Int) 0 l2_0 l2_1) = some r := h
 clear h
 have H' := Aside0.mk H
 clear H
 go_enter Try.func160, Try.ntmps160
 go_wp2
 go_loopg [8] k (fun kq v8 w' => ∃ (x8_1 : Int), v8 = .int .i64 x8_1 ∧ Aside0 (slices_IndexFunc_at_impl_SystemValid_2.l0 kq l0 (l0.length : Int) x8_1 l2_0 l2_1 = some r) ∧ Aside0 (kq ≤ k) ∧ Aside0 (w'.heap[gc2]? = some (.cells #[(.slice A2_0 l2_0.length c2_0), (.slice A2_1 l2_1.length c2_1)] 43 (0, 0))) ∧ Aside0 (Below w.heap.size w w'))
 case atStart => exact ⟨(0), rq, H', ⟨Nat.le_refl _⟩, ⟨kz BKc2⟩, ⟨bz HB⟩⟩
 case round =>
  clear H'
  try clear c2
  try clear p2
  obtain ⟨x8_1, rfl, HA, HK1, BKc2, HB⟩ := hrel
  cases gk with
  | zero => exact absurd HA.out (by simp [slices_IndexFunc_at_impl_SystemValid_2.l0])
  | succ k1 =>
   have H := HA.out
   clear HA
   simp only [slices_IndexFunc_at_impl_SystemValid_2.l0] at H
   by_cases c4 : x8_1 < (l0.length : Int)
   ·
    rw [if_pos c4] at H
    have c4b0 : decide (x8_1 < (l0.length : Int)) = true := decide_eq_true c4
    clear c4
    by_cases c5 : 0 ≤ x8_1
    ·
     rw [if_pos c5] at H
     have c5b0 : decide (0 ≤ x8_1) = true := decide_eq_true c5
     clear c5
     by_cases c6 : x8_1 < (l0.length : Int)
     ·
      rw [if_pos c6] at H
      have c6b0 : decide (x8_1 < (l0.length : Int)) = true := decide_eq_true c6
      clear c6
      replace H := Option.bind_eq_some_iff.mp H
      obtain ⟨t281, A70, H⟩ := H
      have A7 := Aside0.mk A70
      clear A70
      by_cases c8 : t281 = true
      ·
       subst c8
       rw [if_pos rfl] at H
       obtain rfl := Option.some.inj H
       have p280 : 0 ≤ (x8_1 : Int) := dz
       have q280 : x8_1 < (l0.length : Int) := dz
       obtain ⟨ad280, A280_0, c280_0, A280_1, c280_1, A280_2, c280_2, e280, hx280_0, hx280_1, hx280_2, hl280_0, hi280_0, hl280_1, hi280_1, hl280_2, hi280_2⟩ := at_IRule HR0.out x8_1 p280 q280
       cases e280
       replace hx280_0 := xz HB hx280_0
       replace hx280_1 := xz HB hx280_1
       replace hx280_2 := xz HB hx280_2
       have HR280_0 := Aside0.mk hi280_0
       have HC280_0 := Aside0.mk hl280_0
       clear hi280_0 hl280_0
       have HR280_1 := Aside0.mk hi280_1
       have HC280_1 := Aside0.mk hl280_1
       clear hi280_1 hl280_1
       have HR280_2 := Aside0.mk hi280_2
       have HC280_2 := Aside0.mk hl280_2
       clear hi280_2 hl280_2
       replace p280 := eq_true p280
       replace q280 := eq_true q280
       go_wp2_with (first | ((with_reducible refine gate_value (cal := .tmp 11) rfl ?_); refine goesV_ (some 16) rfl rfl Try.func122 (by kernel_rfl) rfl #[.agg #[.slice A280_0 ((rd_IRule l0 x8_1).f0).length c280_0, .slice A280_1 ((rd_IRule l0 x8_1).f1).length c280_1, .slice A280_2 ((rd_IRule l0 x8_1).f2).length c280_2], .pointer (some ⟨gc2, 0, none⟩)] rfl rfl az ?_; (with_reducible refine (impl_SystemValid_2.calls k1 _ _ ((rd_IRule l0 x8_1).f0) _ _ ((rd_IRule l0 x8_1).f1) _ _ ((rd_IRule l0 x8_1).f2) gc2 A2_0 c2_0 l2_0 A2_1 c2_1 l2_1 true _ ?side1 HC280_0.out ?side3 HC280_1.out ?side5 HC280_2.out ?side7 HC2_0.out ?side9 HC2_1.out ?side11 A7.out).mono ?_); (case side1 => exact cz HR280_0 HB); (case side3 => exact cz HR280_1 HB); (case side5 => exact cz HR280_2 HB); (case side7 => exact cz HR2_0 HB); (case side9 => exact cz HR2_1 HB); (case side11 => exact kz BKc2); rintro e w9 ⟨rfl, hb⟩; refine ⟨_, rfl, ?_⟩; replace BKc2 := Aside0.mk (blk_below (g := gc2) (o := .cells #[.slice A2_0 l2_0.length c2_0, .slice A2_1 l2_1.length c2_1] 43 (0, 0)) (kz BKc2) hb); replace HB := Aside0.mk (below_step (bz HB) hb); clear hb))
       go_ret
       exact ⟨rz, bz HB⟩
      ·
       replace c8 := Bool.eq_false_iff.mpr c8
       subst c8
       rw [if_neg nt_] at H
       have H' := Aside0.mk H
       clear H
       have p280 : 0 ≤ (x8_1 : Int) := dz
       have q280 : x8_1 < (l0.length : Int) := dz
       obtain ⟨ad280, A280_0, c280_0, A280_1, c280_1, A280_2, c280_2, e280, hx280_0, hx280_1, hx280_2, hl280_0, hi280_0, hl280_1, hi280_1, hl280_2, hi280_2⟩ := at_IRule HR0.out x8_1 p280 q280
       cases e280
       replace hx280_0 := xz HB hx280_0
       replace hx280_1 := xz HB hx280_1
       replace hx280_2 := xz HB hx280_2
       have HR280_0 := Aside0.mk hi280_0
       have HC280_0 := Aside0.mk hl280_0
       clear hi280_0 hl280_0
       have HR280_1 := Aside0.mk hi280_1
       have HC280_1 := Aside0.mk hl280_1
       clear hi280_1 hl280_1
       have HR280_2 := Aside0.mk hi280_2
       have HC280_2 := Aside0.mk hl280_2
       clear hi280_2 hl280_2
       replace p280 := eq_true p280
       replace q280 := eq_true q280
       go_wp2_with (first | ((with_reducible refine gate_value (cal := .tmp 11) rfl ?_); refine goesV_ (some 16) rfl rfl Try.func122 (by kernel_rfl) rfl #[.agg #[.slice A280_0 ((rd_IRule l0 x8_1).f0).length c280_0, .slice A280_1 ((rd_IRule l0 x8_1).f1).length c280_1, .slice A280_2 ((rd_IRule l0 x8_1).f2).length c280_2], .pointer (some ⟨gc2, 0, none⟩)] rfl rfl az ?_; (with_reducible refine (impl_SystemValid_2.calls k1 _ _ ((rd_IRule l0 x8_1).f0) _ _ ((rd_IRule l0 x8_1).f1) _ _ ((rd_IRule l0 x8_1).f2) gc2 A2_0 c2_0 l2_0 A2_1 c2_1 l2_1 false _ ?side1 HC280_0.out ?side3 HC280_1.out ?side5 HC280_2.out ?side7 HC2_0.out ?side9 HC2_1.out ?side11 A7.out).mono ?_); (case side1 => exact cz HR280_0 HB); (case side3 => exact cz HR280_1 HB); (case side5 => exact cz HR280_2 HB); (case side7 => exact cz HR2_0 HB); (case side9 => exact cz HR2_1 HB); (case side11 => exact kz BKc2); rintro e w10 ⟨rfl, hb⟩; refine ⟨_, rfl, ?_⟩; replace BKc2 := Aside0.mk (blk_below (g := gc2) (o := .cells #[.slice A2_0 l2_0.length c2_0, .slice A2_1 l2_1.length c2_1] 43 (0, 0)) (kz BKc2) hb); replace HB := Aside0.mk (below_step (bz HB) hb); clear hb))
       go_roundg k1
       case measure => have := HK1.out; omega
       case rel => exact ⟨(wrap64 (x8_1 + 1)), rq, H', ⟨by have := HK1.out; omega⟩, ⟨kz BKc2⟩, ⟨bz HB⟩⟩
     ·
      rw [if_neg c6] at H
      exact absurd H (by simp)
    ·
     rw [if_neg c5] at H
     exact absurd H (by simp)
   ·
    rw [if_neg c4] at H
    have c4b0 : decide (x8_1 < (l0.length : Int)) = false := decide_eq_false c4
    clear c4
    obtain rfl := Option.some.inj H
    go_wp2
    go_ret
    exact ⟨rz, bz HB⟩
end Go.Proofs.Ytndmhmekmkgccaa.PFnExactInRange
end
section
namespace Go.Proofs.Ytndmhmekmkgccaa.PFnExactInRange
open Go.RowKit Go.Proofs.YtndmhmekmkgccaaW.PrintWords Go.Proofs.YtndmhmekmkgccaaW.PrintLast Go.Proofs.YtndmhmekmkgccaaW.PrintMore
attribute [local go_sem] max2_int min2_int max_two min_two max_three min_three max_four min_four   -- for this text's walks alone
set_option linter.unusedVariables false
set_option linter.unusedSimpArgs false
set_option maxHeartbeats 8000000 in
set_option maxRecDepth 100000 in
theorem slices_ContainsFunc_at_impl_SystemValid_2.calls (k : Nat) (A0 : Option Addr) (c0 : Nat) (l0 : List (IRule))  (gc2 : Nat) (A2_0 : Option Addr) (c2_0 : Nat) (l2_0 : List (IVar)) (A2_1 : Option Addr) (c2_1 : Nat) (l2_1 : List (IRule)) (r : Bool) (w : World) (hr0 : Kd.C k145 w A0 l0.length l0) (hc0 : l0.length ≤ c0) (hr2_0 : Kd.C k141 w A2_0 l2_0.length l2_0) (hc2_0 : l2_0.length ≤ c2_0) (hr2_1 : Kd.C k145 w A2_1 l2_1.length l2_1) (hc2_1 : l2_1.length ≤ c2_1) (hk2 : w.heap[gc2]? = some (.cells #[.slice A2_0 l2_0.length c2_0, .slice A2_1 l2_1.length c2_1] 43 (0, 0))) (h : slices_ContainsFunc_at_impl_SystemValid_2.f k l0 l2_0 l2_1 = some r) :
  Calls Try.prog 121 #[.slice A0 l0.length c0, .func (.func 122) #[] #[.pointer (some ⟨gc2, 0, none⟩)]] w fun e w' => e = .returned (.bool r) ∧ Below w.heap.size w w' := by
 have HR0 := Aside0.mk hr0
 have HC0 := Aside0.mk hc0
 clear hr0 hc0
 have HR2_0 := Aside0.mk hr2_0
 have HC2_0 := Aside0.mk hc2_0
 clear hr2_0 hc2_0
 have HR2_1 := Aside0.mk hr2_1
 have HC2_1 := Aside0.mk hc2_1
 clear hr2_1 hc2_1
 have BKc2 := Aside0.mk hk2
 clear hk2
 have HB := Aside0.mk (Below.refl w.heap.size w)
 have H : ((slices_IndexFunc_at_impl_SystemValid_2.f k l0 l2_0 l2_1).bind fun t283 => (some (decide (t283 ≥ 0)))) = some r := h
 clear h
 replace H := Option.bind_eq_some_iff.mp H
 obtain ⟨t283, A40, H⟩ := H
 have A4 := Aside0.mk A40
 clear A40
 obtain rfl := Option.some.inj H
 go_enter Try.func121, Try.ntmps121
 go_wp2_with (first | ((with_reducible refine gate_callee (f := 160) rfl ?_); refine goesL_ (some 7) rfl rfl Try.func160 (by kernel_rfl) rfl #[.slice A0 l0.length c0, .func (.func 122) #[] #[.pointer (some ⟨gc2, 0, none⟩)]] rfl az ?_; (with_reducible refine (slices_IndexFunc_at_impl_SystemValid_2.calls k _ _ l0  gc2 A2_0 c2_0 l2_0 A2_1 c2_1 l2_1 t283 _ ?side1 HC0.out ?side3 HC2_0.out ?side5 HC2_1.out ?side7 A4.out).mono ?_); (case side1 => exact cz0 HR0); (case side3 => exact cz0 HR2_0); (case side5 => exact cz0 HR2_1); (case side7 => exact kz BKc2); rintro e w5 ⟨rfl, hb⟩; refine ⟨_, rfl, ?_⟩; replace BKc2 := Aside0.mk (blk_below (g := gc2) (o := .cells #[.slice A2_0 l2_0.length c2_0, .slice A2_1 l2_1.length c2_1] 43 (0, 0)) (kz BKc2) hb); replace HB := Aside0.mk (below_step (bz HB) hb); clear hb))
 go_ret
 exact ⟨rz, bz HB⟩
end Go.Proofs.Ytndmhmekmkgccaa.PFnExactInRange
end
section
namespace Go.Proofs.Ytndmhmekmkgccaa.PFnExactInRange
open Go.RowKit Go.Proofs.YtndmhmekmkgccaaW.PrintWords Go.Proofs.YtndmhmekmkgccaaW.PrintLast Go.Proofs.YtndmhmekmkgccaaW.PrintMore
attribute [local go_sem] max2_int min2_int max_two min_two max_three min_three max_four min_four   -- for this text's walks alone
set_option linter.unusedVariables false
set_option linter.unusedSimpArgs false
set_option maxHeartbeats 8000000 in
set_option maxRecDepth 100000 in
theorem impl_SystemValid.calls (k : Nat) (A0_0 : Option Addr) (c0_0 : Nat) (l0_0 : List (IVar)) (A0_1 : Option Addr) (c0_1 : Nat) (l0_1 : List (IRule)) (r : Bool) (w : World) (hr0_0 : Kd.C k141 w A0_0 l0_0.length l0_0) (hc0_0 : l0_0.length ≤ c0_0) (hr0_1 : Kd.C k145 w A0_1 l0_1.length l0_1) (hc0_1 : l0_1.length ≤ c0_1) (h : impl_SystemValid.f k l0_0 l0_1 = some r) :
  Calls Try.prog 63 #[.agg #[.slice A0_0 l0_0.length c0_0, .slice A0_1 l0_1.length c0_1]] w fun e w' => e = .returned (.bool r) ∧ Below w.heap.size w w' := by
 have hu43 := Try.underlying43
 have HR0_0 := Aside0.mk hr0_0
 have HC0_0 := Aside0.mk hc0_0
 clear hr0_0 hc0_0
 have HR0_1 := Aside0.mk hr0_1
 have HC0_1 := Aside0.mk hc0_1
 clear hr0_1 hc0_1
 have HB := Aside0.mk (Below.refl w.heap.size w)
 have H : ((impl_in.f (l0_0.length : Int) 1 5).bind fun t285 => (if t285 = true then (if (l0_1.length : Int) > 8 then (impl_SystemValid.j0 k true l0_0 l0_1) else ((slices_ContainsFunc_at_impl_SystemValid_1.f k l0_0).bind fun t286 => (if t286 = true then (impl_SystemValid.j0 k true l0_0 l0_1) else ((impl_size.f k l0_0).bind fun t287 => (impl_SystemValid.j0 k (decide (t287 > 400)) l0_0 l0_1))))) else (impl_SystemValid.j0 k true l0_0 l0_1))) = some r := h
 clear h
 have HC2 := Aside0.mk H
 clear H
 go_enter Try.func63, Try.ntmps63
 go_upto_region 1 with (first | ((with_reducible refine gate_dst (N := 1) rfl ?_); (try (refine gate_guard (by rfl) ?_; dsimp only)); refine box_event ?hg (N := 1) ?hd (cs := #[.slice A0_0 l0_0.length c0_0, .slice A0_1 l0_1.length c0_1]) (t := 43) ?hr ?_; (case hd => rfl); (case hg => rfl); (case hr => first | (go_simp; done) | (go_simp; rfl)); intro gb284 hg w3 hbox hb; have n0_ := Aside0.mk (below_step (bz HB) hb); have n1_ := Aside0.mk (hbox); have n2_ := Aside0.mk ((by rw [hg]; exact (below_size (bz HB)) : w.heap.size ≤ gb284)); have n3_ := Aside0.mk ((by rw [hg]; exact (below_size (bz HB)) : w.heap.size ≤ gb284)); clear HB; have HB := n0_; have BK284 := n1_; have GW284 := n2_; have GE284 := n3_; clear n0_ n1_ n2_ n3_; clear hb hbox hg))
 (try simp only [Act.put, sb_, sc0_, sc1_])
 go_cut [24] (fun v24 wc => ∃ (kq : Nat) (x24_1 : Bool), v24 = .bool x24_1 ∧ Aside0 (impl_SystemValid.j0 kq x24_1 l0_0 l0_1 = some r) ∧ Aside0 (kq ≤ k) ∧ Aside0 (wc.heap[gb284]? = some (.cells #[(.slice A0_0 l0_0.length c0_0), (.slice A0_1 l0_1.length c0_1)] 43 (0, 0))) ∧ Aside0 (Below w.heap.size w wc))
 case first =>
  have H := HC2.out
  clear HC2
  replace H := Option.bind_eq_some_iff.mp H
  obtain ⟨t285, A40, H⟩ := H
  have A4 := Aside0.mk A40
  clear A40
  by_cases c5 : t285 = true
  ·
   subst c5
   rw [if_pos rfl] at H
   by_cases c6 : (l0_1.length : Int) > 8
   ·
    rw [if_pos c6] at H
    have c6b0 : decide (8 < (l0_1.length : Int)) = true := decide_eq_true c6
    have c6b1 : decide (8 < l0_1.length) = true := decide_eq_true (by omega)
    clear c6
    (first | rw [c6b0] | (simp only [i64_w, i32_w]; rw [c6b0]) | skip)
    have H' := Aside0.mk H
    clear H
    have hcz7_0 : w3.cell? ⟨gb284, 0, none⟩ = some (.slice A0_0 l0_0.length c0_0) := (blk_cell BK284.out 0).trans rfl
    have hcz7_1 : w3.cell? ⟨gb284, 1, none⟩ = some (.slice A0_1 l0_1.length c0_1) := (blk_cell BK284.out 1).trans rfl
    have hfz7_0 := blk_frozen BK284.out 0
    have hfz7_1 := blk_frozen BK284.out 1
    go_wp2_with (first | ((with_reducible refine gate_callee (f := 96) rfl ?_); refine goesL_ (some 6) rfl rfl Try.func96 (by kernel_rfl) rfl #[.int .i64 (l0_0.length : Int), .int .i64 1, .int .i64 5] rfl az ?_; (with_reducible refine (impl_in.calls (l0_0.length : Int) 1 5 true _ A4.out).mono ?_); rintro e w' ⟨rfl, ⟨nd, rfl⟩⟩; refine ⟨_, rfl, ?_⟩))
    go_meet
    case rel => exact ⟨_, (true), rq, H', ⟨by first | omega | exact Nat.le_refl _⟩, ⟨kz BK284⟩, ⟨bz1 HB GE284⟩⟩
   ·
    rw [if_neg c6] at H
    have c6b0 : decide (8 < (l0_1.length : Int)) = false := decide_eq_false c6
    have c6b1 : decide (8 < l0_1.length) = false := decide_eq_false (by omega)
    clear c6
    (first | rw [c6b0] | (simp only [i64_w, i32_w]; rw [c6b0]) | skip)
    replace H := Option.bind_eq_some_iff.mp H
    obtain ⟨t286, A80, H⟩ := H
    have A8 := Aside0.mk A80
    clear A80
    by_cases c9 : t286 = true
    ·
     subst c9
     rw [if_pos rfl] at H
     have H' := Aside0.mk H
     clear H
     have hcz10_0 : w3.cell? ⟨gb284, 0, none⟩ = some (.slice A0_0 l0_0.length c0_0) := (blk_cell BK284.out 0).trans rfl
     have hcz10_1 : w3.cell? ⟨gb284, 1, none⟩ = some (.slice A0_1 l0_1.length c0_1) := (blk_cell BK284.out 1).trans rfl
     have hfz10_0 := blk_frozen BK284.out 0
     have hfz10_1 := blk_frozen BK284.out 1
     go_wp2_with (first | ((with_reducible refine gate_callee (f := 96) rfl ?_); refine goesL_ (some 6) rfl rfl Try.func96 (by kernel_rfl) rfl #[.int .i64 (l0_0.length : Int), .int .i64 1, .int .i64 5] rfl az ?_; (with_reducible refine (impl_in.calls (l0_0.length : Int) 1 5 true _ A4.out).mono ?_); rintro e w' ⟨rfl, ⟨nd, rfl⟩⟩; refine ⟨_, rfl, ?_⟩) | (go_at_call 118; (with_reducible refine (slices_ContainsFunc_at_impl_SystemValid_1.calls k _ _ l0_0  true _ ?side1 HC0_0.out A8.out).mono ?_); (case side1 => repeat (first | exact (Kd.C_below HR0_0.out (bz1 HB GE284)) | (with_reducible refine Kd.C_alloc ?_ _) | (with_reducible refine Kd.C_drewN ?_ _) | (with_reducible refine Kd.C_drew ?_))); rintro e w11 ⟨rfl, hb⟩; replace BK284 := Aside0.mk (blk_below (g := gb284) (o := .cells #[.slice A0_0 l0_0.length c0_0, .slice A0_1 l0_1.length c0_1] 43 (0, 0)) (kz BK284) hb); replace HB := Aside0.mk (below_step (bz1 HB GE284) hb); clear hb))
     go_meet
     case rel => exact ⟨_, (true), rq, H', ⟨by first | omega | exact Nat.le_refl _⟩, ⟨kz BK284⟩, ⟨bz1 HB GE284⟩⟩
    ·
     replace c9 := Bool.eq_false_iff.mpr c9
     subst c9
     rw [if_neg nt_] at H
     replace H := Option.bind_eq_some_iff.mp H
     obtain ⟨t287, A120, H⟩ := H
     have A12 := Aside0.mk A120
     clear A120
     have H' := Aside0.mk H
     clear H
     have hcz13_0 : w3.cell? ⟨gb284, 0, none⟩ = some (.slice A0_0 l0_0.length c0_0) := (blk_cell BK284.out 0).trans rfl
     have hcz13_1 : w3.cell? ⟨gb284, 1, none⟩ = some (.slice A0_1 l0_1.length c0_1) := (blk_cell BK284.out 1).trans rfl
     have hfz13_0 := blk_frozen BK284.out 0
     have hfz13_1 := blk_frozen BK284.out 1
     go_wp2_with (first | ((with_reducible refine gate_callee (f := 96) rfl ?_); refine goesL_ (some 6) rfl rfl Try.func96 (by kernel_rfl) rfl #[.int .i64 (l0_0.length : Int), .int .i64 1, .int .i64 5] rfl az ?_; (with_reducible refine (impl_in.calls (l0_0.length : Int) 1 5 true _ A4.out).mono ?_); rintro e w' ⟨rfl, ⟨nd, rfl⟩⟩; refine ⟨_, rfl, ?_⟩) | (go_at_call 118; (with_reducible refine (slices_ContainsFunc_at_impl_SystemValid_1.calls k _ _ l0_0  false _ ?side1 ?side2 A8.out).mono ?_); (case side1 => repeat (first | exact (Kd.C_below HR0_0.out (bz1 HB GE284)) | (with_reducible refine Kd.C_alloc ?_ _) | (with_reducible refine Kd.C_drewN ?_ _) | (with_reducible refine Kd.C_drew ?_))); (case side2 => exact HC0_0.out); rintro e w14 ⟨rfl, hb⟩; replace BK284 := Aside0.mk (blk_below (g := gb284) (o := .cells #[.slice A0_0 l0_0.length c0_0, .slice A0_1 l0_1.length c0_1] 43 (0, 0)) (kz BK284) hb); replace HB := Aside0.mk (below_step (bz1 HB GE284) hb); clear hb; have hcz15_0 : w14.cell? ⟨gb284, 0, none⟩ = some (.slice A0_0 l0_0.length c0_0) := (blk_cell BK284.out 0).trans rfl; have hcz15_1 : w14.cell? ⟨gb284, 1, none⟩ = some (.slice A0_1 l0_1.length c0_1) := (blk_cell BK284.out 1).trans rfl; have hfz15_0 := blk_frozen BK284.out 0; have hfz15_1 := blk_frozen BK284.out 1) | (go_at_call 93; (with_reducible refine (impl_size.calls k _ _ l0_0 t287 _ ?side1 ?side2 A12.out).mono ?_); (case side1 => exact cz HR0_0 HB); (case side2 => exact HC0_0.out); rintro e w16 ⟨rfl, hb⟩; replace BK284 := Aside0.mk (blk_below (g := gb284) (o := .cells #[.slice A0_0 l0_0.length c0_0, .slice A0_1 l0_1.length c0_1] 43 (0, 0)) (kz BK284) hb); replace HB := Aside0.mk (below_step (bz1 HB GE284) hb); clear hb))
     go_meet
     case rel => exact ⟨_, (decide (t287 > 400)), rq, H', ⟨by first | omega | exact Nat.le_refl _⟩, ⟨kz BK284⟩, ⟨bz1 HB GE284⟩⟩
  ·
   replace c5 := Bool.eq_false_iff.mpr c5
   subst c5
   rw [if_neg nt_] at H
   have H' := Aside0.mk H
   clear H
   have hcz17_0 : w3.cell? ⟨gb284, 0, none⟩ = some (.slice A0_0 l0_0.length c0_0) := (blk_cell BK284.out 0).trans rfl
   have hcz17_1 : w3.cell? ⟨gb284, 1, none⟩ = some (.slice A0_1 l0_1.length c0_1) := (blk_cell BK284.out 1).trans rfl
   have hfz17_0 := blk_frozen BK284.out 0
   have hfz17_1 := blk_frozen BK284.out 1
   go_wp2_with (first | ((with_reducible refine gate_callee (f := 96) rfl ?_); refine goesL_ (some 6) rfl rfl Try.func96 (by kernel_rfl) rfl #[.int .i64 (l0_0.length : Int), .int .i64 1, .int .i64 5] rfl az ?_; (with_reducible refine (impl_in.calls (l0_0.length : Int) 1 5 false _ A4.out).mono ?_); rintro e w' ⟨rfl, ⟨nd, rfl⟩⟩; refine ⟨_, rfl, ?_⟩))
   go_meet
   case rel => exact ⟨_, (true), rq, H', ⟨by first | omega | exact Nat.le_refl _⟩, ⟨kz BK284⟩, ⟨bz1 HB GE284⟩⟩
 case rest =>
  clear HC2
  try clear p2
  try clear c5
  try clear c6
  try clear c6b0
  try clear c6b1
  try clear c9
  try clear hcz10_0
  try clear hcz10_1
  try clear hcz13_0
  try clear hcz13_1
  try clear hcz15_0
  try clear hcz15_1
  try clear hcz17_0
  try clear hcz17_1
  try clear hcz7_0
  try clear hcz7_1
  try clear hfz10_0
  try clear hfz10_1
  try clear hfz13_0
  try clear hfz13_1
  try clear hfz15_0
  try clear hfz15_1
  try clear hfz17_0
  try clear hfz17_1
  try clear hfz7_0
  try clear hfz7_1
  obtain ⟨kq, x24_1, rfl, HA, HJ1, BK284, HB⟩ := hcut
  cases kq with
  | zero => exact absurd HA.out (by simp [impl_SystemValid.j0])
  | succ kj1 =>
   have H := HA.out
   clear HA
   simp only [impl_SystemValid.j0] at H
   by_cases c18 : x24_1 = true
   ·
    subst c18
    rw [if_pos rfl] at H
    obtain rfl := Option.some.inj H
    go_wp2
    go_ret
    exact ⟨rz, bz1 HB GE284⟩
   ·
    replace c18 := Bool.eq_false_iff.mpr c18
    subst c18
    rw [if_neg nt_] at H
    replace H := Option.bind_eq_some_iff.mp H
    obtain ⟨t288, A190, H⟩ := H
    have A19 := Aside0.mk A190
    clear A190
    obtain rfl := Option.some.inj H
    have hcz20_0 : wc.cell? ⟨gb284, 0, none⟩ = some (.slice A0_0 l0_0.length c0_0) := (blk_cell BK284.out 0).trans rfl
    have hcz20_1 : wc.cell? ⟨gb284, 1, none⟩ = some (.slice A0_1 l0_1.length c0_1) := (blk_cell BK284.out 1).trans rfl
    have hfz20_0 := blk_frozen BK284.out 0
    have hfz20_1 := blk_frozen BK284.out 1
    go_wp2_with (first | ((with_reducible refine gate_callee (f := 121) rfl ?_); refine goesL_ (some 28) rfl rfl Try.func121 (by kernel_rfl) rfl #[.slice A0_1 l0_1.length c0_1, .func (.func 122) #[] #[.pointer (some ⟨gb284, 0, none⟩)]] rfl az ?_; (with_reducible refine (slices_ContainsFunc_at_impl_SystemValid_2.calls kj1 _ _ l0_1  gb284 A0_0 c0_0 l0_0 A0_1 c0_1 l0_1 t288 _ ?side1 HC0_1.out ?side3 HC0_0.out ?side5 HC0_1.out ?side7 A19.out).mono ?_); (case side1 => exact cz HR0_1 HB); (case side3 => exact cz HR0_0 HB); (case side5 => exact cz HR0_1 HB); (case side7 => exact kz BK284); rintro e w21 ⟨rfl, hb⟩; refine ⟨_, rfl, ?_⟩; replace BK284 := Aside0.mk (blk_below (g := gb284) (o := .cells #[.slice A0_0 l0_0.length c0_0, .slice A0_1 l0_1.length c0_1] 43 (0, 0)) (kz BK284) hb); replace HB := Aside0.mk (below_step (bz1 HB GE284) hb); clear hb))
    go_ret
    exact ⟨rz, bz1 HB GE284⟩
end Go.Proofs.Ytndmhmekmkgccaa.PFnExactInRange
end
section
namespace Go.Proofs.Ytndmhmekmkgccaa.PFnExactInRange
open Go.RowKit Go.Proofs.YtndmhmekmkgccaaW.PrintWords Go.Proofs.YtndmhmekmkgccaaW.PrintLast Go.Proofs.YtndmhmekmkgccaaW.PrintMore
attribute [local go_sem] max2_int min2_int max_two min_two max_three min_three max_four min_four   -- for this text's walks alone
set_option linter.unusedVariables false
set_option linter.unusedSimpArgs false
set_option maxHeartbeats 8000000 in
set_option maxRecDepth 100000 in
theorem impl_inRange.calls (k : Nat) (A0_0 : Option Addr) (c0_0 : Nat) (l0_0 : List (IVar)) (A0_1 : Option Addr) (c0_1 : Nat) (l0_1 : List (IRule)) (A1 : Option Addr) (c1 : Nat) (l1 : List Int) (r : Bool) (w : World) (hr0_0 : Kd.C k141 w A0_0 l0_0.length l0_0) (hc0_0 : l0_0.length ≤ c0_0) (hr0_1 : Kd.C k145 w A0_1 l0_1.length l0_1) (hc0_1 : l0_1.length ≤ c0_1) (hr1 : Kd.C (Kd.int .i64) w A1 l1.length l1) (hc1 : l1.length ≤ c1) (h : impl_inRange.f k l0_0 l0_1 l1 = some r) :
  Calls Try.prog 64 #[.agg #[.slice A0_0 l0_0.length c0_0, .slice A0_1 l0_1.length c0_1], .slice A1 l1.length c1] w fun e w' => e = .returned (.bool r) ∧ Below w.heap.size w w' := by
 have hu43 := Try.underlying43
 have hu141 := Try.underlying141
 have HR0_0 := Aside0.mk hr0_0
 have HC0_0 := Aside0.mk hc0_0
 clear hr0_0 hc0_0
 have HR0_1 := Aside0.mk hr0_1
 have HC0_1 := Aside0.mk hc0_1
 clear hr0_1 hc0_1
 have HR1 := Aside0.mk hr1
 have HC1 := Aside0.mk hc1
 clear hr1 hc1
 have HB := Aside0.mk (Below.refl w.heap.size w)
 have H : (if (l1.length : Int) = (l0_0.length : Int) then (impl_inRange.l0 k l1 l0_0 (l0_0.length : Int) 0) else (some false)) = some r := h
 clear h
 by_cases c3 : (l1.length : Int) = (l0_0.length : Int)
 ·
  rw [if_pos c3] at H
  have c3b0 : ((l1.length : Int) == (l0_0.length : Int)) = true := beq_iff_eq.mpr c3
  have c3b1 : ((l1.length : Int) != (l0_0.length : Int)) = false := bne_eq_false_iff_eq.mpr c3
  have c3b2 : (l1.length == l0_0.length) = true := by first | simpa using c3 | (simp at c3 ⊢; omega)
  clear c3
  have H' := Aside0.mk H
  clear H
  go_enter Try.func64, Try.ntmps64
  go_wp2_with (first | ((with_reducible refine gate_dst (N := 2) rfl ?_); refine box_event ?hg (N := 2) ?hd (cs := #[.slice A0_0 l0_0.length c0_0, .slice A0_1 l0_1.length c0_1]) (t := 43) ?hr ?_; (case hd => rfl); (case hg => rfl); (case hr => first | (go_simp; done) | (go_simp; rfl)); intro gb289 hg w4 hbox hb; have n0_ := Aside0.mk (below_step (bz HB) hb); have n1_ := Aside0.mk (hbox); have n2_ := Aside0.mk ((by rw [hg]; exact (below_size (bz HB)) : w.heap.size ≤ gb289)); have n3_ := Aside0.mk ((by rw [hg]; exact (below_size (bz HB)) : w.heap.size ≤ gb289)); clear HB; have HB := n0_; have BK289 := n1_; have GW289 := n2_; have GE289 := n3_; clear n0_ n1_ n2_ n3_; clear hb hbox hg; have hcz5_0 : w4.cell? ⟨gb289, 0, none⟩ = some (.slice A0_0 l0_0.length c0_0) := (blk_cell BK289.out 0).trans rfl; have hcz5_1 : w4.cell? ⟨gb289, 1, none⟩ = some (.slice A0_1 l0_1.length c0_1) := (blk_cell BK289.out 1).trans rfl; have hfz5_0 := blk_frozen BK289.out 0; have hfz5_1 := blk_frozen BK289.out 1))
  repeat (go_quiet (first | ((with_reducible refine gate_dst (N := 2) rfl ?_); refine box_event ?hg (N := 2) ?hd (cs := #[.slice A0_0 l0_0.length c0_0, .slice A0_1 l0_1.length c0_1]) (t := 43) ?hr ?_; (case hd => rfl); (case hg => rfl); (case hr => first | (go_simp; done) | (go_simp; rfl)); intro gb289 hg w4 hbox hb; have n0_ := Aside0.mk (below_step (bz HB) hb); have n1_ := Aside0.mk (hbox); have n2_ := Aside0.mk ((by rw [hg]; exact (below_size (bz HB)) : w.heap.size ≤ gb289)); have n3_ := Aside0.mk ((by rw [hg]; exact (below_size (bz HB)) : w.heap.size ≤ gb289)); clear HB; have HB := n0_; have BK289 := n1_; have GW289 := n2_; have GE289 := n3_; clear n0_ n1_ n2_ n3_; clear hb hbox hg; have hcz5_0 : w4.cell? ⟨gb289, 0, none⟩ = some (.slice A0_0 l0_0.length c0_0) := (blk_cell BK289.out 0).trans rfl; have hcz5_1 : w4.cell? ⟨gb289, 1, none⟩ = some (.slice A0_1 l0_1.length c0_1) := (blk_cell BK289.out 1).trans rfl; have hfz5_0 := blk_frozen BK289.out 0; have hfz5_1 := blk_frozen BK289.out 1)); try go_wp2_with (first | ((with_reducible refine gate_dst (N := 2) rfl ?_); refine box_event ?hg (N := 2) ?hd (cs := #[.slice A0_0 l0_0.length c0_0, .slice A0_1 l0_1.length c0_1]) (t := 43) ?hr ?_; (case hd => rfl); (case hg => rfl); (case hr => first | (go_simp; done) | (go_simp; rfl)); intro gb289 hg w4 hbox hb; have n0_ := Aside0.mk (below_step (bz HB) hb); have n1_ := Aside0.mk (hbox); have n2_ := Aside0.mk ((by rw [hg]; exact (below_size (bz HB)) : w.heap.size ≤ gb289)); have n3_ := Aside0.mk ((by rw [hg]; exact (below_size (bz HB)) : w.heap.size ≤ gb289)); clear HB; have HB := n0_; have BK289 := n1_; have GW289 := n2_; have GE289 := n3_; clear n0_ n1_ n2_ n3_; clear hb hbox hg; have hcz5_0 : w4.cell? ⟨gb289, 0, none⟩ = some (.slice A0_0 l0_0.length c0_0) := (blk_cell BK289.out 0).trans rfl; have hcz5_1 : w4.cell? ⟨gb289, 1, none⟩ = some (.slice A0_1 l0_1.length c0_1) := (blk_cell BK289.out 1).trans rfl; have hfz5_0 := blk_frozen BK289.out 0; have hfz5_1 := blk_frozen BK289.out 1)))
  go_loopg [16] k (fun kq v16 w' => ∃ (x16_1 : Int), v16 = .int .i64 x16_1 ∧ Aside0 (impl_inRange.l0 kq l1 l0_0 (l0_0.length : Int) x16_1 = some r) ∧ Aside0 (kq ≤ k) ∧ Aside0 (w'.heap[gb289]? = some (.cells #[(.slice A0_0 l0_0.length c0_0), (.slice A0_1 l0_1.length c0_1)] 43 (0, 0))) ∧ Aside0 (Below w.heap.size w w'))
  case atStart => exact ⟨(0), rq, H', ⟨Nat.le_refl _⟩, ⟨kz BK289⟩, ⟨bz1 HB GE289⟩⟩
  case round =>
   clear H'
   try clear c1
   try clear p2
   try clear c3
   try clear c3b0
   try clear c3b1
   try clear c3b2
   try clear hcz5_0
   try clear hcz5_1
   try clear hfz5_0
   try clear hfz5_1
   obtain ⟨x16_1, rfl, HA, HK1, BK289, HB⟩ := hrel
   cases gk with
   | zero => exact absurd HA.out (by simp [impl_inRange.l0])
   | succ k1 =>
    have H := HA.out
    clear HA
    simp only [impl_inRange.l0] at H
    by_cases c6 : x16_1 < (l0_0.length : Int)
    ·
     rw [if_pos c6] at H
     have c6b0 : decide (x16_1 < (l0_0.length : Int)) = true := decide_eq_true c6
     clear c6
     by_cases c7 : 0 ≤ x16_1
     ·
      rw [if_pos c7] at H
      have c7b0 : decide (0 ≤ x16_1) = true := decide_eq_true c7
      clear c7
      by_cases c8 : x16_1 < (l0_0.length : Int)
      ·
       rw [if_pos c8] at H
       have c8b0 : decide (x16_1 < (l0_0.length : Int)) = true := decide_eq_true c8
       clear c8
       by_cases c9 : x16_1 < (l1.length : Int)
       ·
        rw [if_pos c9] at H
        have c9b0 : decide (x16_1 < (l1.length : Int)) = true := decide_eq_true c9
        clear c9
        replace H := Option.bind_eq_some_iff.mp H
        obtain ⟨t293, A100, H⟩ := H
        have A10 := Aside0.mk A100
        clear A100
        by_cases c11 : t293 = true
        ·
         subst c11
         rw [if_pos rfl] at H
         have H' := Aside0.mk H
         clear H
         have p290 : 0 ≤ (x16_1 : Int) := dz
         have q290 : x16_1 < (l0_0.length : Int) := dz
         obtain ⟨ad290, e290, hx290_0, hx290_1, hx290_2⟩ := at_IVar HR0_0.out x16_1 p290 q290
         cases e290
         replace hx290_0 := xz HB hx290_0
         replace hx290_1 := xz HB hx290_1
         replace hx290_2 := xz HB hx290_2
         replace p290 := eq_true p290
         replace q290 := eq_true q290
         go_wp2_with (first | ((with_reducible refine gate_dst (N := 6) rfl ?_); refine box_event ?hg (N := 6) ?hd (cs := #[.int .i64 0, .int .i64 0, .int .i64 0]) (t := 141) ?hr ?_; (case hd => rfl); (case hg => rfl); (case hr => first | (go_simp; done) | (go_simp; rfl)); intro gb291 hg w12 hbox hb; have n0_ := Aside0.mk (blk_below (g := gb289) (o := .cells #[.slice (some ad290) l0_0.length c0_0, .slice A0_1 l0_1.length c0_1] 43 (0, 0)) (kz BK289) hb); have n1_ := Aside0.mk (below_step (bz1 HB GE289) hb); have n2_ := Aside0.mk (hbox); have n3_ := Aside0.mk ((by rw [hg]; exact (below_size (bz1 HB GE289)) : w.heap.size ≤ gb291)); have n4_ := Aside0.mk ((by rw [hg]; exact (below_size (bz1 HB GE289)) : w.heap.size ≤ gb291)); have n5_ := Aside0.mk ((by rw [hg]; exact Nat.ne_of_lt (blk_lt (g := gb289) (o := .cells #[.slice (some ad290) l0_0.length c0_0, .slice A0_1 l0_1.length c0_1] 43 (0, 0)) (kz BK289)) : gb289 ≠ gb291)); have n6_ := Aside0.mk ((by rw [hg]; exact Nat.ne_of_gt (blk_lt (g := gb289) (o := .cells #[.slice (some ad290) l0_0.length c0_0, .slice A0_1 l0_1.length c0_1] 43 (0, 0)) (kz BK289)) : gb291 ≠ gb289)); clear BK289; clear HB; have BK289 := n0_; have HB := n1_; have BK291 := n2_; have GW291 := n3_; have GE291 := n4_; have NB289_291 := n5_; have NB291_289 := n6_; clear n0_ n1_ n2_ n3_ n4_ n5_ n6_; clear hb hbox hg; have hnb13 := NB291_289.out; have hnc13 := NB289_291.out; have hcz14_0 : w12.cell? ⟨gb291, 0, none⟩ = some (.int .i64 0) := (blk_cell BK291.out 0).trans rfl; have hcz14_1 : w12.cell? ⟨gb291, 1, none⟩ = some (.int .i64 0) := (blk_cell BK291.out 1).trans rfl; have hcz14_2 : w12.cell? ⟨gb291, 2, none⟩ = some (.int .i64 0) := (blk_cell BK291.out 2).trans rfl; have hfz14_0 := blk_frozen BK291.out 0; have hfz14_1 := blk_frozen BK291.out 1; have hfz14_2 := blk_frozen BK291.out 2; have p292 : 0 ≤ (x16_1 : Int) := dz; have q292 : x16_1 < (l1.length : Int) := dz; obtain ⟨ad292, e292, hx292_0⟩ := Kd.at_int HR1.out x16_1 p292 q292; cases e292; have hn292_0 : ad292.block ≠ gb291 := Nat.ne_of_lt (Nat.lt_of_lt_of_le (by have := World.block_lt_of_cell? _ _ hx292_0; first | rwa [add_block] at this | exact this) GW291.out); have hn292_1 : ad292.block ≠ gb291 := Nat.ne_of_lt (Nat.lt_of_lt_of_le (by have := World.block_lt_of_cell? _ _ hx292_0; first | rwa [add_block] at this | exact this) GW291.out); have hn292_2 : ad292.block ≠ gb291 := Nat.ne_of_lt (Nat.lt_of_lt_of_le (by have := World.block_lt_of_cell? _ _ hx292_0; first | rwa [add_block] at this | exact this) GW291.out); replace hx292_0 := xz HB hx292_0; replace hx292_0 := (cell_far (p := ⟨gb291, 0, none⟩) (by first | (rw [add_block]; exact hn292_0) | (show (Addr.add _ _).block ≠ _; rw [add_block]; exact hn292_0) | exact hn292_0) (.int .i64 ((rd_IVar l0_0 x16_1).f0))).trans hx292_0; replace hx292_0 := (cell_far (p := ⟨gb291, 1, none⟩) (by first | (rw [add_block]; exact hn292_1) | (show (Addr.add _ _).block ≠ _; rw [add_block]; exact hn292_1) | exact hn292_1) (.int .i64 ((rd_IVar l0_0 x16_1).f1))).trans hx292_0; replace hx292_0 := (cell_far (p := ⟨gb291, 2, none⟩) (by first | (rw [add_block]; exact hn292_2) | (show (Addr.add _ _).block ≠ _; rw [add_block]; exact hn292_2) | exact hn292_2) (.int .i64 ((rd_IVar l0_0 x16_1).f2))).trans hx292_0; (try have hy292_0 := fun (n_ : Nat) => (show (((((w12.drewN n_).setCell ⟨gb291, 0, none⟩ (.int .i64 ((rd_IVar l0_0 x16_1).f0))).setCell ⟨gb291, 1, none⟩ (.int .i64 ((rd_IVar l0_0 x16_1).f1))).setCell ⟨gb291, 2, none⟩ (.int .i64 ((rd_IVar l0_0 x16_1).f2)))).cell? _ = some _ from hx292_0)); clear hn292_0; clear hn292_1; clear hn292_2; replace p292 := eq_true p292; replace q292 := eq_true q292) | (go_at_call 96; (with_reducible refine (impl_in.calls (rd l1 x16_1) ((rd_IVar l0_0 x16_1).f0) ((rd_IVar l0_0 x16_1).f1) true _ A10.out).mono ?_); rintro e w' ⟨rfl, ⟨nd, rfl⟩⟩; (try first | exact ⟨rfl, _, World.drewN_drewN _ _ _⟩ | exact ⟨rfl, _, Eq.trans (World.drewN_drewN _ _ _) (congrArg (World.drewN _) (Nat.add_assoc _ _ _))⟩)))
         repeat (go_quiet (first | ((with_reducible refine gate_dst (N := 6) rfl ?_); refine box_event ?hg (N := 6) ?hd (cs := #[.int .i64 0, .int .i64 0, .int .i64 0]) (t := 141) ?hr ?_; (case hd => rfl); (case hg => rfl); (case hr => first | (go_simp; done) | (go_simp; rfl)); intro gb291 hg w12 hbox hb; have n0_ := Aside0.mk (blk_below (g := gb289) (o := .cells #[.slice (some ad290) l0_0.length c0_0, .slice A0_1 l0_1.length c0_1] 43 (0, 0)) (kz BK289) hb); have n1_ := Aside0.mk (below_step (bz1 HB GE289) hb); have n2_ := Aside0.mk (hbox); have n3_ := Aside0.mk ((by rw [hg]; exact (below_size (bz1 HB GE289)) : w.heap.size ≤ gb291)); have n4_ := Aside0.mk ((by rw [hg]; exact (below_size (bz1 HB GE289)) : w.heap.size ≤ gb291)); have n5_ := Aside0.mk ((by rw [hg]; exact Nat.ne_of_lt (blk_lt (g := gb289) (o := .cells #[.slice (some ad290) l0_0.length c0_0, .slice A0_1 l0_1.length c0_1] 43 (0, 0)) (kz BK289)) : gb289 ≠ gb291)); have n6_ := Aside0.mk ((by rw [hg]; exact Nat.ne_of_gt (blk_lt (g := gb289) (o := .cells #[.slice (some ad290) l0_0.length c0_0, .slice A0_1 l0_1.length c0_1] 43 (0, 0)) (kz BK289)) : gb291 ≠ gb289)); clear BK289; clear HB; have BK289 := n0_; have HB := n1_; have BK291 := n2_; have GW291 := n3_; have GE291 := n4_; have NB289_291 := n5_; have NB291_289 := n6_; clear n0_ n1_ n2_ n3_ n4_ n5_ n6_; clear hb hbox hg; have hnb13 := NB291_289.out; have hnc13 := NB289_291.out; have hcz14_0 : w12.cell? ⟨gb291, 0, none⟩ = some (.int .i64 0) := (blk_cell BK291.out 0).trans rfl; have hcz14_1 : w12.cell? ⟨gb291, 1, none⟩ = some (.int .i64 0) := (blk_cell BK291.out 1).trans rfl; have hcz14_2 : w12.cell? ⟨gb291, 2, none⟩ = some (.int .i64 0) := (blk_cell BK291.out 2).trans rfl; have hfz14_0 := blk_frozen BK291.out 0; have hfz14_1 := blk_frozen BK291.out 1; have hfz14_2 := blk_frozen BK291.out 2; have p292 : 0 ≤ (x16_1 : Int) := dz; have q292 : x16_1 < (l1.length : Int) := dz; obtain ⟨ad292, e292, hx292_0⟩ := Kd.at_int HR1.out x16_1 p292 q292; cases e292; have hn292_0 : ad292.block ≠ gb291 := Nat.ne_of_lt (Nat.lt_of_lt_of_le (by have := World.block_lt_of_cell? _ _ hx292_0; first | rwa [add_block] at this | exact this) GW291.out); have hn292_1 : ad292.block ≠ gb291 := Nat.ne_of_lt (Nat.lt_of_lt_of_le (by have := World.block_lt_of_cell? _ _ hx292_0; first | rwa [add_block] at this | exact this) GW291.out); have hn292_2 : ad292.block ≠ gb291 := Nat.ne_of_lt (Nat.lt_of_lt_of_le (by have := World.block_lt_of_cell? _ _ hx292_0; first | rwa [add_block] at this | exact this) GW291.out); replace hx292_0 := xz HB hx292_0; replace hx292_0 := (cell_far (p := ⟨gb291, 0, none⟩) (by first | (rw [add_block]; exact hn292_0) | (show (Addr.add _ _).block ≠ _; rw [add_block]; exact hn292_0) | exact hn292_0) (.int .i64 ((rd_IVar l0_0 x16_1).f0))).trans hx292_0; replace hx292_0 := (cell_far (p := ⟨gb291, 1, none⟩) (by first | (rw [add_block]; exact hn292_1) | (show (Addr.add _ _).block ≠ _; rw [add_block]; exact hn292_1) | exact hn292_1) (.int .i64 ((rd_IVar l0_0 x16_1).f1))).trans hx292_0; replace hx292_0 := (cell_far (p := ⟨gb291, 2, none⟩) (by first | (rw [add_block]; exact hn292_2) | (show (Addr.add _ _).block ≠ _; rw [add_block]; exact hn292_2) | exact hn292_2) (.int .i64 ((rd_IVar l0_0 x16_1).f2))).trans hx292_0; (try have hy292_0 := fun (n_ : Nat) => (show (((((w12.drewN n_).setCell ⟨gb291, 0, none⟩ (.int .i64 ((rd_IVar l0_0 x16_1).f0))).setCell ⟨gb291, 1, none⟩ (.int .i64 ((rd_IVar l0_0 x16_1).f1))).setCell ⟨gb291, 2, none⟩ (.int .i64 ((rd_IVar l0_0 x16_1).f2)))).cell? _ = some _ from hx292_0)); clear hn292_0; clear hn292_1; clear hn292_2; replace p292 := eq_true p292; replace q292 := eq_true q292) | (go_at_call 96; (with_reducible refine (impl_in.calls (rd l1 x16_1) ((rd_IVar l0_0 x16_1).f0) ((rd_IVar l0_0 x16_1).f1) true _ A10.out).mono ?_); rintro e w' ⟨rfl, ⟨nd, rfl⟩⟩; (try first | exact ⟨rfl, _, World.drewN_drewN _ _ _⟩ | exact ⟨rfl, _, Eq.trans (World.drewN_drewN _ _ _) (congrArg (World.drewN _) (Nat.add_assoc _ _ _))⟩))); try go_wp2_with (first | ((with_reducible refine gate_dst (N := 6) rfl ?_); refine box_event ?hg (N := 6) ?hd (cs := #[.int .i64 0, .int .i64 0, .int .i64 0]) (t := 141) ?hr ?_; (case hd => rfl); (case hg => rfl); (case hr => first | (go_simp; done) | (go_simp; rfl)); intro gb291 hg w12 hbox hb; have n0_ := Aside0.mk (blk_below (g := gb289) (o := .cells #[.slice (some ad290) l0_0.length c0_0, .slice A0_1 l0_1.length c0_1] 43 (0, 0)) (kz BK289) hb); have n1_ := Aside0.mk (below_step (bz1 HB GE289) hb); have n2_ := Aside0.mk (hbox); have n3_ := Aside0.mk ((by rw [hg]; exact (below_size (bz1 HB GE289)) : w.heap.size ≤ gb291)); have n4_ := Aside0.mk ((by rw [hg]; exact (below_size (bz1 HB GE289)) : w.heap.size ≤ gb291)); have n5_ := Aside0.mk ((by rw [hg]; exact Nat.ne_of_lt (blk_lt (g := gb289) (o := .cells #[.slice (some ad290) l0_0.length c0_0, .slice A0_1 l0_1.length c0_1] 43 (0, 0)) (kz BK289)) : gb289 ≠ gb291)); have n6_ := Aside0.mk ((by rw [hg]; exact Nat.ne_of_gt (blk_lt (g := gb289) (o := .cells #[.slice (some ad290) l0_0.length c0_0, .slice A0_1 l0_1.length c0_1] 43 (0, 0)) (kz BK289)) : gb291 ≠ gb289)); clear BK289; clear HB; have BK289 := n0_; have HB := n1_; have BK291 := n2_; have GW291 := n3_; have GE291 := n4_; have NB289_291 := n5_; have NB291_289 := n6_; clear n0_ n1_ n2_ n3_ n4_ n5_ n6_; clear hb hbox hg; have hnb13 := NB291_289.out; have hnc13 := NB289_291.out; have hcz14_0 : w12.cell? ⟨gb291, 0, none⟩ = some (.int .i64 0) := (blk_cell BK291.out 0).trans rfl; have hcz14_1 : w12.cell? ⟨gb291, 1, none⟩ = some (.int .i64 0) := (blk_cell BK291.out 1).trans rfl; have hcz14_2 : w12.cell? ⟨gb291, 2, none⟩ = some (.int .i64 0) := (blk_cell BK291.out 2).trans rfl; have hfz14_0 := blk_frozen BK291.out 0; have hfz14_1 := blk_frozen BK291.out 1; have hfz14_2 := blk_frozen BK291.out 2; have p292 : 0 ≤ (x16_1 : Int) := dz; have q292 : x16_1 < (l1.length : Int) := dz; obtain ⟨ad292, e292, hx292_0⟩ := Kd.at_int HR1.out x16_1 p292 q292; cases e292; have hn292_0 : ad292.block ≠ gb291 := Nat.ne_of_lt (Nat.lt_of_lt_of_le (by have := World.block_lt_of_cell? _ _ hx292_0; first | rwa [add_block] at this | exact this) GW291.out); have hn292_1 : ad292.block ≠ gb291 := Nat.ne_of_lt (Nat.lt_of_lt_of_le (by have := World.block_lt_of_cell? _ _ hx292_0; first | rwa [add_block] at this | exact this) GW291.out); have hn292_2 : ad292.block ≠ gb291 := Nat.ne_of_lt (Nat.lt_of_lt_of_le (by have := World.block_lt_of_cell? _ _ hx292_0; first | rwa [add_block] at this | exact this) GW291.out); replace hx292_0 := xz HB hx292_0; replace hx292_0 := (cell_far (p := ⟨gb291, 0, none⟩) (by first | (rw [add_block]; exact hn292_0) | (show (Addr.add _ _).block ≠ _; rw [add_block]; exact hn292_0) | exact hn292_0) (.int .i64 ((rd_IVar l0_0 x16_1).f0))).trans hx292_0; replace hx292_0 := (cell_far (p := ⟨gb291, 1, none⟩) (by first | (rw [add_block]; exact hn292_1) | (show (Addr.add _ _).block ≠ _; rw [add_block]; exact hn292_1) | exact hn292_1) (.int .i64 ((rd_IVar l0_0 x16_1).f1))).trans hx292_0; replace hx292_0 := (cell_far (p := ⟨gb291, 2, none⟩) (by first | (rw [add_block]; exact hn292_2) | (show (Addr.add _ _).block ≠ _; rw [add_block]; exact hn292_2) | exact hn292_2) (.int .i64 ((rd_IVar l0_0 x16_1).f2))).trans hx292_0; (try have hy292_0 := fun (n_ : Nat) => (show (((((w12.drewN n_).setCell ⟨gb291, 0, none⟩ (.int .i64 ((rd_IVar l0_0 x16_1).f0))).setCell ⟨gb291, 1, none⟩ (.int .i64 ((rd_IVar l0_0 x16_1).f1))).setCell ⟨gb291, 2, none⟩ (.int .i64 ((rd_IVar l0_0 x16_1).f2)))).cell? _ = some _ from hx292_0)); clear hn292_0; clear hn292_1; clear hn292_2; replace p292 := eq_true p292; replace q292 := eq_true q292) | (go_at_call 96; (with_reducible refine (impl_in.calls (rd l1 x16_1) ((rd_IVar l0_0 x16_1).f0) ((rd_IVar l0_0 x16_1).f1) true _ A10.out).mono ?_); rintro e w' ⟨rfl, ⟨nd, rfl⟩⟩; (try first | exact ⟨rfl, _, World.drewN_drewN _ _ _⟩ | exact ⟨rfl, _, Eq.trans (World.drewN_drewN _ _ _) (congrArg (World.drewN _) (Nat.add_assoc _ _ _))⟩))))
         go_roundg k1
         case measure => have := HK1.out; omega
         case rel => exact ⟨(wrap64 (x16_1 + 1)), rq, H', ⟨by have := HK1.out; omega⟩, ⟨by (with_reducible repeat (first | refine blk_drewN ?_ _ | refine blk_drew ?_ | refine blk_alloc ?_ _)); refine blk_far ?_ NB289_291.out _; (with_reducible repeat (first | refine blk_drewN ?_ _ | refine blk_drew ?_ | refine blk_alloc ?_ _)); refine blk_far ?_ NB289_291.out _; (with_reducible repeat (first | refine blk_drewN ?_ _ | refine blk_drew ?_ | refine blk_alloc ?_ _)); refine blk_far ?_ NB289_291.out _; exact kz BK289⟩, ⟨bz2 HB GE289 GE291⟩⟩
        ·
         replace c11 := Bool.eq_false_iff.mpr c11
         subst c11
         rw [if_neg nt_] at H
         obtain rfl := Option.some.inj H
         have p290 : 0 ≤ (x16_1 : Int) := dz
         have q290 : x16_1 < (l0_0.length : Int) := dz
         obtain ⟨ad290, e290, hx290_0, hx290_1, hx290_2⟩ := at_IVar HR0_0.out x16_1 p290 q290
         cases e290
         replace hx290_0 := xz HB hx290_0
         replace hx290_1 := xz HB hx290_1
         replace hx290_2 := xz HB hx290_2
         replace p290 := eq_true p290
         replace q290 := eq_true q290
         go_wp2_with (first | ((with_reducible refine gate_dst (N := 6) rfl ?_); refine box_event ?hg (N := 6) ?hd (cs := #[.int .i64 0, .int .i64 0, .int .i64 0]) (t := 141) ?hr ?_; (case hd => rfl); (case hg => rfl); (case hr => first | (go_simp; done) | (go_simp; rfl)); intro gb291 hg w15 hbox hb; have n0_ := Aside0.mk (blk_below (g := gb289) (o := .cells #[.slice (some ad290) l0_0.length c0_0, .slice A0_1 l0_1.length c0_1] 43 (0, 0)) (kz BK289) hb); have n1_ := Aside0.mk (below_step (bz1 HB GE289) hb); have n2_ := Aside0.mk (hbox); have n3_ := Aside0.mk ((by rw [hg]; exact (below_size (bz1 HB GE289)) : w.heap.size ≤ gb291)); have n4_ := Aside0.mk ((by rw [hg]; exact (below_size (bz1 HB GE289)) : w.heap.size ≤ gb291)); have n5_ := Aside0.mk ((by rw [hg]; exact Nat.ne_of_lt (blk_lt (g := gb289) (o := .cells #[.slice (some ad290) l0_0.length c0_0, .slice A0_1 l0_1.length c0_1] 43 (0, 0)) (kz BK289)) : gb289 ≠ gb291)); have n6_ := Aside0.mk ((by rw [hg]; exact Nat.ne_of_gt (blk_lt (g := gb289) (o := .cells #[.slice (some ad290) l0_0.length c0_0, .slice A0_1 l0_1.length c0_1] 43 (0, 0)) (kz BK289)) : gb291 ≠ gb289)); clear BK289; clear HB; have BK289 := n0_; have HB := n1_; have BK291 := n2_; have GW291 := n3_; have GE291 := n4_; have NB289_291 := n5_; have NB291_289 := n6_; clear n0_ n1_ n2_ n3_ n4_ n5_ n6_; clear hb hbox hg; have hnb16 := NB291_289.out; have hnc16 := NB289_291.out; have hcz17_0 : w15.cell? ⟨gb291, 0, none⟩ = some (.int .i64 0) := (blk_cell BK291.out 0).trans rfl; have hcz17_1 : w15.cell? ⟨gb291, 1, none⟩ = some (.int .i64 0) := (blk_cell BK291.out 1).trans rfl; have hcz17_2 : w15.cell? ⟨gb291, 2, none⟩ = some (.int .i64 0) := (blk_cell BK291.out 2).trans rfl; have hfz17_0 := blk_frozen BK291.out 0; have hfz17_1 := blk_frozen BK291.out 1; have hfz17_2 := blk_frozen BK291.out 2; have p292 : 0 ≤ (x16_1 : Int) := dz; have q292 : x16_1 < (l1.length : Int) := dz; obtain ⟨ad292, e292, hx292_0⟩ := Kd.at_int HR1.out x16_1 p292 q292; cases e292; have hn292_0 : ad292.block ≠ gb291 := Nat.ne_of_lt (Nat.lt_of_lt_of_le (by have := World.block_lt_of_cell? _ _ hx292_0; first | rwa [add_block] at this | exact this) GW291.out); have hn292_1 : ad292.block ≠ gb291 := Nat.ne_of_lt (Nat.lt_of_lt_of_le (by have := World.block_lt_of_cell? _ _ hx292_0; first | rwa [add_block] at this | exact this) GW291.out); have hn292_2 : ad292.block ≠ gb291 := Nat.ne_of_lt (Nat.lt_of_lt_of_le (by have := World.block_lt_of_cell? _ _ hx292_0; first | rwa [add_block] at this | exact this) GW291.out); replace hx292_0 := xz HB hx292_0; replace hx292_0 := (cell_far (p := ⟨gb291, 0, none⟩) (by first | (rw [add_block]; exact hn292_0) | (show (Addr.add _ _).block ≠ _; rw [add_block]; exact hn292_0) | exact hn292_0) (.int .i64 ((rd_IVar l0_0 x16_1).f0))).trans hx292_0; replace hx292_0 := (cell_far (p := ⟨gb291, 1, none⟩) (by first | (rw [add_block]; exact hn292_1) | (show (Addr.add _ _).block ≠ _; rw [add_block]; exact hn292_1) | exact hn292_1) (.int .i64 ((rd_IVar l0_0 x16_1).f1))).trans hx292_0; replace hx292_0 := (cell_far (p := ⟨gb291, 2, none⟩) (by first | (rw [add_block]; exact hn292_2) | (show (Addr.add _ _).block ≠ _; rw [add_block]; exact hn292_2) | exact hn292_2) (.int .i64 ((rd_IVar l0_0 x16_1).f2))).trans hx292_0; (try have hy292_0 := fun (n_ : Nat) => (show (((((w15.drewN n_).setCell ⟨gb291, 0, none⟩ (.int .i64 ((rd_IVar l0_0 x16_1).f0))).setCell ⟨gb291, 1, none⟩ (.int .i64 ((rd_IVar l0_0 x16_1).f1))).setCell ⟨gb291, 2, none⟩ (.int .i64 ((rd_IVar l0_0 x16_1).f2)))).cell? _ = some _ from hx292_0)); clear hn292_0; clear hn292_1; clear hn292_2; replace p292 := eq_true p292; replace q292 := eq_true q292) | (go_at_call 96; (with_reducible refine (impl_in.calls (rd l1 x16_1) ((rd_IVar l0_0 x16_1).f0) ((rd_IVar l0_0 x16_1).f1) false _ A10.out).mono ?_); rintro e w' ⟨rfl, ⟨nd, rfl⟩⟩; (try first | exact ⟨rfl, _, World.drewN_drewN _ _ _⟩ | exact ⟨rfl, _, Eq.trans (World.drewN_drewN _ _ _) (congrArg (World.drewN _) (Nat.add_assoc _ _ _))⟩)))
         repeat (go_quiet (first | ((with_reducible refine gate_dst (N := 6) rfl ?_); refine box_event ?hg (N := 6) ?hd (cs := #[.int .i64 0, .int .i64 0, .int .i64 0]) (t := 141) ?hr ?_; (case hd => rfl); (case hg => rfl); (case hr => first | (go_simp; done) | (go_simp; rfl)); intro gb291 hg w15 hbox hb; have n0_ := Aside0.mk (blk_below (g := gb289) (o := .cells #[.slice (some ad290) l0_0.length c0_0, .slice A0_1 l0_1.length c0_1] 43 (0, 0)) (kz BK289) hb); have n1_ := Aside0.mk (below_step (bz1 HB GE289) hb); have n2_ := Aside0.mk (hbox); have n3_ := Aside0.mk ((by rw [hg]; exact (below_size (bz1 HB GE289)) : w.heap.size ≤ gb291)); have n4_ := Aside0.mk ((by rw [hg]; exact (below_size (bz1 HB GE289)) : w.heap.size ≤ gb291)); have n5_ := Aside0.mk ((by rw [hg]; exact Nat.ne_of_lt (blk_lt (g := gb289) (o := .cells #[.slice (some ad290) l0_0.length c0_0, .slice A0_1 l0_1.length c0_1] 43 (0, 0)) (kz BK289)) : gb289 ≠ gb291)); have n6_ := Aside0.mk ((by rw [hg]; exact Nat.ne_of_gt (blk_lt (g := gb289) (o := .cells #[.slice (some ad290) l0_0.length c0_0, .slice A0_1 l0_1.length c0_1] 43 (0, 0)) (kz BK289)) : gb291 ≠ gb289)); clear BK289; clear HB; have BK289 := n0_; have HB := n1_; have BK291 := n2_; have GW291 := n3_; have GE291 := n4_; have NB289_291 := n5_; have NB291_289 := n6_; clear n0_ n1_ n2_ n3_ n4_ n5_ n6_; clear hb hbox hg; have hnb16 := NB291_289.out; have hnc16 := NB289_291.out; have hcz17_0 : w15.cell? ⟨gb291, 0, none⟩ = some (.int .i64 0) := (blk_cell BK291.out 0).trans rfl; have hcz17_1 : w15.cell? ⟨gb291, 1, none⟩ = some (.int .i64 0) := (blk_cell BK291.out 1).trans rfl; have hcz17_2 : w15.cell? ⟨gb291, 2, none⟩ = some (.int .i64 0) := (blk_cell BK291.out 2).trans rfl; have hfz17_0 := blk_frozen BK291.out 0; have hfz17_1 := blk_frozen BK291.out 1; have hfz17_2 := blk_frozen BK291.out 2; have p292 : 0 ≤ (x16_1 : Int) := dz; have q292 : x16_1 < (l1.length : Int) := dz; obtain ⟨ad292, e292, hx292_0⟩ := Kd.at_int HR1.out x16_1 p292 q292; cases e292; have hn292_0 : ad292.block ≠ gb291 := Nat.ne_of_lt (Nat.lt_of_lt_of_le (by have := World.block_lt_of_cell? _ _ hx292_0; first | rwa [add_block] at this | exact this) GW291.out); have hn292_1 : ad292.block ≠ gb291 := Nat.ne_of_lt (Nat.lt_of_lt_of_le (by have := World.block_lt_of_cell? _ _ hx292_0; first | rwa [add_block] at this | exact this) GW291.out); have hn292_2 : ad292.block ≠ gb291 := Nat.ne_of_lt (Nat.lt_of_lt_of_le (by have := World.block_lt_of_cell? _ _ hx292_0; first | rwa [add_block] at this | exact this) GW291.out); replace hx292_0 := xz HB hx292_0; replace hx292_0 := (cell_far (p := ⟨gb291, 0, none⟩) (by first | (rw [add_block]; exact hn292_0) | (show (Addr.add _ _).block ≠ _; rw [add_block]; exact hn292_0) | exact hn292_0) (.int .i64 ((rd_IVar l0_0 x16_1).f0))).trans hx292_0; replace hx292_0 := (cell_far (p := ⟨gb291, 1, none⟩) (by first | (rw [add_block]; exact hn292_1) | (show (Addr.add _ _).block ≠ _; rw [add_block]; exact hn292_1) | exact hn292_1) (.int .i64 ((rd_IVar l0_0 x16_1).f1))).trans hx292_0; replace hx292_0 := (cell_far (p := ⟨gb291, 2, none⟩) (by first | (rw [add_block]; exact hn292_2) | (show (Addr.add _ _).block ≠ _; rw [add_block]; exact hn292_2) | exact hn292_2) (.int .i64 ((rd_IVar l0_0 x16_1).f2))).trans hx292_0; (try have hy292_0 := fun (n_ : Nat) => (show (((((w15.drewN n_).setCell ⟨gb291, 0, none⟩ (.int .i64 ((rd_IVar l0_0 x16_1).f0))).setCell ⟨gb291, 1, none⟩ (.int .i64 ((rd_IVar l0_0 x16_1).f1))).setCell ⟨gb291, 2, none⟩ (.int .i64 ((rd_IVar l0_0 x16_1).f2)))).cell? _ = some _ from hx292_0)); clear hn292_0; clear hn292_1; clear hn292_2; replace p292 := eq_true p292; replace q292 := eq_true q292) | (go_at_call 96; (with_reducible refine (impl_in.calls (rd l1 x16_1) ((rd_IVar l0_0 x16_1).f0) ((rd_IVar l0_0 x16_1).f1) false _ A10.out).mono ?_); rintro e w' ⟨rfl, ⟨nd, rfl⟩⟩; (try first | exact ⟨rfl, _, World.drewN_drewN _ _ _⟩ | exact ⟨rfl, _, Eq.trans (World.drewN_drewN _ _ _) (congrArg (World.drewN _) (Nat.add_assoc _ _ _))⟩))); try go_wp2_with (first | ((with_reducible refine gate_dst (N := 6) rfl ?_); refine box_event ?hg (N := 6) ?hd (cs := #[.int .i64 0, .int .i64 0, .int .i64 0]) (t := 141) ?hr ?_; (case hd => rfl); (case hg => rfl); (case hr => first | (go_simp; done) | (go_simp; rfl)); intro gb291 hg w15 hbox hb; have n0_ := Aside0.mk (blk_below (g := gb289) (o := .cells #[.slice (some ad290) l0_0.length c0_0, .slice A0_1 l0_1.length c0_1] 43 (0, 0)) (kz BK289) hb); have n1_ := Aside0.mk (below_step (bz1 HB GE289) hb); have n2_ := Aside0.mk (hbox); have n3_ := Aside0.mk ((by rw [hg]; exact (below_size (bz1 HB GE289)) : w.heap.size ≤ gb291)); have n4_ := Aside0.mk ((by rw [hg]; exact (below_size (bz1 HB GE289)) : w.heap.size ≤ gb291)); have n5_ := Aside0.mk ((by rw [hg]; exact Nat.ne_of_lt (blk_lt (g := gb289) (o := .cells #[.slice (some ad290) l0_0.length c0_0, .slice A0_1 l0_1.length c0_1] 43 (0, 0)) (kz BK289)) : gb289 ≠ gb291)); have n6_ := Aside0.mk ((by rw [hg]; exact Nat.ne_of_gt (blk_lt (g := gb289) (o := .cells #[.slice (some ad290) l0_0.length c0_0, .slice A0_1 l0_1.length c0_1] 43 (0, 0)) (kz BK289)) : gb291 ≠ gb289)); clear BK289; clear HB; have BK289 := n0_; have HB := n1_; have BK291 := n2_; have GW291 := n3_; have GE291 := n4_; have NB289_291 := n5_; have NB291_289 := n6_; clear n0_ n1_ n2_ n3_ n4_ n5_ n6_; clear hb hbox hg; have hnb16 := NB291_289.out; have hnc16 := NB289_291.out; have hcz17_0 : w15.cell? ⟨gb291, 0, none⟩ = some (.int .i64 0) := (blk_cell BK291.out 0).trans rfl; have hcz17_1 : w15.cell? ⟨gb291, 1, none⟩ = some (.int .i64 0) := (blk_cell BK291.out 1).trans rfl; have hcz17_2 : w15.cell? ⟨gb291, 2, none⟩ = some (.int .i64 0) := (blk_cell BK291.out 2).trans rfl; have hfz17_0 := blk_frozen BK291.out 0; have hfz17_1 := blk_frozen BK291.out 1; have hfz17_2 := blk_frozen BK291.out 2; have p292 : 0 ≤ (x16_1 : Int) := dz; have q292 : x16_1 < (l1.length : Int) := dz; obtain ⟨ad292, e292, hx292_0⟩ := Kd.at_int HR1.out x16_1 p292 q292; cases e292; have hn292_0 : ad292.block ≠ gb291 := Nat.ne_of_lt (Nat.lt_of_lt_of_le (by have := World.block_lt_of_cell? _ _ hx292_0; first | rwa [add_block] at this | exact this) GW291.out); have hn292_1 : ad292.block ≠ gb291 := Nat.ne_of_lt (Nat.lt_of_lt_of_le (by have := World.block_lt_of_cell? _ _ hx292_0; first | rwa [add_block] at this | exact this) GW291.out); have hn292_2 : ad292.block ≠ gb291 := Nat.ne_of_lt (Nat.lt_of_lt_of_le (by have := World.block_lt_of_cell? _ _ hx292_0; first | rwa [add_block] at this | exact this) GW291.out); replace hx292_0 := xz HB hx292_0; replace hx292_0 := (cell_far (p := ⟨gb291, 0, none⟩) (by first | (rw [add_block]; exact hn292_0) | (show (Addr.add _ _).block ≠ _; rw [add_block]; exact hn292_0) | exact hn292_0) (.int .i64 ((rd_IVar l0_0 x16_1).f0))).trans hx292_0; replace hx292_0 := (cell_far (p := ⟨gb291, 1, none⟩) (by first | (rw [add_block]; exact hn292_1) | (show (Addr.add _ _).block ≠ _; rw [add_block]; exact hn292_1) | exact hn292_1) (.int .i64 ((rd_IVar l0_0 x16_1).f1))).trans hx292_0; replace hx292_0 := (cell_far (p := ⟨gb291, 2, none⟩) (by first | (rw [add_block]; exact hn292_2) | (show (Addr.add _ _).block ≠ _; rw [add_block]; exact hn292_2) | exact hn292_2) (.int .i64 ((rd_IVar l0_0 x16_1).f2))).trans hx292_0; (try have hy292_0 := fun (n_ : Nat) => (show (((((w15.drewN n_).setCell ⟨gb291, 0, none⟩ (.int .i64 ((rd_IVar l0_0 x16_1).f0))).setCell ⟨gb291, 1, none⟩ (.int .i64 ((rd_IVar l0_0 x16_1).f1))).setCell ⟨gb291, 2, none⟩ (.int .i64 ((rd_IVar l0_0 x16_1).f2)))).cell? _ = some _ from hx292_0)); clear hn292_0; clear hn292_1; clear hn292_2; replace p292 := eq_true p292; replace q292 := eq_true q292) | (go_at_call 96; (with_reducible refine (impl_in.calls (rd l1 x16_1) ((rd_IVar l0_0 x16_1).f0) ((rd_IVar l0_0 x16_1).f1) false _ A10.out).mono ?_); rintro e w' ⟨rfl, ⟨nd, rfl⟩⟩; (try first | exact ⟨rfl, _, World.drewN_drewN _ _ _⟩ | exact ⟨rfl, _, Eq.trans (World.drewN_drewN _ _ _) (congrArg (World.drewN _) (Nat.add_assoc _ _ _))⟩))))
         go_ret
         exact ⟨rz, bz2 HB GE289 GE291⟩
       ·
        rw [if_neg c9] at H
        exact absurd H (by simp)
      ·
       rw [if_neg c8] at H
       exact absurd H (by simp)
     ·
      rw [if_neg c7] at H
      exact absurd H (by simp)
    ·
     rw [if_neg c6] at H
     have c6b0 : decide (x16_1 < (l0_0.length : Int)) = false := decide_eq_false c6
     clear c6
     obtain rfl := Option.some.inj H
     go_wp2
     repeat (go_quiet (fail); try go_wp2)
     go_ret
     exact ⟨rz, bz1 HB GE289⟩
 ·
  rw [if_neg c3] at H
  have c3b0 : ((l1.length : Int) == (l0_0.length : Int)) = false := beq_eq_false_iff_ne.mpr c3
  have c3b1 : ((l1.length : Int) != (l0_0.length : Int)) = true := bne_iff_ne.mpr c3
  have c3b2 : (l1.length == l0_0.length) = false := by first | simpa using c3 | (simp at c3 ⊢; omega)
  obtain rfl := Option.some.inj H
  go_enter Try.func64, Try.ntmps64
  go_wp2_with (first | ((with_reducible refine gate_dst (N := 2) rfl ?_); refine box_event ?hg (N := 2) ?hd (cs := #[.slice A0_0 l0_0.length c0_0, .slice A0_1 l0_1.length c0_1]) (t := 43) ?hr ?_; (case hd => rfl); (case hg => rfl); (case hr => first | (go_simp; done) | (go_simp; rfl)); intro gb289 hg w18 hbox hb; have n0_ := Aside0.mk (below_step (bz HB) hb); have n1_ := Aside0.mk (hbox); have n2_ := Aside0.mk ((by rw [hg]; exact (below_size (bz HB)) : w.heap.size ≤ gb289)); have n3_ := Aside0.mk ((by rw [hg]; exact (below_size (bz HB)) : w.heap.size ≤ gb289)); clear HB; have HB := n0_; have BK289 := n1_; have GW289 := n2_; have GE289 := n3_; clear n0_ n1_ n2_ n3_; clear hb hbox hg; have hcz19_0 : w18.cell? ⟨gb289, 0, none⟩ = some (.slice A0_0 l0_0.length c0_0) := (blk_cell BK289.out 0).trans rfl; have hcz19_1 : w18.cell? ⟨gb289, 1, none⟩ = some (.slice A0_1 l0_1.length c0_1) := (blk_cell BK289.out 1).trans rfl; have hfz19_0 := blk_frozen BK289.out 0; have hfz19_1 := blk_frozen BK289.out 1))
  repeat (go_quiet (first | ((with_reducible refine gate_dst (N := 2) rfl ?_); refine box_event ?hg (N := 2) ?hd (cs := #[.slice A0_0 l0_0.length c0_0, .slice A0_1 l0_1.length c0_1]) (t := 43) ?hr ?_; (case hd => rfl); (case hg => rfl); (case hr => first | (go_simp; done) | (go_simp; rfl)); intro gb289 hg w18 hbox hb; have n0_ := Aside0.mk (below_step (bz HB) hb); have n1_ := Aside0.mk (hbox); have n2_ := Aside0.mk ((by rw [hg]; exact (below_size (bz HB)) : w.heap.size ≤ gb289)); have n3_ := Aside0.mk ((by rw [hg]; exact (below_size (bz HB)) : w.heap.size ≤ gb289)); clear HB; have HB := n0_; have BK289 := n1_; have GW289 := n2_; have GE289 := n3_; clear n0_ n1_ n2_ n3_; clear hb hbox hg; have hcz19_0 : w18.cell? ⟨gb289, 0, none⟩ = some (.slice A0_0 l0_0.length c0_0) := (blk_cell BK289.out 0).trans rfl; have hcz19_1 : w18.cell? ⟨gb289, 1, none⟩ = some (.slice A0_1 l0_1.length c0_1) := (blk_cell BK289.out 1).trans rfl; have hfz19_0 := blk_frozen BK289.out 0; have hfz19_1 := blk_frozen BK289.out 1)); try go_wp2_with (first | ((with_reducible refine gate_dst (N := 2) rfl ?_); refine box_event ?hg (N := 2) ?hd (cs := #[.slice A0_0 l0_0.length c0_0, .slice A0_1 l0_1.length c0_1]) (t := 43) ?hr ?_; (case hd => rfl); (case hg => rfl); (case hr => first | (go_simp; done) | (go_simp; rfl)); intro gb289 hg w18 hbox hb; have n0_ := Aside0.mk (below_step (bz HB) hb); have n1_ := Aside0.mk (hbox); have n2_ := Aside0.mk ((by rw [hg]; exact (below_size (bz HB)) : w.heap.size ≤ gb289)); have n3_ := Aside0.mk ((by rw [hg]; exact (below_size (bz HB)) : w.heap.size ≤ gb289)); clear HB; have HB := n0_; have BK289 := n1_; have GW289 := n2_; have GE289 := n3_; clear n0_ n1_ n2_ n3_; clear hb hbox hg; have hcz19_0 : w18.cell? ⟨gb289, 0, none⟩ = some (.slice A0_0 l0_0.length c0_0) := (blk_cell BK289.out 0).trans rfl; have hcz19_1 : w18.cell? ⟨gb289, 1, none⟩ = some (.slice A0_1 l0_1.length c0_1) := (blk_cell BK289.out 1).trans rfl; have hfz19_0 := blk_frozen BK289.out 0; have hfz19_1 := blk_frozen BK289.out 1)))
  go_ret
  exact ⟨rz, bz1 HB GE289⟩
end Go.Proofs.Ytndmhmekmkgccaa.PFnExactInRange
end
section
namespace Go.Proofs.Ytndmhmekmkgccaa.PFnExactInRange
open Go.RowKit Go.Proofs.YtndmhmekmkgccaaW.PrintWords Go.Proofs.YtndmhmekmkgccaaW.PrintLast Go.Proofs.YtndmhmekmkgccaaW.PrintMore
attribute [local go_sem] max2_int min2_int max_two min_two max_three min_three max_four min_four   -- for this text's walks alone
set_option linter.unusedVariables false
set_option linter.unusedSimpArgs false
set_option maxHeartbeats 8000000 in
set_option maxRecDepth 100000 in
theorem impl_InRange.calls (k : Nat) (A0_0 : Option Addr) (c0_0 : Nat) (l0_0 : List (IVar)) (A0_1 : Option Addr) (c0_1 : Nat) (l0_1 : List (IRule)) (A1 : Option Addr) (c1 : Nat) (l1 : List Int) (r : Bool) (w : World) (hr0_0 : Kd.C k141 w A0_0 l0_0.length l0_0) (hc0_0 : l0_0.length ≤ c0_0) (hr0_1 : Kd.C k145 w A0_1 l0_1.length l0_1) (hc0_1 : l0_1.length ≤ c0_1) (hr1 : Kd.C (Kd.int .i64) w A1 l1.length l1) (hc1 : l1.length ≤ c1) (h : impl_InRange.f k l0_0 l0_1 l1 = some r) :
  Calls Try.prog 19 #[.agg #[.slice A0_0 l0_0.length c0_0, .slice A0_1 l0_1.length c0_1], .slice A1 l1.length c1] w fun e w' => e = .returned (.bool r) ∧ Below w.heap.size w w' := by
 have hu43 := Try.underlying43
 have HR0_0 := Aside0.mk hr0_0
 have HC0_0 := Aside0.mk hc0_0
 clear hr0_0 hc0_0
 have HR0_1 := Aside0.mk hr0_1
 have HC0_1 := Aside0.mk hc0_1
 clear hr0_1 hc0_1
 have HR1 := Aside0.mk hr1
 have HC1 := Aside0.mk hc1
 clear hr1 hc1
 have HB := Aside0.mk (Below.refl w.heap.size w)
 have H : ((impl_SystemValid.f k l0_0 l0_1).bind fun t295 => (if t295 = true then ((impl_inRange.f k l0_0 l0_1 l1).bind fun t296 => (some t296)) else (some false))) = some r := h
 clear h
 replace H := Option.bind_eq_some_iff.mp H
 obtain ⟨t295, A30, H⟩ := H
 have A3 := Aside0.mk A30
 clear A30
 by_cases c4 : t295 = true
 ·
  subst c4
  rw [if_pos rfl] at H
  replace H := Option.bind_eq_some_iff.mp H
  obtain ⟨t296, A50, H⟩ := H
  have A5 := Aside0.mk A50
  clear A50
  obtain rfl := Option.some.inj H
  go_enter Try.func19, Try.ntmps19
  go_wp2_with (first | ((with_reducible refine gate_dst (N := 2) rfl ?_); refine box_event ?hg (N := 2) ?hd (cs := #[.slice A0_0 l0_0.length c0_0, .slice A0_1 l0_1.length c0_1]) (t := 43) ?hr ?_; (case hd => rfl); (case hg => rfl); (case hr => first | (go_simp; done) | (go_simp; rfl)); intro gb294 hg w6 hbox hb; have n0_ := Aside0.mk (below_step (bz HB) hb); have n1_ := Aside0.mk (hbox); have n2_ := Aside0.mk ((by rw [hg]; exact (below_size (bz HB)) : w.heap.size ≤ gb294)); have n3_ := Aside0.mk ((by rw [hg]; exact (below_size (bz HB)) : w.heap.size ≤ gb294)); clear HB; have HB := n0_; have BK294 := n1_; have GW294 := n2_; have GE294 := n3_; clear n0_ n1_ n2_ n3_; clear hb hbox hg; have hcz7_0 : w6.cell? ⟨gb294, 0, none⟩ = some (.slice A0_0 l0_0.length c0_0) := (blk_cell BK294.out 0).trans rfl; have hcz7_1 : w6.cell? ⟨gb294, 1, none⟩ = some (.slice A0_1 l0_1.length c0_1) := (blk_cell BK294.out 1).trans rfl; have hfz7_0 := blk_frozen BK294.out 0; have hfz7_1 := blk_frozen BK294.out 1) | ((with_reducible refine gate_callee (f := 63) rfl ?_); refine goesL_ (some 6) rfl rfl Try.func63 (by kernel_rfl) rfl #[.agg #[.slice A0_0 l0_0.length c0_0, .slice A0_1 l0_1.length c0_1]] rfl az ?_; (with_reducible refine (impl_SystemValid.calls k _ _ l0_0 _ _ l0_1 true _ ?side1 ?side2 ?side3 ?side4 A3.out).mono ?_); (case side1 => exact cz HR0_0 HB); (case side2 => exact HC0_0.out); (case side3 => exact cz HR0_1 HB); (case side4 => exact HC0_1.out); rintro e w8 ⟨rfl, hb⟩; refine ⟨_, rfl, ?_⟩; replace BK294 := Aside0.mk (blk_below (g := gb294) (o := .cells #[.slice A0_0 l0_0.length c0_0, .slice A0_1 l0_1.length c0_1] 43 (0, 0)) (kz BK294) hb); replace HB := Aside0.mk (below_step (bz1 HB GE294) hb); clear hb; have hcz9_0 : w8.cell? ⟨gb294, 0, none⟩ = some (.slice A0_0 l0_0.length c0_0) := (blk_cell BK294.out 0).trans rfl; have hcz9_1 : w8.cell? ⟨gb294, 1, none⟩ = some (.slice A0_1 l0_1.length c0_1) := (blk_cell BK294.out 1).trans rfl; have hfz9_0 := blk_frozen BK294.out 0; have hfz9_1 := blk_frozen BK294.out 1) | (go_at_call 64; (with_reducible refine (impl_inRange.calls k _ _ l0_0 _ _ l0_1 _ _ l1 t296 _ ?side1 ?side2 ?side3 ?side4 ?side5 HC1.out A5.out).mono ?_); (case side1 => exact cz HR0_0 HB); (case side2 => exact HC0_0.out); (case side3 => exact cz HR0_1 HB); (case side4 => exact HC0_1.out); (case side5 => exact cz HR1 HB); rintro e w10 ⟨rfl, hb⟩; replace BK294 := Aside0.mk (blk_below (g := gb294) (o := .cells #[.slice A0_0 l0_0.length c0_0, .slice A0_1 l0_1.length c0_1] 43 (0, 0)) (kz BK294) hb); replace HB := Aside0.mk (below_step (bz1 HB GE294) hb); clear hb))
  go_ret
  exact ⟨rz, bz1 HB GE294⟩
 ·
  replace c4 := Bool.eq_false_iff.mpr c4
  subst c4
  rw [if_neg nt_] at H
  obtain rfl := Option.some.inj H
  go_enter Try.func19, Try.ntmps19
  go_wp2_with (first | ((with_reducible refine gate_dst (N := 2) rfl ?_); refine box_event ?hg (N := 2) ?hd (cs := #[.slice A0_0 l0_0.length c0_0, .slice A0_1 l0_1.length c0_1]) (t := 43) ?hr ?_; (case hd => rfl); (case hg => rfl); (case hr => first | (go_simp; done) | (go_simp; rfl)); intro gb294 hg w11 hbox hb; have n0_ := Aside0.mk (below_step (bz HB) hb); have n1_ := Aside0.mk (hbox); have n2_ := Aside0.mk ((by rw [hg]; exact (below_size (bz HB)) : w.heap.size ≤ gb294)); have n3_ := Aside0.mk ((by rw [hg]; exact (below_size (bz HB)) : w.heap.size ≤ gb294)); clear HB; have HB := n0_; have BK294 := n1_; have GW294 := n2_; have GE294 := n3_; clear n0_ n1_ n2_ n3_; clear hb hbox hg; have hcz12_0 : w11.cell? ⟨gb294, 0, none⟩ = some (.slice A0_0 l0_0.length c0_0) := (blk_cell BK294.out 0).trans rfl; have hcz12_1 : w11.cell? ⟨gb294, 1, none⟩ = some (.slice A0_1 l0_1.length c0_1) := (blk_cell BK294.out 1).trans rfl; have hfz12_0 := blk_frozen BK294.out 0; have hfz12_1 := blk_frozen BK294.out 1) | ((with_reducible refine gate_callee (f := 63) rfl ?_); refine goesL_ (some 6) rfl rfl Try.func63 (by kernel_rfl) rfl #[.agg #[.slice A0_0 l0_0.length c0_0, .slice A0_1 l0_1.length c0_1]] rfl az ?_; (with_reducible refine (impl_SystemValid.calls k _ _ l0_0 _ _ l0_1 false _ ?side1 HC0_0.out ?side3 HC0_1.out A3.out).mono ?_); (case side1 => exact cz HR0_0 HB); (case side3 => exact cz HR0_1 HB); rintro e w13 ⟨rfl, hb⟩; refine ⟨_, rfl, ?_⟩; replace BK294 := Aside0.mk (blk_below (g := gb294) (o := .cells #[.slice A0_0 l0_0.length c0_0, .slice A0_1 l0_1.length c0_1] 43 (0, 0)) (kz BK294) hb); replace HB := Aside0.mk (below_step (bz1 HB GE294) hb); clear hb))
  go_ret
  exact ⟨rz, bz1 HB GE294⟩
end Go.Proofs.Ytndmhmekmkgccaa.PFnExactInRange
end
section
namespace Go.Proofs.Ytndmhmekmkgccaa.PFnExactInRange
open Go.RowKit Go.Proofs.YtndmhmekmkgccaaW.PrintWords Go.Proofs.YtndmhmekmkgccaaW.PrintLast Go.Proofs.YtndmhmekmkgccaaW.PrintMore
attribute [local go_sem] max2_int min2_int max_two min_two max_three min_three max_four min_four   -- for this text's walks alone
set_option linter.unusedVariables false
set_option linter.unusedSimpArgs false
set_option maxHeartbeats 8000000 in
set_option maxRecDepth 100000 in
theorem laws_eqIntS.calls (k : Nat) (A0 : Option Addr) (c0 : Nat) (l0 : List Int) (A1 : Option Addr) (c1 : Nat) (l1 : List Int) (r : Bool) (w : World) (hr0 : Kd.C (Kd.int .i64) w A0 l0.length l0) (hc0 : l0.length ≤ c0) (hr1 : Kd.C (Kd.int .i64) w A1 l1.length l1) (hc1 : l1.length ≤ c1) (h : laws_eqIntS.f k l0 l1 = some r) :
  Calls Try.prog 21 #[.slice A0 l0.length c0, .slice A1 l1.length c1] w fun e w' => e = .returned (.bool r) ∧ Drawn0 w w' := by
 have HR0 := Aside0.mk hr0
 have HC0 := Aside0.mk hc0
 clear hr0 hc0
 have HR1 := Aside0.mk hr1
 have HC1 := Aside0.mk hc1
 clear hr1 hc1
 have H : (if (l0.length : Int) = (l1.length : Int) then (laws_eqIntS.l0 k l0 l1 0) else (some false)) = some r := h
 clear h
 by_cases c3 : (l0.length : Int) = (l1.length : Int)
 ·
  rw [if_pos c3] at H
  have c3b0 : ((l0.length : Int) == (l1.length : Int)) = true := beq_iff_eq.mpr c3
  have c3b1 : ((l0.length : Int) != (l1.length : Int)) = false := bne_eq_false_iff_eq.mpr c3
  have c3b2 : (l0.length == l1.length) = true := by first | simpa using c3 | (simp at c3 ⊢; omega)
  clear c3
  have H' := Aside0.mk H
  clear H
  go_enter Try.func21, Try.ntmps21
  go_wp2
  repeat (go_quiet (fail); try go_wp2)
  go_loopg [5] k (fun kq v5 w' => ∃ (x5_1 : Int), v5 = .int .i64 x5_1 ∧ Aside0 (laws_eqIntS.l0 kq l0 l1 x5_1 = some r) ∧ Aside0 (kq ≤ k) ∧ Drawn0 w w')
  case atStart => exact ⟨(0), rq, H', ⟨Nat.le_refl _⟩, by repeat (first | exact Drawn0.refl _ | apply Drawn0.step)⟩
  case round =>
   clear H'
   try clear c1
   try clear c2
   try clear p2
   try clear c3
   try clear c3b0
   try clear c3b1
   try clear c3b2
   obtain ⟨x5_1, rfl, HA, HK1, ⟨m1, rfl⟩⟩ := hrel
   cases gk with
   | zero => exact absurd HA.out (by simp [laws_eqIntS.l0])
   | succ k1 =>
    have H := HA.out
    clear HA
    simp only [laws_eqIntS.l0] at H
    by_cases c4 : x5_1 < (l0.length : Int)
    ·
     rw [if_pos c4] at H
     have c4b0 : decide (x5_1 < (l0.length : Int)) = true := decide_eq_true c4
     clear c4
     by_cases c5 : 0 ≤ x5_1
     ·
      rw [if_pos c5] at H
      have c5b0 : decide (0 ≤ x5_1) = true := decide_eq_true c5
      clear c5
      by_cases c6 : x5_1 < (l1.length : Int)
      ·
       rw [if_pos c6] at H
       have c6b0 : decide (x5_1 < (l1.length : Int)) = true := decide_eq_true c6
       clear c6
       by_cases c7 : (rd l0 x5_1) = (rd l1 x5_1)
       ·
        rw [if_pos c7] at H
        have c7b0 : ((rd l0 x5_1) == (rd l1 x5_1)) = true := beq_iff_eq.mpr c7
        have c7b1 : ((rd l0 x5_1) != (rd l1 x5_1)) = false := bne_eq_false_iff_eq.mpr c7
        clear c7
        have H' := Aside0.mk H
        clear H
        have p302 : 0 ≤ (x5_1 : Int) := dz
        have q302 : x5_1 < (l0.length : Int) := dz
        obtain ⟨ad302, e302, hx302_0⟩ := Kd.at_int HR0.out x5_1 p302 q302
        cases e302
        replace p302 := eq_true p302
        replace q302 := eq_true q302
        have p303 : 0 ≤ (x5_1 : Int) := dz
        have q303 : x5_1 < (l1.length : Int) := dz
        obtain ⟨ad303, e303, hx303_0⟩ := Kd.at_int HR1.out x5_1 p303 q303
        cases e303
        replace p303 := eq_true p303
        replace q303 := eq_true q303
        go_wp2
        repeat (go_quiet (fail); try go_wp2)
        go_roundg k1
        case measure => have := HK1.out; omega
        case rel => exact ⟨(wrap64 (x5_1 + 1)), rq, H', ⟨by have := HK1.out; omega⟩, by repeat (first | exact Drawn0.refl _ | apply Drawn0.step)⟩
       ·
        rw [if_neg c7] at H
        have c7b0 : ((rd l0 x5_1) == (rd l1 x5_1)) = false := beq_eq_false_iff_ne.mpr c7
        have c7b1 : ((rd l0 x5_1) != (rd l1 x5_1)) = true := bne_iff_ne.mpr c7
        obtain rfl := Option.some.inj H
        have p302 : 0 ≤ (x5_1 : Int) := dz
        have q302 : x5_1 < (l0.length : Int) := dz
        obtain ⟨ad302, e302, hx302_0⟩ := Kd.at_int HR0.out x5_1 p302 q302
        cases e302
        replace p302 := eq_true p302
        replace q302 := eq_true q302
        have p303 : 0 ≤ (x5_1 : Int) := dz
        have q303 : x5_1 < (l1.length : Int) := dz
        obtain ⟨ad303, e303, hx303_0⟩ := Kd.at_int HR1.out x5_1 p303 q303
        cases e303
        replace p303 := eq_true p303
        replace q303 := eq_true q303
        go_wp2
        repeat (go_quiet (fail); try go_wp2)
        go_ret
        exact ⟨by first | rfl | (simp; done) | (simp [*]; done), by repeat (first | exact Drawn0.refl _ | apply Drawn0.step)⟩
      ·
       rw [if_neg c6] at H
       exact absurd H (by simp)
     ·
      rw [if_neg c5] at H
      exact absurd H (by simp)
    ·
     rw [if_neg c4] at H
     have c4b0 : decide (x5_1 < (l0.length : Int)) = false := decide_eq_false c4
     clear c4
     obtain rfl := Option.some.inj H
     go_wp2
     repeat (go_quiet (fail); try go_wp2)
     go_ret
     exact ⟨by first | rfl | (simp; done) | (simp [*]; done), by repeat (first | exact Drawn0.refl _ | apply Drawn0.step)⟩
 ·
  rw [if_neg c3] at H
  have c3b0 : ((l0.length : Int) == (l1.length : Int)) = false := beq_eq_false_iff_ne.mpr c3
  have c3b1 : ((l0.length : Int) != (l1.length : Int)) = true := bne_iff_ne.mpr c3
  have c3b2 : (l0.length == l1.length) = false := by first | simpa using c3 | (simp at c3 ⊢; omega)
  obtain rfl := Option.some.inj H
  go_enter Try.func21, Try.ntmps21
  go_wp2
  repeat (go_quiet (fail); try go_wp2)
  go_ret
  exact ⟨by first | rfl | (simp; done) | (simp [*]; done), by repeat (first | exact Drawn0.refl _ | apply Drawn0.step)⟩
end Go.Proofs.Ytndmhmekmkgccaa.PFnExactInRange
end
