/- Walks of Go functions: each is shown to answer as the Lean function beside it tells, under the conditions that its theorem names. -/
import Derived.Test.YtndmhmekmkgccaaKP3ef63d26e3
import Derived.Test.YtndmhmekmkgccaaKPcbb896abd9
section
namespace Go.Proofs.Ytndmhmekmkgccaa.PFnExactInRange
open Go.RowKit Go.Proofs.YtndmhmekmkgccaaW.PrintWords Go.Proofs.YtndmhmekmkgccaaW.PrintLast Go.Proofs.YtndmhmekmkgccaaW.PrintMore
attribute [local go_sem] max2_int min2_int max_two min_two max_three min_three max_four min_four   -- for this text's walks alone
set_option linter.unusedVariables false
set_option linter.unusedSimpArgs false
set_option maxHeartbeats 8000000 in
set_option maxRecDepth 100000 in
theorem spec_InRange.calls (k : Nat) (A0_0 : Option Addr) (c0_0 : Nat) (l0_0 : List (IVar)) (A0_1 : Option Addr) (c0_1 : Nat) (l0_1 : List (IRule)) (A1 : Option Addr) (c1 : Nat) (l1 : List Int) (r : Bool) (w : World) (hr0_0 : Kd.C k141 w A0_0 l0_0.length l0_0) (hc0_0 : l0_0.length ≤ c0_0) (hr0_1 : Kd.C k145 w A0_1 l0_1.length l0_1) (hc0_1 : l0_1.length ≤ c0_1) (hr1 : Kd.C (Kd.int .i64) w A1 l1.length l1) (hc1 : l1.length ≤ c1) (h : spec_InRange.f k l0_0 l0_1 l1 = some r) :
  Calls Try.prog 16 #[.agg #[.slice A0_0 l0_0.length c0_0, .slice A0_1 l0_1.length c0_1], .slice A1 l1.length c1] w fun e w' => e = .returned (.bool r) ∧ Below w.heap.size w w' := by
 have hu43 := Try.underlying43
 have HR0_0 := Aside0.mk hr0_0
 have HC0_0 := Aside0.mk hc0_0
 clear hr0_0 hc0_0
 have HR0_1 := Aside0.mk hr0_1
 have HC0_1 := Aside0.mk hc0_1
 clear hr0_1 hc0_1
 have HR1 := Aside0.mk hr1
 have HC1 := Aside0.mk hc1
 clear hr1 hc1
 have HB := Aside0.mk (Below.refl w.heap.size w)
 have H : ((spec_SystemValid.f k l0_0 l0_1).bind fun t163 => (if t163 = true then ((spec_l2In.f k l0_0 l0_1 l1).bind fun t164 => (some t164)) else (some false))) = some r := h
 clear h
 replace H := Option.bind_eq_some_iff.mp H
 obtain ⟨t163, A30, H⟩ := H
 have A3 := Aside0.mk A30
 clear A30
 by_cases c4 : t163 = true
 ·
  subst c4
  rw [if_pos rfl] at H
  replace H := Option.bind_eq_some_iff.mp H
  obtain ⟨t164, A50, H⟩ := H
  have A5 := Aside0.mk A50
  clear A50
  obtain rfl := Option.some.inj H
  go_enter Try.func16, Try.ntmps16
  go_wp2_with (first | ((with_reducible refine gate_dst (N := 2) rfl ?_); refine box_event ?hg (N := 2) ?hd (cs := #[.slice A0_0 l0_0.length c0_0, .slice A0_1 l0_1.length c0_1]) (t := 43) ?hr ?_; (case hd => rfl); (case hg => rfl); (case hr => first | (go_simp; done) | (go_simp; rfl)); intro gb162 hg w6 hbox hb; have n0_ := Aside0.mk (below_step (bz HB) hb); have n1_ := Aside0.mk (hbox); have n2_ := Aside0.mk ((by rw [hg]; exact (below_size (bz HB)) : w.heap.size ≤ gb162)); have n3_ := Aside0.mk ((by rw [hg]; exact (below_size (bz HB)) : w.heap.size ≤ gb162)); clear HB; have HB := n0_; have BK162 := n1_; have GW162 := n2_; have GE162 := n3_; clear n0_ n1_ n2_ n3_; clear hb hbox hg; have hcz7_0 : w6.cell? ⟨gb162, 0, none⟩ = some (.slice A0_0 l0_0.length c0_0) := (blk_cell BK162.out 0).trans rfl; have hcz7_1 : w6.cell? ⟨gb162, 1, none⟩ = some (.slice A0_1 l0_1.length c0_1) := (blk_cell BK162.out 1).trans rfl; have hfz7_0 := blk_frozen BK162.out 0; have hfz7_1 := blk_frozen BK162.out 1) | ((with_reducible refine gate_callee (f := 59) rfl ?_); refine goesL_ (some 6) rfl rfl Try.func59 (by kernel_rfl) rfl #[.agg #[.slice A0_0 l0_0.length c0_0, .slice A0_1 l0_1.length c0_1]] rfl az ?_; (with_reducible refine (spec_SystemValid.calls k _ _ l0_0 _ _ l0_1 true _ ?side1 ?side2 ?side3 ?side4 A3.out).mono ?_); (case side1 => exact cz HR0_0 HB); (case side2 => exact HC0_0.out); (case side3 => exact cz HR0_1 HB); (case side4 => exact HC0_1.out); rintro e w8 ⟨rfl, hb⟩; refine ⟨_, rfl, ?_⟩; replace BK162 := Aside0.mk (blk_below (g := gb162) (o := .cells #[.slice A0_0 l0_0.length c0_0, .slice A0_1 l0_1.length c0_1] 43 (0, 0)) (kz BK162) hb); replace HB := Aside0.mk (below_step (bz1 HB GE162) hb); clear hb; have hcz9_0 : w8.cell? ⟨gb162, 0, none⟩ = some (.slice A0_0 l0_0.length c0_0) := (blk_cell BK162.out 0).trans rfl; have hcz9_1 : w8.cell? ⟨gb162, 1, none⟩ = some (.slice A0_1 l0_1.length c0_1) := (blk_cell BK162.out 1).trans rfl; have hfz9_0 := blk_frozen BK162.out 0; have hfz9_1 := blk_frozen BK162.out 1) | (go_at_call 60; (with_reducible refine (spec_l2In.calls k _ _ l0_0 _ _ l0_1 _ _ l1 t164 _ ?side1 ?side2 ?side3 ?side4 ?side5 HC1.out A5.out).mono ?_); (case side1 => exact cz HR0_0 HB); (case side2 => exact HC0_0.out); (case side3 => exact cz HR0_1 HB); (case side4 => exact HC0_1.out); (case side5 => exact cz HR1 HB); rintro e w10 ⟨rfl, hb⟩; replace BK162 := Aside0.mk (blk_below (g := gb162) (o := .cells #[.slice A0_0 l0_0.length c0_0, .slice A0_1 l0_1.length c0_1] 43 (0, 0)) (kz BK162) hb); replace HB := Aside0.mk (below_step (bz1 HB GE162) hb); clear hb))
  go_ret
  exact ⟨rz, bz1 HB GE162⟩
 ·
  replace c4 := Bool.eq_false_iff.mpr c4
  subst c4
  rw [if_neg nt_] at H
  obtain rfl := Option.some.inj H
  go_enter Try.func16, Try.ntmps16
  go_wp2_with (first | ((with_reducible refine gate_dst (N := 2) rfl ?_); refine box_event ?hg (N := 2) ?hd (cs := #[.slice A0_0 l0_0.length c0_0, .slice A0_1 l0_1.length c0_1]) (t := 43) ?hr ?_; (case hd => rfl); (case hg => rfl); (case hr => first | (go_simp; done) | (go_simp; rfl)); intro gb162 hg w11 hbox hb; have n0_ := Aside0.mk (below_step (bz HB) hb); have n1_ := Aside0.mk (hbox); have n2_ := Aside0.mk ((by rw [hg]; exact (below_size (bz HB)) : w.heap.size ≤ gb162)); have n3_ := Aside0.mk ((by rw [hg]; exact (below_size (bz HB)) : w.heap.size ≤ gb162)); clear HB; have HB := n0_; have BK162 := n1_; have GW162 := n2_; have GE162 := n3_; clear n0_ n1_ n2_ n3_; clear hb hbox hg; have hcz12_0 : w11.cell? ⟨gb162, 0, none⟩ = some (.slice A0_0 l0_0.length c0_0) := (blk_cell BK162.out 0).trans rfl; have hcz12_1 : w11.cell? ⟨gb162, 1, none⟩ = some (.slice A0_1 l0_1.length c0_1) := (blk_cell BK162.out 1).trans rfl; have hfz12_0 := blk_frozen BK162.out 0; have hfz12_1 := blk_frozen BK162.out 1) | ((with_reducible refine gate_callee (f := 59) rfl ?_); refine goesL_ (some 6) rfl rfl Try.func59 (by kernel_rfl) rfl #[.agg #[.slice A0_0 l0_0.length c0_0, .slice A0_1 l0_1.length c0_1]] rfl az ?_; (with_reducible refine (spec_SystemValid.calls k _ _ l0_0 _ _ l0_1 false _ ?side1 HC0_0.out ?side3 HC0_1.out A3.out).mono ?_); (case side1 => exact cz HR0_0 HB); (case side3 => exact cz HR0_1 HB); rintro e w13 ⟨rfl, hb⟩; refine ⟨_, rfl, ?_⟩; replace BK162 := Aside0.mk (blk_below (g := gb162) (o := .cells #[.slice A0_0 l0_0.length c0_0, .slice A0_1 l0_1.length c0_1] 43 (0, 0)) (kz BK162) hb); replace HB := Aside0.mk (below_step (bz1 HB GE162) hb); clear hb))
  go_ret
  exact ⟨rz, bz1 HB GE162⟩
end Go.Proofs.Ytndmhmekmkgccaa.PFnExactInRange
end
section
namespace Go.Proofs.Ytndmhmekmkgccaa.PFnExactInRange
open Go.RowKit Go.Proofs.YtndmhmekmkgccaaW.PrintWords Go.Proofs.YtndmhmekmkgccaaW.PrintLast Go.Proofs.YtndmhmekmkgccaaW.PrintMore
attribute [local go_sem] max2_int min2_int max_two min_two max_three min_three max_four min_four   -- for this text's walks alone
set_option linter.unusedVariables false
set_option linter.unusedSimpArgs false
set_option maxHeartbeats 8000000 in
set_option maxRecDepth 100000 in
theorem laws_toIntS.calls (k : Nat) (A0 : Option Addr) (c0 : Nat) (l0 : List Int) (r : List Int) (w : World) (hr0 : Kd.C (Kd.int .i64) w A0 l0.length l0) (hc0 : l0.length ≤ c0) (h : laws_toIntS.f k l0 = some r) :
  Calls Try.prog 18 #[.slice A0 l0.length c0] w fun e w' => ∃ v0_ : Value, e = .returned (v0_) ∧ Kd.R (Kd.int .i64) 3 w' w.heap.size (fun _ => True) v0_ r ∧ Below w.heap.size w w' := by
 have HR0 := Aside0.mk hr0
 have HC0 := Aside0.mk hc0
 clear hr0 hc0
 have HB := Aside0.mk (Below.refl w.heap.size w)
 have H : (if 0 ≤ (l0.length : Int) then (if ((l0.length : Int) : Int).toNat ≤ 35184372088832 then (laws_toIntS.l0 k l0 (List.replicate ((l0.length : Int) : Int).toNat 0) 0) else (none)) else (none)) = some r := h
 clear h
 by_cases c2 : 0 ≤ (l0.length : Int)
 ·
  rw [if_pos c2] at H
  have c2b0 := eq_true c2
  have c2b1 : decide (0 ≤ (l0.length : Int)) = true := decide_eq_true c2
  clear c2
  by_cases c3 : ((l0.length : Int) : Int).toNat ≤ 35184372088832
  ·
   rw [if_pos c3] at H
   have c3b0 := eq_true c3
   have c3b1 : decide (((l0.length : Int) : Int).toNat ≤ 35184372088832) = true := decide_eq_true c3
   clear c3
   obtain ⟨y176, hy176⟩ : ∃ y_ : List Int, y_ = (List.replicate ((l0.length : Int) : Int).toNat 0) := ⟨_, rfl⟩
   replace H : (laws_toIntS.l0 k l0 y176 0) = some r := by first | (rw [hy176]; with_reducible exact H) | (have H2_ := (Option.bind_some _ _).symm.trans H; rw [hy176]; with_reducible exact H2_) | (have H2_ := (Option.bind_some _ _).symm.trans H; with_reducible exact H2_) | with_reducible exact H | (rw [hy176]; exact H) | exact H
   have Ny176 := Aside0.mk hy176
   clear hy176
   have H' := Aside0.mk H
   clear H
   go_enter Try.func18, Try.ntmps18
   go_wp2_with (first | ((with_reducible refine gate_dst (N := 7) rfl ?_); refine Kd.R_make (Kd.int .i64) _ 3 rfl (N := 7) rfl 26 _ _ rfl (l0.length : Int) rfl rfl Try.underlying26 (.int .i64 0) 8 info3 rfl (by decide) (by omega) 0 (ok := fun _ => True) (okp := fun _ => True) rfl (fun _ hk => hk) trivial (dz) (Nat.le_trans (Nat.mul_le_mul_right _ (dz : (l0.length : Int).toNat ≤ 35184372088832)) (by omega)) (Below.refl _ _) (Nat.le_refl _) ?_; intro v177 w4 ho5 hb hg_ hnew_; clear hg_ hnew_; (first | rw [← Ny176.out] at ho5 | (simp only [Int.reduceToNat] at ho5; rw [← Ny176.out] at ho5)); have HO178 := Aside0.mk (Kd.R_lower ho5 (below_size (bz HB))); replace HB := Aside0.mk (below_step (bz HB) hb); clear hb ho5))
   go_loopg [4] k (fun kq v4 w' => ∃ (x3_1 : List Int) (x4_1 : Int), v4 = .int .i64 x4_1 ∧ Aside0 (laws_toIntS.l0 kq l0 x3_1 x4_1 = some r) ∧ Aside0 (kq ≤ k) ∧ Aside0 (Kd.R (Kd.int .i64) 3 w' w.heap.size (fun _ => True) v177 x3_1) ∧ Aside0 (Below w.heap.size w w'))
   case atStart => exact ⟨(y176), (0), rq, H', ⟨Nat.le_refl _⟩, ⟨ozR HO178⟩, ⟨bz HB⟩⟩
   case round =>
    clear H'
    try clear c1
    try clear c2
    try clear c2b0
    try clear c2b1
    try clear p2
    try clear c3
    try clear c3b0
    try clear c3b1
    obtain ⟨x3_1, x4_1, rfl, HA, HK1, HO_3, HB⟩ := hrel
    cases gk with
    | zero => exact absurd HA.out (by simp [laws_toIntS.l0])
    | succ k1 =>
     have H := HA.out
     clear HA
     simp only [laws_toIntS.l0] at H
     by_cases c6 : x4_1 < (l0.length : Int)
     ·
      rw [if_pos c6] at H
      have c6b0 : decide (x4_1 < (l0.length : Int)) = true := decide_eq_true c6
      clear c6
      by_cases c7 : 0 ≤ x4_1
      ·
       rw [if_pos c7] at H
       have c7b0 : decide (0 ≤ x4_1) = true := decide_eq_true c7
       clear c7
       by_cases c8 : x4_1 < (x3_1.length : Int)
       ·
        rw [if_pos c8] at H
        have c8b0 : decide (x4_1 < (x3_1.length : Int)) = true := decide_eq_true c8
        clear c8
        obtain ⟨y180, hy180⟩ : ∃ y_ : List Int, y_ = (x3_1.set (x4_1 : Int).toNat (rd l0 x4_1)) := ⟨_, rfl⟩
        replace H : (laws_toIntS.l0 k1 l0 y180 (wrap64 (x4_1 + 1))) = some r := by first | (rw [hy180]; with_reducible exact H) | (have H2_ := (Option.bind_some _ _).symm.trans H; rw [hy180]; with_reducible exact H2_) | (have H2_ := (Option.bind_some _ _).symm.trans H; with_reducible exact H2_) | with_reducible exact H | (rw [hy180]; exact H) | exact H
        have Ny180 := Aside0.mk hy180
        clear hy180
        have H' := Aside0.mk H
        clear H
        have p179 : 0 ≤ (x4_1 : Int) := dz
        have q179 : x4_1 < (l0.length : Int) := dz
        obtain ⟨ad179, e179, hx179_0⟩ := Kd.at_int HR0.out x4_1 p179 q179
        cases e179
        replace hx179_0 := xz HB hx179_0
        replace p179 := eq_true p179
        replace q179 := eq_true q179
        have p9 : 0 ≤ (x4_1 : Int) := dz
        have q9 : (x4_1 : Int) < ((x3_1.length : Int) : Int) := dz
        obtain ⟨go9, co9, eo9, gb9, gl9, cl9, HG9⟩ := Kd.R_form HO_3.out (by omega)
        (first | cases eo9 | (injection eo9 with ea_ en_ ec_; (first | subst ea_ | (injection ea_ with ea_; subst ea_)); subst ec_; clear en_))
        have GB9 := Aside0.mk gb9
        have GG9 := Aside0.mk HG9
        clear gb9 gl9 HG9
        obtain ⟨hx9_0, hf9_0⟩ := Kd.R_celln 0 HO_3.out (x4_1 : Int) p9 q9
        replace p9 := eq_true p9
        replace q9 := eq_true q9
        have HP10 := Kd.R_putg HO_3.out (x4_1 : Int) (rd l0 x4_1)
        go_wp2_with (first | ((with_reducible refine gate_store (t := 3) (p := 20) rfl ?_); refine store_event (t := 3) (p := 20) (v := ?vo_w11) (w1 := (wr.setCell ⟨go9, (x4_1 : Int).toNat, none⟩ (.int .i64 (rd l0 x4_1)))) ?hg ?ho ?hn ?hr ?_; (case ho => rfl); (case hg => rfl); (case hn => rfl); (case hr => first | (go_simp; done) | (go_simp; rfl)); intro w11 hw; have hg : wr.grownBy w11 (some go9) := (by rw [hw]; exact HP10.2); have hp_ : Kd.R (Kd.int .i64) 3 w11 w.heap.size (fun _ => True) (.slice (some ⟨go9, 0, none⟩) x3_1.length co9) y180 := (by rw [hw, Ny180.out]; exact HP10.1); clear HP10; replace HO_3 := Aside0.mk (hp_); replace HB := Aside0.mk ((by rw [hw]; exact below_set (HB.out) GB9.out : Below w.heap.size w w11)); clear hg hw hp_))
        go_roundg k1
        case measure => have := HK1.out; omega
        case rel => exact ⟨(y180), (wrap64 (x4_1 + 1)), rq, H', ⟨by have := HK1.out; omega⟩, ⟨ozR HO_3⟩, ⟨bz HB⟩⟩
       ·
        rw [if_neg c8] at H
        exact absurd H (by simp)
      ·
       rw [if_neg c7] at H
       exact absurd H (by simp)
     ·
      rw [if_neg c6] at H
      have c6b0 : decide (x4_1 < (l0.length : Int)) = false := decide_eq_false c6
      clear c6
      obtain rfl := Option.some.inj H
      go_wp2
      go_ret
      exact ⟨_, rz, ozR HO_3, bz HB⟩
  ·
   rw [if_neg c3] at H
   exact absurd H (by simp)
 ·
  rw [if_neg c2] at H
  exact absurd H (by simp)
end Go.Proofs.Ytndmhmekmkgccaa.PFnExactInRange
end
section
namespace Go.Proofs.Ytndmhmekmkgccaa.PFnExactInRange
open Go.RowKit Go.Proofs.YtndmhmekmkgccaaW.PrintWords Go.Proofs.YtndmhmekmkgccaaW.PrintLast Go.Proofs.YtndmhmekmkgccaaW.PrintMore
attribute [local go_sem] max2_int min2_int max_two min_two max_three min_three max_four min_four   -- for this text's walks alone
set_option linter.unusedVariables false
set_option linter.unusedSimpArgs false
set_option maxHeartbeats 8000000 in
set_option maxRecDepth 100000 in
theorem laws_toVar.calls (a0_0 : Int) (a0_1 : Int) (a0_2 : Int) (r1 : Int) (r2 : Int) (r3 : Int) (w : World) (h : laws_toVar.f a0_0 a0_1 a0_2 = some (r1, r2, r3)) :
  Calls Try.prog 116 #[.agg #[.int .i64 a0_0, .int .i64 a0_1, .int .i64 a0_2]] w fun e w' => e = .returned (.agg #[.int .i64 r1, .int .i64 r2, .int .i64 r3]) ∧ Below w.heap.size w w' := by
 have hu147 := Try.underlying147
 have hu141 := Try.underlying141
 have HB := Aside0.mk (Below.refl w.heap.size w)
 have H : (some (a0_0, a0_1, a0_2)) = some (r1, r2, r3) := h
 clear h
 simp only [Option.some.injEq, Prod.mk.injEq] at H
 obtain ⟨rfl, rfl, rfl⟩ := H
 go_enter Try.func116, Try.ntmps116
 go_wp2_with (first | ((with_reducible refine gate_dst (N := 1) rfl ?_); refine box_event ?hg (N := 1) ?hd (cs := #[.int .i64 a0_0, .int .i64 a0_1, .int .i64 a0_2]) (t := 147) ?hr ?_; (case hd => rfl); (case hg => rfl); (case hr => first | (go_simp; done) | (go_simp; rfl)); intro gb165 hg w2 hbox hb; have n0_ := Aside0.mk (below_step (bz HB) hb); have n1_ := Aside0.mk (hbox); have n2_ := Aside0.mk ((by rw [hg]; exact (below_size (bz HB)) : w.heap.size ≤ gb165)); have n3_ := Aside0.mk ((by rw [hg]; exact (below_size (bz HB)) : w.heap.size ≤ gb165)); clear HB; have HB := n0_; have BK165 := n1_; have GW165 := n2_; have GE165 := n3_; clear n0_ n1_ n2_ n3_; clear hb hbox hg) | ((with_reducible refine gate_dst (N := 2) rfl ?_); refine box_event ?hg (N := 2) ?hd (cs := #[.int .i64 0, .int .i64 0, .int .i64 0]) (t := 141) ?hr ?_; (case hd => rfl); (case hg => rfl); (case hr => first | (go_simp; done) | (go_simp; rfl)); intro gb166 hg w3 hbox hb; have n0_ := Aside0.mk (blk_below (g := gb165) (o := .cells #[.int .i64 a0_0, .int .i64 a0_1, .int .i64 a0_2] 147 (0, 0)) (kz BK165) hb); have n1_ := Aside0.mk (below_step (bz1 HB GE165) hb); have n2_ := Aside0.mk (hbox); have n3_ := Aside0.mk ((by rw [hg]; exact (below_size (bz1 HB GE165)) : w.heap.size ≤ gb166)); have n4_ := Aside0.mk ((by rw [hg]; exact (below_size (bz1 HB GE165)) : w.heap.size ≤ gb166)); have n5_ := Aside0.mk ((by rw [hg]; exact Nat.ne_of_lt (blk_lt (g := gb165) (o := .cells #[.int .i64 a0_0, .int .i64 a0_1, .int .i64 a0_2] 147 (0, 0)) (kz BK165)) : gb165 ≠ gb166)); have n6_ := Aside0.mk ((by rw [hg]; exact Nat.ne_of_gt (blk_lt (g := gb165) (o := .cells #[.int .i64 a0_0, .int .i64 a0_1, .int .i64 a0_2] 147 (0, 0)) (kz BK165)) : gb166 ≠ gb165)); clear BK165; clear HB; have BK165 := n0_; have HB := n1_; have BK166 := n2_; have GW166 := n3_; have GE166 := n4_; have NB165_166 := n5_; have NB166_165 := n6_; clear n0_ n1_ n2_ n3_ n4_ n5_ n6_; clear hb hbox hg) | ((with_reducible refine gate_dst (N := 3) rfl ?_); refine box_event ?hg (N := 3) ?hd (cs := #[.int .i64 0, .int .i64 0, .int .i64 0]) (t := 141) ?hr ?_; (case hd => rfl); (case hg => rfl); (case hr => first | (go_simp; done) | (go_simp; rfl)); intro gb167 hg w4 hbox hb; have n0_ := Aside0.mk (blk_below (g := gb165) (o := .cells #[.int .i64 a0_0, .int .i64 a0_1, .int .i64 a0_2] 147 (0, 0)) (kz BK165) hb); have n1_ := Aside0.mk (blk_below (g := gb166) (o := .cells #[.int .i64 0, .int .i64 0, .int .i64 0] 141 (0, 0)) (kz BK166) hb); have n2_ := Aside0.mk (below_step (bz2 HB GE165 GE166) hb); have n3_ := Aside0.mk (hbox); have n4_ := Aside0.mk ((by rw [hg]; exact (below_size (bz2 HB GE165 GE166)) : w.heap.size ≤ gb167)); have n5_ := Aside0.mk ((by rw [hg]; exact (below_size (bz2 HB GE165 GE166)) : w.heap.size ≤ gb167)); have n6_ := Aside0.mk ((by rw [hg]; exact Nat.ne_of_lt (blk_lt (g := gb165) (o := .cells #[.int .i64 a0_0, .int .i64 a0_1, .int .i64 a0_2] 147 (0, 0)) (kz BK165)) : gb165 ≠ gb167)); have n7_ := Aside0.mk ((by rw [hg]; exact Nat.ne_of_gt (blk_lt (g := gb165) (o := .cells #[.int .i64 a0_0, .int .i64 a0_1, .int .i64 a0_2] 147 (0, 0)) (kz BK165)) : gb167 ≠ gb165)); have n8_ := Aside0.mk ((by rw [hg]; exact Nat.ne_of_lt (blk_lt (g := gb166) (o := .cells #[.int .i64 0, .int .i64 0, .int .i64 0] 141 (0, 0)) (kz BK166)) : gb166 ≠ gb167)); have n9_ := Aside0.mk ((by rw [hg]; exact Nat.ne_of_gt (blk_lt (g := gb166) (o := .cells #[.int .i64 0, .int .i64 0, .int .i64 0] 141 (0, 0)) (kz BK166)) : gb167 ≠ gb166)); clear BK165; clear BK166; clear HB; have BK165 := n0_; have BK166 := n1_; have HB := n2_; have BK167 := n3_; have GW167 := n4_; have GE167 := n5_; have NB165_167 := n6_; have NB167_165 := n7_; have NB166_167 := n8_; have NB167_166 := n9_; clear n0_ n1_ n2_ n3_ n4_ n5_ n6_ n7_ n8_ n9_; clear hb hbox hg; have hnb5 := NB165_166.out; have hnc5 := NB166_165.out; have hnb6 := NB165_167.out; have hnc6 := NB167_165.out; have hcz7_0 : w4.cell? ⟨gb165, 0, none⟩ = some (.int .i64 a0_0) := (blk_cell BK165.out 0).trans rfl; have hcz7_1 : w4.cell? ⟨gb165, 1, none⟩ = some (.int .i64 a0_1) := (blk_cell BK165.out 1).trans rfl; have hcz7_2 : w4.cell? ⟨gb165, 2, none⟩ = some (.int .i64 a0_2) := (blk_cell BK165.out 2).trans rfl; have hfz7_0 := blk_frozen BK165.out 0; have hfz7_1 := blk_frozen BK165.out 1; have hfz7_2 := blk_frozen BK165.out 2; have hnb8 := NB167_166.out; have hnc8 := NB166_167.out; have hcz9_0 : w4.cell? ⟨gb167, 0, none⟩ = some (.int .i64 0) := (blk_cell BK167.out 0).trans rfl; have hcz9_1 : w4.cell? ⟨gb167, 1, none⟩ = some (.int .i64 0) := (blk_cell BK167.out 1).trans rfl; have hcz9_2 : w4.cell? ⟨gb167, 2, none⟩ = some (.int .i64 0) := (blk_cell BK167.out 2).trans rfl; have hfz9_0 := blk_frozen BK167.out 0; have hfz9_1 := blk_frozen BK167.out 1; have hfz9_2 := blk_frozen BK167.out 2; have hcz10_0 : w4.cell? ⟨gb166, 0, none⟩ = some (.int .i64 0) := (blk_cell BK166.out 0).trans rfl; have hcz10_1 : w4.cell? ⟨gb166, 1, none⟩ = some (.int .i64 0) := (blk_cell BK166.out 1).trans rfl; have hcz10_2 : w4.cell? ⟨gb166, 2, none⟩ = some (.int .i64 0) := (blk_cell BK166.out 2).trans rfl; have hfz10_0 := blk_frozen BK166.out 0; have hfz10_1 := blk_frozen BK166.out 1; have hfz10_2 := blk_frozen BK166.out 2))
 refine bodyPost_ret (results_cell_row rfl _ _ gb166 141 #[.int .i64 a0_0, .int .i64 a0_1, .int .i64 a0_2] (0, 0) _ rfl (by (with_reducible repeat (first | refine blk_drewN ?_ _ | refine blk_drew ?_ | refine blk_alloc ?_ _)); refine blk_put (cs := #[.int .i64 a0_0, .int .i64 a0_1, .int .i64 0]) ?_ 2 _ rfl; (with_reducible repeat (first | refine blk_drewN ?_ _ | refine blk_drew ?_ | refine blk_alloc ?_ _)); refine blk_put (cs := #[.int .i64 a0_0, .int .i64 0, .int .i64 0]) ?_ 1 _ rfl; (with_reducible repeat (first | refine blk_drewN ?_ _ | refine blk_drew ?_ | refine blk_alloc ?_ _)); refine blk_put (cs := #[.int .i64 0, .int .i64 0, .int .i64 0]) ?_ 0 _ rfl; (with_reducible repeat (first | refine blk_drewN ?_ _ | refine blk_drew ?_ | refine blk_alloc ?_ _)); refine blk_far ?_ NB166_167.out _; (with_reducible repeat (first | refine blk_drewN ?_ _ | refine blk_drew ?_ | refine blk_alloc ?_ _)); refine blk_far ?_ NB166_167.out _; (with_reducible repeat (first | refine blk_drewN ?_ _ | refine blk_drew ?_ | refine blk_alloc ?_ _)); refine blk_far ?_ NB166_167.out _; exact kz BK166) Try.underlying141 rfl (by kernel_rfl)) rfl ?_
 exact ⟨rz, bz3 HB GE165 GE166 GE167⟩
end Go.Proofs.Ytndmhmekmkgccaa.PFnExactInRange
end
section
namespace Go.Proofs.Ytndmhmekmkgccaa.PFnExactInRange
open Go.RowKit Go.Proofs.YtndmhmekmkgccaaW.PrintWords Go.Proofs.YtndmhmekmkgccaaW.PrintLast Go.Proofs.YtndmhmekmkgccaaW.PrintMore
attribute [local go_sem] max2_int min2_int max_two min_two max_three min_three max_four min_four   -- for this text's walks alone
set_option linter.unusedVariables false
set_option linter.unusedSimpArgs false
set_option maxHeartbeats 8000000 in
set_option maxRecDepth 100000 in
theorem laws_toVarS.calls (k : Nat) (A0 : Option Addr) (c0 : Nat) (l0 : List (LVar)) (r : List (IVar)) (w : World) (hr0 : Kd.C k147 w A0 l0.length l0) (hc0 : l0.length ≤ c0) (h : laws_toVarS.f k l0 = some r) :
  Calls Try.prog 61 #[.slice A0 l0.length c0] w fun e w' => ∃ v0_ : Value, e = .returned (v0_) ∧ Kd.R k141 141 w' w.heap.size (fun _ => True) v0_ r ∧ Below w.heap.size w w' := by
 have hu147 := Try.underlying147
 have hu141 := Try.underlying141
 have HR0 := Aside0.mk hr0
 have HC0 := Aside0.mk hc0
 clear hr0 hc0
 have HB := Aside0.mk (Below.refl w.heap.size w)
 have H : (if 0 ≤ (l0.length : Int) then (if ((l0.length : Int) : Int).toNat ≤ 11728124029610 then (laws_toVarS.l0 k l0 (List.replicate ((l0.length : Int) : Int).toNat zIVar) 0) else (none)) else (none)) = some r := h
 clear h
 by_cases c2 : 0 ≤ (l0.length : Int)
 ·
  rw [if_pos c2] at H
  have c2b0 := eq_true c2
  have c2b1 : decide (0 ≤ (l0.length : Int)) = true := decide_eq_true c2
  clear c2
  by_cases c3 : ((l0.length : Int) : Int).toNat ≤ 11728124029610
  ·
   rw [if_pos c3] at H
   have c3b0 := eq_true c3
   have c3b1 : decide (((l0.length : Int) : Int).toNat ≤ 11728124029610) = true := decide_eq_true c3
   clear c3
   obtain ⟨y168, hy168⟩ : ∃ y_ : List (IVar), y_ = (List.replicate ((l0.length : Int) : Int).toNat zIVar) := ⟨_, rfl⟩
   replace H : (laws_toVarS.l0 k l0 y168 0) = some r := by first | (rw [hy168]; with_reducible exact H) | (have H2_ := (Option.bind_some _ _).symm.trans H; rw [hy168]; with_reducible exact H2_) | (have H2_ := (Option.bind_some _ _).symm.trans H; with_reducible exact H2_) | with_reducible exact H | (rw [hy168]; exact H) | exact H
   have Ny168 := Aside0.mk hy168
   clear hy168
   have H' := Aside0.mk H
   clear H
   go_enter Try.func61, Try.ntmps61
   go_wp2_with (first | ((with_reducible refine gate_dst (N := 7) rfl ?_); refine Kd.R_make k141 _ 141 rfl (N := 7) rfl 40 _ _ rfl (l0.length : Int) rfl rfl Try.underlying40 (.agg #[(.int .i64 0), (.int .i64 0), (.int .i64 0)]) 24 info141 rfl (by decide) (by omega) zIVar (ok := fun _ => True) (okp := fun _ => True) (k141_mkM _ _ _ zIVar ) (fun _ hk => hk) trivial (dz) (Nat.le_trans (Nat.mul_le_mul_right _ (dz : (l0.length : Int).toNat ≤ 11728124029610)) (by omega)) (Below.refl _ _) (Nat.le_refl _) ?_; intro v169 w4 ho5 hb hg_ hnew_; clear hg_ hnew_; (first | rw [← Ny168.out] at ho5 | (simp only [Int.reduceToNat] at ho5; rw [← Ny168.out] at ho5)); have HO170 := Aside0.mk (Kd.R_lower ho5 (below_size (bz HB))); replace HB := Aside0.mk (below_step (bz HB) hb); clear hb ho5))
   go_loopg [4] k (fun kq v4 w' => ∃ (x3_1 : List (IVar)) (x4_1 : Int), v4 = .int .i64 x4_1 ∧ Aside0 (laws_toVarS.l0 kq l0 x3_1 x4_1 = some r) ∧ Aside0 (kq ≤ k) ∧ Aside0 (Kd.R k141 141 w' w.heap.size (fun _ => True) v169 x3_1) ∧ Aside0 (Below w.heap.size w w'))
   case atStart => exact ⟨(y168), (0), rq, H', ⟨Nat.le_refl _⟩, ⟨ozR HO170⟩, ⟨bz HB⟩⟩
   case round =>
    clear H'
    try clear c2
    try clear c2b0
    try clear c2b1
    try clear p2
    try clear c3
    try clear c3b0
    try clear c3b1
    obtain ⟨x3_1, x4_1, rfl, HA, HK1, HO_3, HB⟩ := hrel
    cases gk with
    | zero => exact absurd HA.out (by simp [laws_toVarS.l0])
    | succ k1 =>
     have H := HA.out
     clear HA
     simp only [laws_toVarS.l0] at H
     by_cases c6 : x4_1 < (l0.length : Int)
     ·
      rw [if_pos c6] at H
      have c6b0 : decide (x4_1 < (l0.length : Int)) = true := decide_eq_true c6
      clear c6
      by_cases c7 : 0 ≤ x4_1
      ·
       rw [if_pos c7] at H
       have c7b0 : decide (0 ≤ x4_1) = true := decide_eq_true c7
       clear c7
       replace H := Option.bind_eq_some_iff.mp H
       obtain ⟨⟨t172, t173, t174⟩, A80, H⟩ := H
       dsimp only at H
       have A8 := Aside0.mk A80
       clear A80
       by_cases c9 : x4_1 < (x3_1.length : Int)
       ·
        rw [if_pos c9] at H
        have c9b0 : decide (x4_1 < (x3_1.length : Int)) = true := decide_eq_true c9
        clear c9
        obtain ⟨y175, hy175⟩ : ∃ y_ : List (IVar), y_ = (x3_1.set (x4_1 : Int).toNat (⟨t172, t173, t174⟩ : IVar)) := ⟨_, rfl⟩
        replace H : (laws_toVarS.l0 k1 l0 y175 (wrap64 (x4_1 + 1))) = some r := by first | (rw [hy175]; with_reducible exact H) | (have H2_ := (Option.bind_some _ _).symm.trans H; rw [hy175]; with_reducible exact H2_) | (have H2_ := (Option.bind_some _ _).symm.trans H; with_reducible exact H2_) | with_reducible exact H | (rw [hy175]; exact H) | exact H
        have Ny175 := Aside0.mk hy175
        clear hy175
        have H' := Aside0.mk H
        clear H
        have p171 : 0 ≤ (x4_1 : Int) := dz
        have q171 : x4_1 < (l0.length : Int) := dz
        obtain ⟨ad171, e171, hx171_0, hx171_1, hx171_2⟩ := at_LVar HR0.out x4_1 p171 q171
        cases e171
        replace hx171_0 := xz HB hx171_0
        replace hx171_1 := xz HB hx171_1
        replace hx171_2 := xz HB hx171_2
        replace p171 := eq_true p171
        replace q171 := eq_true q171
        go_wp2_with (first | ((with_reducible refine gate_callee (f := 116) rfl ?_); refine goesL_ (some 20) rfl rfl Try.func116 (by kernel_rfl) rfl #[.agg #[.int .i64 ((rd_LVar l0 x4_1).f0), .int .i64 ((rd_LVar l0 x4_1).f1), .int .i64 ((rd_LVar l0 x4_1).f2)]] rfl az ?_; (with_reducible refine (laws_toVar.calls ((rd_LVar l0 x4_1).f0) ((rd_LVar l0 x4_1).f1) ((rd_LVar l0 x4_1).f2) t172 t173 t174 _ A8.out).mono ?_); rintro e w11 ⟨rfl, hb⟩; refine ⟨_, rfl, ?_⟩; replace HO_3 := Aside0.mk (Kd.R_below (ozR HO_3) hb); replace HB := Aside0.mk (below_step (bz HB) hb); clear hb; have p10 : 0 ≤ (x4_1 : Int) := dz; have q10 : (x4_1 : Int) < ((x3_1.length : Int) : Int) := dz; obtain ⟨go10, co10, eo10, gb10, gl10, cl10, HG10⟩ := Kd.R_form HO_3.out (by omega); (first | cases eo10 | (injection eo10 with ea_ en_ ec_; (first | subst ea_ | (injection ea_ with ea_; subst ea_)); subst ec_; clear en_)); have GB10 := Aside0.mk gb10; have GG10 := Aside0.mk HG10; clear gb10 gl10 HG10; obtain ⟨ce10, hcl10, hM10, hcc10, hfr10⟩ := Kd.R_elem HO_3.out zIVar (x4_1 : Int) p10 q10; obtain rfl := k141_openM hM10; have hx10_0 : w11.cell? ⟨go10, (x4_1 : Int).toNat * 3, none⟩ = some (.int .i64 ((rd_IVar x3_1 x4_1).f0)) := hcc10 0 _ rfl; have hx10_1 : w11.cell? ⟨go10, (x4_1 : Int).toNat * 3 + 1, none⟩ = some (.int .i64 ((rd_IVar x3_1 x4_1).f1)) := hcc10 1 _ rfl; have hx10_2 : w11.cell? ⟨go10, (x4_1 : Int).toNat * 3 + 2, none⟩ = some (.int .i64 ((rd_IVar x3_1 x4_1).f2)) := hcc10 2 _ rfl; have hf10_0 : w11.frozen? ⟨go10, (x4_1 : Int).toNat * 3, none⟩ = false := hfr10 0; have hf10_1 : w11.frozen? ⟨go10, (x4_1 : Int).toNat * 3 + 1, none⟩ = false := hfr10 1; have hf10_2 : w11.frozen? ⟨go10, (x4_1 : Int).toNat * 3 + 2, none⟩ = false := hfr10 2; (try clear hcl10); (try clear hcc10); (try clear hfr10); (try clear hM10); replace p10 := eq_true p10; replace q10 := eq_true q10; have HX12 := Aside0.mk (show Kd.R k141 141 w11 w.heap.size (fun _ => True) (.slice (some ⟨go10, 0, none⟩) x3_1.length co10) x3_1 from (ozR HO_3)); obtain ⟨ce12, hcl12, hM12, hcc12, hfr12⟩ := Kd.R_elem HX12.out zIVar (x4_1 : Int) (dz) (by have h_ : (x4_1 : Int) < ((x3_1.length : Int) : Int) := dz; first | exact h_ | (have e_ := (Kd.R_reads' HO_3.out).1; omega) | simpa using h_); obtain rfl := k141_openM hM12; have HP12 := Kd.R_seg HX12.out (x4_1 : Int) (dz) (by have h_ : (x4_1 : Int) < ((x3_1.length : Int) : Int) := dz; first | exact h_ | (have e_ := (Kd.R_reads' HO_3.out).1; omega) | simpa using h_) (seg := [.int .i64 t172, .int .i64 t173, .int .i64 t174]) (j := 0) hcl12 hcc12 (show 3 ≤ 3 from by decide) (x' := (⟨t172, t173, t174⟩ : IVar)) (k141_mkM _ _ _ (⟨t172, t173, t174⟩ : IVar) ) (fun _ hk => hk); have hx12_0 := hcc12 0 _ rfl; (try simp only [show (k141).sz = 3 from rfl, Nat.mul_one, Nat.add_zero] at hx12_0); have hf12_0 := hfr12 0; (try simp only [show (k141).sz = 3 from rfl, Nat.mul_one, Nat.add_zero] at hf12_0); have hx12_1 := hcc12 1 _ rfl; (try simp only [show (k141).sz = 3 from rfl, Nat.mul_one, Nat.add_zero] at hx12_1); have hf12_1 := hfr12 1; (try simp only [show (k141).sz = 3 from rfl, Nat.mul_one, Nat.add_zero] at hf12_1); have hx12_2 := hcc12 2 _ rfl; (try simp only [show (k141).sz = 3 from rfl, Nat.mul_one, Nat.add_zero] at hx12_2); have hf12_2 := hfr12 2; (try simp only [show (k141).sz = 3 from rfl, Nat.mul_one, Nat.add_zero] at hf12_2); (try clear hcl12); (try clear hcc12); (try clear hfr12); (try clear hM12)) | ((with_reducible refine gate_store (t := 141) (p := 21) rfl ?_); refine store_event (t := 141) (p := 21) (v := ?vo_w13) (w1 := (((w11.setCell ⟨go10, (x4_1 : Int).toNat * 3, none⟩ (.int .i64 t172)).setCell ⟨go10, (x4_1 : Int).toNat * 3 + 1, none⟩ (.int .i64 t173)).setCell ⟨go10, (x4_1 : Int).toNat * 3 + 2, none⟩ (.int .i64 t174))) ?hg ?ho ?hn ?hr ?_; (case ho => rfl); (case hg => rfl); (case hn => rfl); (case hr => first | (go_simp; done) | (go_simp; rfl)); intro w13 hw; have hg : w11.grownBy w13 (some go10) := (by rw [hw]; exact HP12.2); have hp_ : Kd.R k141 141 w13 w.heap.size (fun _ => True) (.slice (some ⟨go10, 0, none⟩) x3_1.length co10) y175 := (by rw [hw, Ny175.out]; exact HP12.1); clear HP12; replace HO_3 := Aside0.mk (hp_); replace HB := Aside0.mk ((by rw [hw]; exact below_set (below_set (below_set (HB.out) GB10.out) GB10.out) GB10.out : Below w.heap.size w w13)); clear hg hw hp_))
        go_roundg k1
        case measure => have := HK1.out; omega
        case rel => exact ⟨(y175), (wrap64 (x4_1 + 1)), rq, H', ⟨by have := HK1.out; omega⟩, ⟨ozR HO_3⟩, ⟨bz HB⟩⟩
       ·
        rw [if_neg c9] at H
        exact absurd H (by simp)
      ·
       rw [if_neg c7] at H
       exact absurd H (by simp)
     ·
      rw [if_neg c6] at H
      have c6b0 : decide (x4_1 < (l0.length : Int)) = false := decide_eq_false c6
      clear c6
      obtain rfl := Option.some.inj H
      go_wp2
      go_ret
      exact ⟨_, rz, ozR HO_3, bz HB⟩
  ·
   rw [if_neg c3] at H
   exact absurd H (by simp)
 ·
  rw [if_neg c2] at H
  exact absurd H (by simp)
end Go.Proofs.Ytndmhmekmkgccaa.PFnExactInRange
end
section
namespace Go.Proofs.Ytndmhmekmkgccaa.PFnExactInRange
open Go.RowKit Go.Proofs.YtndmhmekmkgccaaW.PrintWords Go.Proofs.YtndmhmekmkgccaaW.PrintLast Go.Proofs.YtndmhmekmkgccaaW.PrintMore
attribute [local go_sem] max2_int min2_int max_two min_two max_three min_three max_four min_four   -- for this text's walks alone
set_option linter.unusedVariables false
set_option linter.unusedSimpArgs false
set_option maxHeartbeats 8000000 in
set_option maxRecDepth 100000 in
theorem laws_toTerm.calls (a0_0 : Int) (a0_1 : Int) (a0_2 : Int) (a0_3 : Int) (r1 : Int) (r2 : Int) (r3 : Int) (r4 : Int) (w : World) (h : laws_toTerm.f a0_0 a0_1 a0_2 a0_3 = some (r1, r2, r3, r4)) :
  Calls Try.prog 169 #[.agg #[.int .i64 a0_0, .int .i64 a0_1, .int .i64 a0_2, .int .i64 a0_3]] w fun e w' => e = .returned (.agg #[.int .i64 r1, .int .i64 r2, .int .i64 r3, .int .i64 r4]) ∧ Below w.heap.size w w' := by
 have hu180 := Try.underlying180
 have hu107 := Try.underlying107
 have HB := Aside0.mk (Below.refl w.heap.size w)
 have H : (some (a0_0, a0_1, a0_2, a0_3)) = some (r1, r2, r3, r4) := h
 clear h
 simp only [Option.some.injEq, Prod.mk.injEq] at H
 obtain ⟨rfl, rfl, rfl, rfl⟩ := H
 go_enter Try.func169, Try.ntmps169
 go_wp2_with (first | ((with_reducible refine gate_dst (N := 1) rfl ?_); refine box_event ?hg (N := 1) ?hd (cs := #[.int .i64 a0_0, .int .i64 a0_1, .int .i64 a0_2, .int .i64 a0_3]) (t := 180) ?hr ?_; (case hd => rfl); (case hg => rfl); (case hr => first | (go_simp; done) | (go_simp; rfl)); intro gb181 hg w2 hbox hb; have n0_ := Aside0.mk (below_step (bz HB) hb); have n1_ := Aside0.mk (hbox); have n2_ := Aside0.mk ((by rw [hg]; exact (below_size (bz HB)) : w.heap.size ≤ gb181)); have n3_ := Aside0.mk ((by rw [hg]; exact (below_size (bz HB)) : w.heap.size ≤ gb181)); clear HB; have HB := n0_; have BK181 := n1_; have GW181 := n2_; have GE181 := n3_; clear n0_ n1_ n2_ n3_; clear hb hbox hg) | ((with_reducible refine gate_dst (N := 2) rfl ?_); refine box_event ?hg (N := 2) ?hd (cs := #[.int .i64 0, .int .i64 0, .int .i64 0, .int .i64 0]) (t := 107) ?hr ?_; (case hd => rfl); (case hg => rfl); (case hr => first | (go_simp; done) | (go_simp; rfl)); intro gb182 hg w3 hbox hb; have n0_ := Aside0.mk (blk_below (g := gb181) (o := .cells #[.int .i64 a0_0, .int .i64 a0_1, .int .i64 a0_2, .int .i64 a0_3] 180 (0, 0)) (kz BK181) hb); have n1_ := Aside0.mk (below_step (bz1 HB GE181) hb); have n2_ := Aside0.mk (hbox); have n3_ := Aside0.mk ((by rw [hg]; exact (below_size (bz1 HB GE181)) : w.heap.size ≤ gb182)); have n4_ := Aside0.mk ((by rw [hg]; exact (below_size (bz1 HB GE181)) : w.heap.size ≤ gb182)); have n5_ := Aside0.mk ((by rw [hg]; exact Nat.ne_of_lt (blk_lt (g := gb181) (o := .cells #[.int .i64 a0_0, .int .i64 a0_1, .int .i64 a0_2, .int .i64 a0_3] 180 (0, 0)) (kz BK181)) : gb181 ≠ gb182)); have n6_ := Aside0.mk ((by rw [hg]; exact Nat.ne_of_gt (blk_lt (g := gb181) (o := .cells #[.int .i64 a0_0, .int .i64 a0_1, .int .i64 a0_2, .int .i64 a0_3] 180 (0, 0)) (kz BK181)) : gb182 ≠ gb181)); clear BK181; clear HB; have BK181 := n0_; have HB := n1_; have BK182 := n2_; have GW182 := n3_; have GE182 := n4_; have NB181_182 := n5_; have NB182_181 := n6_; clear n0_ n1_ n2_ n3_ n4_ n5_ n6_; clear hb hbox hg) | ((with_reducible refine gate_dst (N := 3) rfl ?_); refine box_event ?hg (N := 3) ?hd (cs := #[.int .i64 0, .int .i64 0, .int .i64 0, .int .i64 0]) (t := 107) ?hr ?_; (case hd => rfl); (case hg => rfl); (case hr => first | (go_simp; done) | (go_simp; rfl)); intro gb183 hg w4 hbox hb; have n0_ := Aside0.mk (blk_below (g := gb181) (o := .cells #[.int .i64 a0_0, .int .i64 a0_1, .int .i64 a0_2, .int .i64 a0_3] 180 (0, 0)) (kz BK181) hb); have n1_ := Aside0.mk (blk_below (g := gb182) (o := .cells #[.int .i64 0, .int .i64 0, .int .i64 0, .int .i64 0] 107 (0, 0)) (kz BK182) hb); have n2_ := Aside0.mk (below_step (bz2 HB GE181 GE182) hb); have n3_ := Aside0.mk (hbox); have n4_ := Aside0.mk ((by rw [hg]; exact (below_size (bz2 HB GE181 GE182)) : w.heap.size ≤ gb183)); have n5_ := Aside0.mk ((by rw [hg]; exact (below_size (bz2 HB GE181 GE182)) : w.heap.size ≤ gb183)); have n6_ := Aside0.mk ((by rw [hg]; exact Nat.ne_of_lt (blk_lt (g := gb181) (o := .cells #[.int .i64 a0_0, .int .i64 a0_1, .int .i64 a0_2, .int .i64 a0_3] 180 (0, 0)) (kz BK181)) : gb181 ≠ gb183)); have n7_ := Aside0.mk ((by rw [hg]; exact Nat.ne_of_gt (blk_lt (g := gb181) (o := .cells #[.int .i64 a0_0, .int .i64 a0_1, .int .i64 a0_2, .int .i64 a0_3] 180 (0, 0)) (kz BK181)) : gb183 ≠ gb181)); have n8_ := Aside0.mk ((by rw [hg]; exact Nat.ne_of_lt (blk_lt (g := gb182) (o := .cells #[.int .i64 0, .int .i64 0, .int .i64 0, .int .i64 0] 107 (0, 0)) (kz BK182)) : gb182 ≠ gb183)); have n9_ := Aside0.mk ((by rw [hg]; exact Nat.ne_of_gt (blk_lt (g := gb182) (o := .cells #[.int .i64 0, .int .i64 0, .int .i64 0, .int .i64 0] 107 (0, 0)) (kz BK182)) : gb183 ≠ gb182)); clear BK181; clear BK182; clear HB; have BK181 := n0_; have BK182 := n1_; have HB := n2_; have BK183 := n3_; have GW183 := n4_; have GE183 := n5_; have NB181_183 := n6_; have NB183_181 := n7_; have NB182_183 := n8_; have NB183_182 := n9_; clear n0_ n1_ n2_ n3_ n4_ n5_ n6_ n7_ n8_ n9_; clear hb hbox hg; have hnb5 := NB181_182.out; have hnc5 := NB182_181.out; have hnb6 := NB181_183.out; have hnc6 := NB183_181.out; have hcz7_0 : w4.cell? ⟨gb181, 0, none⟩ = some (.int .i64 a0_0) := (blk_cell BK181.out 0).trans rfl; have hcz7_1 : w4.cell? ⟨gb181, 1, none⟩ = some (.int .i64 a0_1) := (blk_cell BK181.out 1).trans rfl; have hcz7_2 : w4.cell? ⟨gb181, 2, none⟩ = some (.int .i64 a0_2) := (blk_cell BK181.out 2).trans rfl; have hcz7_3 : w4.cell? ⟨gb181, 3, none⟩ = some (.int .i64 a0_3) := (blk_cell BK181.out 3).trans rfl; have hfz7_0 := blk_frozen BK181.out 0; have hfz7_1 := blk_frozen BK181.out 1; have hfz7_2 := blk_frozen BK181.out 2; have hfz7_3 := blk_frozen BK181.out 3; have hnb8 := NB183_182.out; have hnc8 := NB182_183.out; have hcz9_0 : w4.cell? ⟨gb183, 0, none⟩ = some (.int .i64 0) := (blk_cell BK183.out 0).trans rfl; have hcz9_1 : w4.cell? ⟨gb183, 1, none⟩ = some (.int .i64 0) := (blk_cell BK183.out 1).trans rfl; have hcz9_2 : w4.cell? ⟨gb183, 2, none⟩ = some (.int .i64 0) := (blk_cell BK183.out 2).trans rfl; have hcz9_3 : w4.cell? ⟨gb183, 3, none⟩ = some (.int .i64 0) := (blk_cell BK183.out 3).trans rfl; have hfz9_0 := blk_frozen BK183.out 0; have hfz9_1 := blk_frozen BK183.out 1; have hfz9_2 := blk_frozen BK183.out 2; have hfz9_3 := blk_frozen BK183.out 3; have hcz10_0 : w4.cell? ⟨gb182, 0, none⟩ = some (.int .i64 0) := (blk_cell BK182.out 0).trans rfl; have hcz10_1 : w4.cell? ⟨gb182, 1, none⟩ = some (.int .i64 0) := (blk_cell BK182.out 1).trans rfl; have hcz10_2 : w4.cell? ⟨gb182, 2, none⟩ = some (.int .i64 0) := (blk_cell BK182.out 2).trans rfl; have hcz10_3 : w4.cell? ⟨gb182, 3, none⟩ = some (.int .i64 0) := (blk_cell BK182.out 3).trans rfl; have hfz10_0 := blk_frozen BK182.out 0; have hfz10_1 := blk_frozen BK182.out 1; have hfz10_2 := blk_frozen BK182.out 2; have hfz10_3 := blk_frozen BK182.out 3))
 refine bodyPost_ret (results_cell_row rfl _ _ gb182 107 #[.int .i64 a0_0, .int .i64 a0_1, .int .i64 a0_2, .int .i64 a0_3] (0, 0) _ rfl (by (with_reducible repeat (first | refine blk_drewN ?_ _ | refine blk_drew ?_ | refine blk_alloc ?_ _)); refine blk_put (cs := #[.int .i64 a0_0, .int .i64 a0_1, .int .i64 a0_2, .int .i64 0]) ?_ 3 _ rfl; (with_reducible repeat (first | refine blk_drewN ?_ _ | refine blk_drew ?_ | refine blk_alloc ?_ _)); refine blk_put (cs := #[.int .i64 a0_0, .int .i64 a0_1, .int .i64 0, .int .i64 0]) ?_ 2 _ rfl; (with_reducible repeat (first | refine blk_drewN ?_ _ | refine blk_drew ?_ | refine blk_alloc ?_ _)); refine blk_put (cs := #[.int .i64 a0_0, .int .i64 0, .int .i64 0, .int .i64 0]) ?_ 1 _ rfl; (with_reducible repeat (first | refine blk_drewN ?_ _ | refine blk_drew ?_ | refine blk_alloc ?_ _)); refine blk_put (cs := #[.int .i64 0, .int .i64 0, .int .i64 0, .int .i64 0]) ?_ 0 _ rfl; (with_reducible repeat (first | refine blk_drewN ?_ _ | refine blk_drew ?_ | refine blk_alloc ?_ _)); refine blk_far ?_ NB182_183.out _; (with_reducible repeat (first | refine blk_drewN ?_ _ | refine blk_drew ?_ | refine blk_alloc ?_ _)); refine blk_far ?_ NB182_183.out _; (with_reducible repeat (first | refine blk_drewN ?_ _ | refine blk_drew ?_ | refine blk_alloc ?_ _)); refine blk_far ?_ NB182_183.out _; (with_reducible repeat (first | refine blk_drewN ?_ _ | refine blk_drew ?_ | refine blk_alloc ?_ _)); refine blk_far ?_ NB182_183.out _; exact kz BK182) Try.underlying107 rfl (by kernel_rfl)) rfl ?_
 exact ⟨rz, bz3 HB GE181 GE182 GE183⟩
end Go.Proofs.Ytndmhmekmkgccaa.PFnExactInRange
end
section
namespace Go.Proofs.Ytndmhmekmkgccaa.PFnExactInRange
open Go.RowKit Go.Proofs.YtndmhmekmkgccaaW.PrintWords Go.Proofs.YtndmhmekmkgccaaW.PrintLast Go.Proofs.YtndmhmekmkgccaaW.PrintMore
attribute [local go_sem] max2_int min2_int max_two min_two max_three min_three max_four min_four   -- for this text's walks alone
set_option linter.unusedVariables false
set_option linter.unusedSimpArgs false
set_option maxHeartbeats 8000000 in
set_option maxRecDepth 100000 in
theorem laws_toTermS.calls (k : Nat) (A0 : Option Addr) (c0 : Nat) (l0 : List (LTerm)) (r : List (ITerm)) (w : World) (hr0 : Kd.C k180 w A0 l0.length l0) (hc0 : l0.length ≤ c0) (h : laws_toTermS.f k l0 = some r) :
  Calls Try.prog 157 #[.slice A0 l0.length c0] w fun e w' => ∃ v0_ : Value, e = .returned (v0_) ∧ Kd.R k107 107 w' w.heap.size (fun _ => True) v0_ r ∧ Below w.heap.size w w' := by
 have hu180 := Try.underlying180
 have hu107 := Try.underlying107
 have HR0 := Aside0.mk hr0
 have HC0 := Aside0.mk hc0
 clear hr0 hc0
 have HB := Aside0.mk (Below.refl w.heap.size w)
 have H : (if 0 ≤ (l0.length : Int) then (if ((l0.length : Int) : Int).toNat ≤ 8796093022208 then (laws_toTermS.l0 k l0 (List.replicate ((l0.length : Int) : Int).toNat zITerm) 0) else (none)) else (none)) = some r := h
 clear h
 by_cases c2 : 0 ≤ (l0.length : Int)
 ·
  rw [if_pos c2] at H
  have c2b0 := eq_true c2
  have c2b1 : decide (0 ≤ (l0.length : Int)) = true := decide_eq_true c2
  clear c2
  by_cases c3 : ((l0.length : Int) : Int).toNat ≤ 8796093022208
  ·
   rw [if_pos c3] at H
   have c3b0 := eq_true c3
   have c3b1 : decide (((l0.length : Int) : Int).toNat ≤ 8796093022208) = true := decide_eq_true c3
   clear c3
   obtain ⟨y184, hy184⟩ : ∃ y_ : List (ITerm), y_ = (List.replicate ((l0.length : Int) : Int).toNat zITerm) := ⟨_, rfl⟩
   replace H : (laws_toTermS.l0 k l0 y184 0) = some r := by first | (rw [hy184]; with_reducible exact H) | (have H2_ := (Option.bind_some _ _).symm.trans H; rw [hy184]; with_reducible exact H2_) | (have H2_ := (Option.bind_some _ _).symm.trans H; with_reducible exact H2_) | with_reducible exact H | (rw [hy184]; exact H) | exact H
   have Ny184 := Aside0.mk hy184
   clear hy184
   have H' := Aside0.mk H
   clear H
   go_enter Try.func157, Try.ntmps157
   go_wp2_with (first | ((with_reducible refine gate_dst (N := 7) rfl ?_); refine Kd.R_make k107 _ 107 rfl (N := 7) rfl 57 _ _ rfl (l0.length : Int) rfl rfl Try.underlying57 (.agg #[(.int .i64 0), (.int .i64 0), (.int .i64 0), (.int .i64 0)]) 32 info107 rfl (by decide) (by omega) zITerm (ok := fun _ => True) (okp := fun _ => True) (k107_mkM _ _ _ zITerm ) (fun _ hk => hk) trivial (dz) (Nat.le_trans (Nat.mul_le_mul_right _ (dz : (l0.length : Int).toNat ≤ 8796093022208)) (by omega)) (Below.refl _ _) (Nat.le_refl _) ?_; intro v185 w4 ho5 hb hg_ hnew_; clear hg_ hnew_; (first | rw [← Ny184.out] at ho5 | (simp only [Int.reduceToNat] at ho5; rw [← Ny184.out] at ho5)); have HO186 := Aside0.mk (Kd.R_lower ho5 (below_size (bz HB))); replace HB := Aside0.mk (below_step (bz HB) hb); clear hb ho5))
   go_loopg [4] k (fun kq v4 w' => ∃ (x3_1 : List (ITerm)) (x4_1 : Int), v4 = .int .i64 x4_1 ∧ Aside0 (laws_toTermS.l0 kq l0 x3_1 x4_1 = some r) ∧ Aside0 (kq ≤ k) ∧ Aside0 (Kd.R k107 107 w' w.heap.size (fun _ => True) v185 x3_1) ∧ Aside0 (Below w.heap.size w w'))
   case atStart => exact ⟨(y184), (0), rq, H', ⟨Nat.le_refl _⟩, ⟨ozR HO186⟩, ⟨bz HB⟩⟩
   case round =>
    clear H'
    try clear c1
    try clear c2
    try clear c2b0
    try clear c2b1
    try clear p2
    try clear c3
    try clear c3b0
    try clear c3b1
    obtain ⟨x3_1, x4_1, rfl, HA, HK1, HO_3, HB⟩ := hrel
    cases gk with
    | zero => exact absurd HA.out (by simp [laws_toTermS.l0])
    | succ k1 =>
     have H := HA.out
     clear HA
     simp only [laws_toTermS.l0] at H
     by_cases c6 : x4_1 < (l0.length : Int)
     ·
      rw [if_pos c6] at H
      have c6b0 : decide (x4_1 < (l0.length : Int)) = true := decide_eq_true c6
      clear c6
      by_cases c7 : 0 ≤ x4_1
      ·
       rw [if_pos c7] at H
       have c7b0 : decide (0 ≤ x4_1) = true := decide_eq_true c7
       clear c7
       replace H := Option.bind_eq_some_iff.mp H
       obtain ⟨⟨t188, t189, t190, t191⟩, A80, H⟩ := H
       dsimp only at H
       have A8 := Aside0.mk A80
       clear A80
       by_cases c9 : x4_1 < (x3_1.length : Int)
       ·
        rw [if_pos c9] at H
        have c9b0 : decide (x4_1 < (x3_1.length : Int)) = true := decide_eq_true c9
        clear c9
        obtain ⟨y192, hy192⟩ : ∃ y_ : List (ITerm), y_ = (x3_1.set (x4_1 : Int).toNat (⟨t188, t189, t190, t191⟩ : ITerm)) := ⟨_, rfl⟩
        replace H : (laws_toTermS.l0 k1 l0 y192 (wrap64 (x4_1 + 1))) = some r := by first | (rw [hy192]; with_reducible exact H) | (have H2_ := (Option.bind_some _ _).symm.trans H; rw [hy192]; with_reducible exact H2_) | (have H2_ := (Option.bind_some _ _).symm.trans H; with_reducible exact H2_) | with_reducible exact H | (rw [hy192]; exact H) | exact H
        have Ny192 := Aside0.mk hy192
        clear hy192
        have H' := Aside0.mk H
        clear H
        have p187 : 0 ≤ (x4_1 : Int) := dz
        have q187 : x4_1 < (l0.length : Int) := dz
        obtain ⟨ad187, e187, hx187_0, hx187_1, hx187_2, hx187_3⟩ := at_LTerm HR0.out x4_1 p187 q187
        cases e187
        replace hx187_0 := xz HB hx187_0
        replace hx187_1 := xz HB hx187_1
        replace hx187_2 := xz HB hx187_2
        replace hx187_3 := xz HB hx187_3
        replace p187 := eq_true p187
        replace q187 := eq_true q187
        go_wp2_with (first | ((with_reducible refine gate_callee (f := 169) rfl ?_); refine goesL_ (some 20) rfl rfl Try.func169 (by kernel_rfl) rfl #[.agg #[.int .i64 ((rd_LTerm l0 x4_1).f0), .int .i64 ((rd_LTerm l0 x4_1).f1), .int .i64 ((rd_LTerm l0 x4_1).f2), .int .i64 ((rd_LTerm l0 x4_1).f3)]] rfl az ?_; (with_reducible refine (laws_toTerm.calls ((rd_LTerm l0 x4_1).f0) ((rd_LTerm l0 x4_1).f1) ((rd_LTerm l0 x4_1).f2) ((rd_LTerm l0 x4_1).f3) t188 t189 t190 t191 _ A8.out).mono ?_); rintro e w11 ⟨rfl, hb⟩; refine ⟨_, rfl, ?_⟩; replace HO_3 := Aside0.mk (Kd.R_below (ozR HO_3) hb); replace HB := Aside0.mk (below_step (bz HB) hb); clear hb; have p10 : 0 ≤ (x4_1 : Int) := dz; have q10 : (x4_1 : Int) < ((x3_1.length : Int) : Int) := dz; obtain ⟨go10, co10, eo10, gb10, gl10, cl10, HG10⟩ := Kd.R_form HO_3.out (by omega); (first | cases eo10 | (injection eo10 with ea_ en_ ec_; (first | subst ea_ | (injection ea_ with ea_; subst ea_)); subst ec_; clear en_)); have GB10 := Aside0.mk gb10; have GG10 := Aside0.mk HG10; clear gb10 gl10 HG10; obtain ⟨ce10, hcl10, hM10, hcc10, hfr10⟩ := Kd.R_elem HO_3.out zITerm (x4_1 : Int) p10 q10; obtain rfl := k107_openM hM10; have hx10_0 : w11.cell? ⟨go10, (x4_1 : Int).toNat * 4, none⟩ = some (.int .i64 ((rd_ITerm x3_1 x4_1).f0)) := hcc10 0 _ rfl; have hx10_1 : w11.cell? ⟨go10, (x4_1 : Int).toNat * 4 + 1, none⟩ = some (.int .i64 ((rd_ITerm x3_1 x4_1).f1)) := hcc10 1 _ rfl; have hx10_2 : w11.cell? ⟨go10, (x4_1 : Int).toNat * 4 + 2, none⟩ = some (.int .i64 ((rd_ITerm x3_1 x4_1).f2)) := hcc10 2 _ rfl; have hx10_3 : w11.cell? ⟨go10, (x4_1 : Int).toNat * 4 + 3, none⟩ = some (.int .i64 ((rd_ITerm x3_1 x4_1).f3)) := hcc10 3 _ rfl; have hf10_0 : w11.frozen? ⟨go10, (x4_1 : Int).toNat * 4, none⟩ = false := hfr10 0; have hf10_1 : w11.frozen? ⟨go10, (x4_1 : Int).toNat * 4 + 1, none⟩ = false := hfr10 1; have hf10_2 : w11.frozen? ⟨go10, (x4_1 : Int).toNat * 4 + 2, none⟩ = false := hfr10 2; have hf10_3 : w11.frozen? ⟨go10, (x4_1 : Int).toNat * 4 + 3, none⟩ = false := hfr10 3; (try clear hcl10); (try clear hcc10); (try clear hfr10); (try clear hM10); replace p10 := eq_true p10; replace q10 := eq_true q10; have HX12 := Aside0.mk (show Kd.R k107 107 w11 w.heap.size (fun _ => True) (.slice (some ⟨go10, 0, none⟩) x3_1.length co10) x3_1 from (ozR HO_3)); obtain ⟨ce12, hcl12, hM12, hcc12, hfr12⟩ := Kd.R_elem HX12.out zITerm (x4_1 : Int) (dz) (by have h_ : (x4_1 : Int) < ((x3_1.length : Int) : Int) := dz; first | exact h_ | (have e_ := (Kd.R_reads' HO_3.out).1; omega) | simpa using h_); obtain rfl := k107_openM hM12; have HP12 := Kd.R_seg HX12.out (x4_1 : Int) (dz) (by have h_ : (x4_1 : Int) < ((x3_1.length : Int) : Int) := dz; first | exact h_ | (have e_ := (Kd.R_reads' HO_3.out).1; omega) | simpa using h_) (seg := [.int .i64 t188, .int .i64 t189, .int .i64 t190, .int .i64 t191]) (j := 0) hcl12 hcc12 (show 4 ≤ 4 from by decide) (x' := (⟨t188, t189, t190, t191⟩ : ITerm)) (k107_mkM _ _ _ (⟨t188, t189, t190, t191⟩ : ITerm) ) (fun _ hk => hk); have hx12_0 := hcc12 0 _ rfl; (try simp only [show (k107).sz = 4 from rfl, Nat.mul_one, Nat.add_zero] at hx12_0); have hf12_0 := hfr12 0; (try simp only [show (k107).sz = 4 from rfl, Nat.mul_one, Nat.add_zero] at hf12_0); have hx12_1 := hcc12 1 _ rfl; (try simp only [show (k107).sz = 4 from rfl, Nat.mul_one, Nat.add_zero] at hx12_1); have hf12_1 := hfr12 1; (try simp only [show (k107).sz = 4 from rfl, Nat.mul_one, Nat.add_zero] at hf12_1); have hx12_2 := hcc12 2 _ rfl; (try simp only [show (k107).sz = 4 from rfl, Nat.mul_one, Nat.add_zero] at hx12_2); have hf12_2 := hfr12 2; (try simp only [show (k107).sz = 4 from rfl, Nat.mul_one, Nat.add_zero] at hf12_2); have hx12_3 := hcc12 3 _ rfl; (try simp only [show (k107).sz = 4 from rfl, Nat.mul_one, Nat.add_zero] at hx12_3); have hf12_3 := hfr12 3; (try simp only [show (k107).sz = 4 from rfl, Nat.mul_one, Nat.add_zero] at hf12_3); (try clear hcl12); (try clear hcc12); (try clear hfr12); (try clear hM12)) | ((with_reducible refine gate_store (t := 107) (p := 21) rfl ?_); refine store_event (t := 107) (p := 21) (v := ?vo_w13) (w1 := ((((w11.setCell ⟨go10, (x4_1 : Int).toNat * 4, none⟩ (.int .i64 t188)).setCell ⟨go10, (x4_1 : Int).toNat * 4 + 1, none⟩ (.int .i64 t189)).setCell ⟨go10, (x4_1 : Int).toNat * 4 + 2, none⟩ (.int .i64 t190)).setCell ⟨go10, (x4_1 : Int).toNat * 4 + 3, none⟩ (.int .i64 t191))) ?hg ?ho ?hn ?hr ?_; (case ho => rfl); (case hg => rfl); (case hn => rfl); (case hr => first | (go_simp; done) | (go_simp; rfl)); intro w13 hw; have hg : w11.grownBy w13 (some go10) := (by rw [hw]; exact HP12.2); have hp_ : Kd.R k107 107 w13 w.heap.size (fun _ => True) (.slice (some ⟨go10, 0, none⟩) x3_1.length co10) y192 := (by rw [hw, Ny192.out]; exact HP12.1); clear HP12; replace HO_3 := Aside0.mk (hp_); replace HB := Aside0.mk ((by rw [hw]; exact below_set (below_set (below_set (below_set (HB.out) GB10.out) GB10.out) GB10.out) GB10.out : Below w.heap.size w w13)); clear hg hw hp_))
        go_roundg k1
        case measure => have := HK1.out; omega
        case rel => exact ⟨(y192), (wrap64 (x4_1 + 1)), rq, H', ⟨by have := HK1.out; omega⟩, ⟨ozR HO_3⟩, ⟨bz HB⟩⟩
       ·
        rw [if_neg c9] at H
        exact absurd H (by simp)
      ·
       rw [if_neg c7] at H
       exact absurd H (by simp)
     ·
      rw [if_neg c6] at H
      have c6b0 : decide (x4_1 < (l0.length : Int)) = false := decide_eq_false c6
      clear c6
      obtain rfl := Option.some.inj H
      go_wp2
      go_ret
      exact ⟨_, rz, ozR HO_3, bz HB⟩
  ·
   rw [if_neg c3] at H
   exact absurd H (by simp)
 ·
  rw [if_neg c2] at H
  exact absurd H (by simp)
end Go.Proofs.Ytndmhmekmkgccaa.PFnExactInRange
end
section
namespace Go.Proofs.Ytndmhmekmkgccaa.PFnExactInRange
open Go.RowKit Go.Proofs.YtndmhmekmkgccaaW.PrintWords Go.Proofs.YtndmhmekmkgccaaW.PrintLast Go.Proofs.YtndmhmekmkgccaaW.PrintMore
attribute [local go_sem] max2_int min2_int max_two min_two max_three min_three max_four min_four   -- for this text's walks alone
set_option linter.unusedVariables false
set_option linter.unusedSimpArgs false
set_option maxHeartbeats 8000000 in
set_option maxRecDepth 100000 in
theorem laws_toTermSS.calls (k : Nat) (A0 : Option Addr) (c0 : Nat) (l0 : List (List (LTerm))) (r : List (List (ITerm))) (w : World) (hr0 : Kd.C (Kd.slice 180 k180) w A0 l0.length l0) (hc0 : l0.length ≤ c0) (h : laws_toTermSS.f k l0 = some r) :
  Calls Try.prog 158 #[.slice A0 l0.length c0] w fun e w' => ∃ v0_ : Value, e = .returned (v0_) ∧ Kd.S (Kd.slice 107 k107) 57 w' w.heap.size (fun _ => True) v0_ r ∧ Below w.heap.size w w' := by
 have HR0 := Aside0.mk hr0
 have HC0 := Aside0.mk hc0
 clear hr0 hc0
 have HB := Aside0.mk (Below.refl w.heap.size w)
 have H : (if 0 ≤ (l0.length : Int) then (if ((l0.length : Int) : Int).toNat ≤ 11728124029610 then (laws_toTermSS.l0 k l0 (List.replicate ((l0.length : Int) : Int).toNat []) 0) else (none)) else (none)) = some r := h
 clear h
 by_cases c2 : 0 ≤ (l0.length : Int)
 ·
  rw [if_pos c2] at H
  have c2b0 := eq_true c2
  have c2b1 : decide (0 ≤ (l0.length : Int)) = true := decide_eq_true c2
  clear c2
  by_cases c3 : ((l0.length : Int) : Int).toNat ≤ 11728124029610
  ·
   rw [if_pos c3] at H
   have c3b0 := eq_true c3
   have c3b1 : decide (((l0.length : Int) : Int).toNat ≤ 11728124029610) = true := decide_eq_true c3
   clear c3
   obtain ⟨y193, hy193⟩ : ∃ y_ : List (List (ITerm)), y_ = (List.replicate ((l0.length : Int) : Int).toNat []) := ⟨_, rfl⟩
   replace H : (laws_toTermSS.l0 k l0 y193 0) = some r := by first | (rw [hy193]; with_reducible exact H) | (have H2_ := (Option.bind_some _ _).symm.trans H; rw [hy193]; with_reducible exact H2_) | (have H2_ := (Option.bind_some _ _).symm.trans H; with_reducible exact H2_) | with_reducible exact H | (rw [hy193]; exact H) | exact H
   have Ny193 := Aside0.mk hy193
   clear hy193
   have H' := Aside0.mk H
   clear H
   go_enter Try.func158, Try.ntmps158
   go_wp2_with (first | ((with_reducible refine gate_dst (N := 7) rfl ?_); refine Kd.S_make (Kd.slice 107 k107) _ 57 rfl (N := 7) rfl 143 _ _ rfl (l0.length : Int) rfl rfl Try.underlying143 (.slice none 0 0) 24 info57 rfl (by decide) (by omega) [] (ok := fun _ => True) (okp := fun _ => True) ⟨_, rfl, Kd.R_nil _ _ _ _ _⟩ (fun _ hk => hk) trivial (dz) (Nat.le_trans (Nat.mul_le_mul_right _ (dz : (l0.length : Int).toNat ≤ 11728124029610)) (by omega)) (Below.refl _ _) (Nat.le_refl _) ?_; intro v194 w4 ho5 hb hg_ hnew_; clear hg_ hnew_; (first | rw [← Ny193.out] at ho5 | (simp only [Int.reduceToNat] at ho5; rw [← Ny193.out] at ho5)); have HO195 := Aside0.mk (Kd.S_lower ho5 (below_size (bz HB))); replace HB := Aside0.mk (below_step (bz HB) hb); clear hb ho5))
   go_loopg [4] k (fun kq v4 w' => ∃ (x3_1 : List (List (ITerm))) (x4_1 : Int), v4 = .int .i64 x4_1 ∧ Aside0 (laws_toTermSS.l0 kq l0 x3_1 x4_1 = some r) ∧ Aside0 (kq ≤ k) ∧ Aside0 (Kd.S (Kd.slice 107 k107) 57 w' w.heap.size (fun _ => True) v194 x3_1) ∧ Aside0 (Below w.heap.size w w'))
   case atStart => exact ⟨(y193), (0), rq, H', ⟨Nat.le_refl _⟩, ⟨ozS HO195⟩, ⟨bz HB⟩⟩
   case round =>
    clear H'
    try clear c1
    try clear c2
    try clear c2b0
    try clear c2b1
    try clear p2
    try clear c3
    try clear c3b0
    try clear c3b1
    obtain ⟨x3_1, x4_1, rfl, HA, HK1, HO_3, HB⟩ := hrel
    cases gk with
    | zero => exact absurd HA.out (by simp [laws_toTermSS.l0])
    | succ k1 =>
     have H := HA.out
     clear HA
     simp only [laws_toTermSS.l0] at H
     by_cases c6 : x4_1 < (l0.length : Int)
     ·
      rw [if_pos c6] at H
      have c6b0 : decide (x4_1 < (l0.length : Int)) = true := decide_eq_true c6
      clear c6
      by_cases c7 : 0 ≤ x4_1
      ·
       rw [if_pos c7] at H
       have c7b0 : decide (0 ≤ x4_1) = true := decide_eq_true c7
       clear c7
       replace H := Option.bind_eq_some_iff.mp H
       obtain ⟨t197, A80, H⟩ := H
       have A8 := Aside0.mk A80
       clear A80
       by_cases c9 : x4_1 < (x3_1.length : Int)
       ·
        rw [if_pos c9] at H
        have c9b0 : decide (x4_1 < (x3_1.length : Int)) = true := decide_eq_true c9
        clear c9
        obtain ⟨y200, hy200⟩ : ∃ y_ : List (List (ITerm)), y_ = (x3_1.set (x4_1 : Int).toNat t197) := ⟨_, rfl⟩
        replace H : (laws_toTermSS.l0 k1 l0 y200 (wrap64 (x4_1 + 1))) = some r := by first | (rw [hy200]; with_reducible exact H) | (have H2_ := (Option.bind_some _ _).symm.trans H; rw [hy200]; with_reducible exact H2_) | (have H2_ := (Option.bind_some _ _).symm.trans H; with_reducible exact H2_) | with_reducible exact H | (rw [hy200]; exact H) | exact H
        have Ny200 := Aside0.mk hy200
        clear hy200
        have H' := Aside0.mk H
        clear H
        have p196 : 0 ≤ (x4_1 : Int) := dz
        have q196 : x4_1 < (l0.length : Int) := dz
        obtain ⟨ad196, A196_0, c196_0, e196, hx196_0, hl196_0, hi196_0⟩ := at_LLTerm HR0.out x4_1 p196 q196
        cases e196
        replace hx196_0 := xz HB hx196_0
        have HR196_0 := Aside0.mk hi196_0
        have HC196_0 := Aside0.mk hl196_0
        clear hi196_0 hl196_0
        replace p196 := eq_true p196
        replace q196 := eq_true q196
        go_wp2_with (first | ((with_reducible refine gate_callee (f := 157) rfl ?_); refine goesL_ (some 20) rfl rfl Try.func157 (by kernel_rfl) rfl #[.slice A196_0 (rd_LLTerm l0 x4_1).length c196_0] rfl az ?_; (with_reducible refine (laws_toTermS.calls k1 _ _ (rd_LLTerm l0 x4_1) t197 _ ?side1 HC196_0.out A8.out).mono ?_); (case side1 => exact cz HR196_0 HB); rintro e w11 ⟨v198, rfl, ho0, hb⟩; refine ⟨_, rfl, ?_⟩; replace HO_3 := Aside0.mk (Kd.S_elder' (ozS HO_3) (Kd.R_base ho0) hb); have HO199 := Aside0.mk (Kd.R_lower ho0 (below_size (bz HB))); replace HB := Aside0.mk (below_step (bz HB) hb); clear hb; (try clear ho0); have p10 : 0 ≤ (x4_1 : Int) := dz; have q10 : (x4_1 : Int) < ((x3_1.length : Int) : Int) := dz; obtain ⟨go10, co10, eo10, gb10, gl10, cl10, HG10⟩ := Kd.S_form HO_3.out (by omega); (first | cases eo10 | (injection eo10 with ea_ en_ ec_; (first | subst ea_ | (injection ea_ with ea_; subst ea_)); subst ec_; clear en_)); have GB10 := Aside0.mk gb10; have GG10 := Aside0.mk HG10; clear gb10 gl10 HG10; obtain ⟨_, ce10, hcl10, hM10, hcc10, hfr10, _, _⟩ := Kd.S_elem HO_3.out [] (x4_1 : Int) p10 q10; obtain ⟨ve10_0, rfl, ge10_0⟩ := hM10; have hx10_0 := hcc10 0 _ rfl; have hf10_0 := hfr10 0; (try simp only [show ((Kd.slice 107 k107)).sz = 1 from rfl, Nat.mul_one, Nat.add_zero] at hx10_0); (try simp only [show ((Kd.slice 107 k107)).sz = 1 from rfl, Nat.mul_one, Nat.add_zero] at hf10_0); (try clear hcl10); (try clear hcc10); (try clear hfr10); (try clear hM10); replace p10 := eq_true p10; replace q10 := eq_true q10; have n_ := Aside0.mk (Kd.S_mono (ok' := (fun k_ => some k_ ≠ (v198 : Value).ownBlock)) HO_3.out (fun k_ hk => hk.2)); clear HO_3; have HO_3 := n_; clear n_; have HX12 := Aside0.mk (show Kd.S (Kd.slice 107 k107) 57 w11 w.heap.size (fun k_ => ((fun _ => True)) k_ ∧ ¬ ((fun k_ => some k_ = (v198 : Value).ownBlock)) k_) (.slice (some ⟨go10, 0, none⟩) x3_1.length co10) x3_1 from (by (with_reducible repeat (first | apply Kd.S_alloc | apply Kd.S_drewN | apply Kd.S_drew)); exact Kd.S_mono HO_3.out (fun k_ hk => ⟨trivial, fun e_ => hk e_⟩))); obtain ⟨oki12, ce12, hcl12, hM12, hcc12, hfr12, hoki12, hH12⟩ := Kd.S_elem HX12.out [] (x4_1 : Int) (dz) (by have h_ : (x4_1 : Int) < ((x3_1.length : Int) : Int) := dz; first | exact h_ | (have e_ := (Kd.S_reads' HO_3.out).1; omega) | simpa using h_); obtain ⟨ve12_0, rfl, ge12_0⟩ := hM12; have HP12 := Kd.S_seg hH12 (dz) (by have h_ : (x4_1 : Int) < ((x3_1.length : Int) : Int) := dz; first | exact h_ | (have e_ := (Kd.S_reads' HO_3.out).1; omega) | simpa using h_) (seg := [v198]) (j := 0) (show 1 ≤ 1 from by decide) (x' := t197) (Kd.M_row (Kd.R_mono (Kd.R_tight rfl (Kd.R_mono (ok' := fun k_ => ((fun _ => True)) k_ ∧ k_ ≠ go10) (Kd.R_apart' (HO199.out) (Kd.S_typed HO_3.out) (by decide)) (fun k_ hk => ⟨trivial, fun e_ => (hk.2) (by rw [e_]; rfl)⟩))) (fun _ h_ => Or.inr (h_)))) (fun _ hk => hk) (fun k_ hk_ => ((Kd.R_mono (ok' := fun k_ => ((fun _ => True)) k_ ∧ k_ ≠ go10) (Kd.R_apart' (HO199.out) (Kd.S_typed HO_3.out) (by decide)) (fun k_ hk => ⟨trivial, fun e_ => (hk.2) (by rw [e_]; rfl)⟩))).1 k_ hk_.symm); have hx12_0 := hcc12 0 _ rfl; (try simp only [show ((Kd.slice 107 k107)).sz = 1 from rfl, Nat.mul_one, Nat.add_zero] at hx12_0); have hf12_0 := hfr12 0; (try simp only [show ((Kd.slice 107 k107)).sz = 1 from rfl, Nat.mul_one, Nat.add_zero] at hf12_0); (try clear hcl12); (try clear hcc12); (try clear hfr12); (try clear hM12); (try clear hoki12); (try clear hH12); (try simp only [show ((Kd.slice 107 k107)).sz = 1 from rfl, Nat.mul_one, Nat.add_zero] at HP12)) | ((with_reducible refine gate_store (t := 57) (p := 21) rfl ?_); refine store_event (t := 57) (p := 21) (v := ?vo_w13) (w1 := (w11.setCell ⟨go10, (x4_1 : Int).toNat, none⟩ (v198))) ?hg ?ho ?hn ?hr ?_; (case ho => rfl); (case hg => rfl); (case hn => rfl); (case hr => first | (go_simp; done) | (go_simp; rfl) | ((obtain ⟨_, _, ez_⟩ := Kd.R_slice HO199.out; subst ez_); first | (go_simp; done) | (go_simp; rfl))); intro w13 hw; have hg : w11.grownBy w13 (some go10) := (by rw [hw]; exact HP12.2); have hp_ : Kd.S (Kd.slice 107 k107) 57 w13 w.heap.size (fun _ => True) (.slice (some ⟨go10, 0, none⟩) x3_1.length co10) y200 := (by rw [hw, Ny200.out]; exact HP12.1); clear HP12; replace HO_3 := Aside0.mk (hp_); replace HB := Aside0.mk ((by rw [hw]; exact below_set (HB.out) GB10.out : Below w.heap.size w w13)); clear HO199; clear hg hw hp_))
        go_roundg k1
        case measure => have := HK1.out; omega
        case rel => exact ⟨(y200), (wrap64 (x4_1 + 1)), rq, H', ⟨by have := HK1.out; omega⟩, ⟨ozS HO_3⟩, ⟨bz HB⟩⟩
       ·
        rw [if_neg c9] at H
        exact absurd H (by simp)
      ·
       rw [if_neg c7] at H
       exact absurd H (by simp)
     ·
      rw [if_neg c6] at H
      have c6b0 : decide (x4_1 < (l0.length : Int)) = false := decide_eq_false c6
      clear c6
      obtain rfl := Option.some.inj H
      go_wp2
      go_ret
      exact ⟨_, rz, ozS HO_3, bz HB⟩
  ·
   rw [if_neg c3] at H
   exact absurd H (by simp)
 ·
  rw [if_neg c2] at H
  exact absurd H (by simp)
end Go.Proofs.Ytndmhmekmkgccaa.PFnExactInRange
end
section
namespace Go.Proofs.Ytndmhmekmkgccaa.PFnExactInRange
open Go.RowKit Go.Proofs.YtndmhmekmkgccaaW.PrintWords Go.Proofs.YtndmhmekmkgccaaW.PrintLast Go.Proofs.YtndmhmekmkgccaaW.PrintMore
attribute [local go_sem] max2_int min2_int max_two min_two max_three min_three max_four min_four   -- for this text's walks alone
set_option linter.unusedVariables false
set_option linter.unusedSimpArgs false
set_option maxHeartbeats 8000000 in
set_option maxRecDepth 100000 in
theorem laws_toRule.calls (k : Nat) (A0_0 : Option Addr) (c0_0 : Nat) (l0_0 : List (LTerm)) (A0_1 : Option Addr) (c0_1 : Nat) (l0_1 : List Int) (A0_2 : Option Addr) (c0_2 : Nat) (l0_2 : List (List (LTerm))) (r1 : List (ITerm)) (r2 : List Int) (r3 : List (List (ITerm))) (w : World) (hr0_0 : Kd.C k180 w A0_0 l0_0.length l0_0) (hc0_0 : l0_0.length ≤ c0_0) (hr0_1 : Kd.C (Kd.int .i64) w A0_1 l0_1.length l0_1) (hc0_1 : l0_1.length ≤ c0_1) (hr0_2 : Kd.C (Kd.slice 180 k180) w A0_2 l0_2.length l0_2) (hc0_2 : l0_2.length ≤ c0_2) (h : laws_toRule.f k l0_0 l0_1 l0_2 = some (r1, r2, r3)) :
  Calls Try.prog 117 #[.agg #[.slice A0_0 l0_0.length c0_0, .slice A0_1 l0_1.length c0_1, .slice A0_2 l0_2.length c0_2]] w fun e w' => ∃ v0_ v1_ v2_ : Value, e = .returned (.agg #[v0_, v1_, v2_]) ∧ Kd.R k107 107 w' w.heap.size (fun _ => True) v0_ r1 ∧ Kd.R (Kd.int .i64) 3 w' w.heap.size (fun _ => True) v1_ r2 ∧ Kd.S (Kd.slice 107 k107) 57 w' w.heap.size (fun k_ => some k_ ≠ (v0_ : Value).ownBlock) v2_ r3 ∧ Below w.heap.size w w' := by
 have hu138 := Try.underlying138
 have hu145 := Try.underlying145
 have HR0_0 := Aside0.mk hr0_0
 have HC0_0 := Aside0.mk hc0_0
 clear hr0_0 hc0_0
 have HR0_1 := Aside0.mk hr0_1
 have HC0_1 := Aside0.mk hc0_1
 clear hr0_1 hc0_1
 have HR0_2 := Aside0.mk hr0_2
 have HC0_2 := Aside0.mk hc0_2
 clear hr0_2 hc0_2
 have HB := Aside0.mk (Below.refl w.heap.size w)
 have H : ((laws_toTermS.f k l0_0).bind fun t204 => ((laws_toIntS.f k l0_1).bind fun t207 => ((laws_toTermSS.f k l0_2).bind fun t210 => (some (t204, t207, t210))))) = some (r1, r2, r3) := h
 clear h
 replace H := Option.bind_eq_some_iff.mp H
 obtain ⟨t204, A20, H⟩ := H
 have A2 := Aside0.mk A20
 clear A20
 replace H := Option.bind_eq_some_iff.mp H
 obtain ⟨t207, A30, H⟩ := H
 have A3 := Aside0.mk A30
 clear A30
 replace H := Option.bind_eq_some_iff.mp H
 obtain ⟨t210, A40, H⟩ := H
 have A4 := Aside0.mk A40
 clear A40
 simp only [Option.some.injEq, Prod.mk.injEq] at H
 obtain ⟨rfl, rfl, rfl⟩ := H
 go_enter Try.func117, Try.ntmps117
 go_wp2_with (first | ((with_reducible refine gate_dst (N := 1) rfl ?_); refine box_event ?hg (N := 1) ?hd (cs := #[.slice A0_0 l0_0.length c0_0, .slice A0_1 l0_1.length c0_1, .slice A0_2 l0_2.length c0_2]) (t := 138) ?hr ?_; (case hd => rfl); (case hg => rfl); (case hr => first | (go_simp; done) | (go_simp; rfl)); intro gb201 hg w5 hbox hb; have n0_ := Aside0.mk (below_step (bz HB) hb); have n1_ := Aside0.mk (hbox); have n2_ := Aside0.mk ((by rw [hg]; exact (below_size (bz HB)) : w.heap.size ≤ gb201)); have n3_ := Aside0.mk ((by rw [hg]; exact (below_size (bz HB)) : w.heap.size ≤ gb201)); clear HB; have HB := n0_; have BK201 := n1_; have GW201 := n2_; have GE201 := n3_; clear n0_ n1_ n2_ n3_; clear hb hbox hg) | ((with_reducible refine gate_dst (N := 2) rfl ?_); refine box_event ?hg (N := 2) ?hd (cs := #[.slice none 0 0, .slice none 0 0, .slice none 0 0]) (t := 145) ?hr ?_; (case hd => rfl); (case hg => rfl); (case hr => first | (go_simp; done) | (go_simp; rfl)); intro gb202 hg w6 hbox hb; have n0_ := Aside0.mk (blk_below (g := gb201) (o := .cells #[.slice A0_0 l0_0.length c0_0, .slice A0_1 l0_1.length c0_1, .slice A0_2 l0_2.length c0_2] 138 (0, 0)) (kz BK201) hb); have n1_ := Aside0.mk (below_step (bz1 HB GE201) hb); have n2_ := Aside0.mk (hbox); have n3_ := Aside0.mk ((by rw [hg]; exact (below_size (bz1 HB GE201)) : w.heap.size ≤ gb202)); have n4_ := Aside0.mk ((by rw [hg]; exact (below_size (bz1 HB GE201)) : w.heap.size ≤ gb202)); have n5_ := Aside0.mk ((by rw [hg]; exact Nat.ne_of_lt (blk_lt (g := gb201) (o := .cells #[.slice A0_0 l0_0.length c0_0, .slice A0_1 l0_1.length c0_1, .slice A0_2 l0_2.length c0_2] 138 (0, 0)) (kz BK201)) : gb201 ≠ gb202)); have n6_ := Aside0.mk ((by rw [hg]; exact Nat.ne_of_gt (blk_lt (g := gb201) (o := .cells #[.slice A0_0 l0_0.length c0_0, .slice A0_1 l0_1.length c0_1, .slice A0_2 l0_2.length c0_2] 138 (0, 0)) (kz BK201)) : gb202 ≠ gb201)); clear BK201; clear HB; have BK201 := n0_; have HB := n1_; have BK202 := n2_; have GW202 := n3_; have GE202 := n4_; have NB201_202 := n5_; have NB202_201 := n6_; clear n0_ n1_ n2_ n3_ n4_ n5_ n6_; clear hb hbox hg) | ((with_reducible refine gate_dst (N := 3) rfl ?_); refine box_event ?hg (N := 3) ?hd (cs := #[.slice none 0 0, .slice none 0 0, .slice none 0 0]) (t := 145) ?hr ?_; (case hd => rfl); (case hg => rfl); (case hr => first | (go_simp; done) | (go_simp; rfl)); intro gb203 hg w7 hbox hb; have n0_ := Aside0.mk (blk_below (g := gb201) (o := .cells #[.slice A0_0 l0_0.length c0_0, .slice A0_1 l0_1.length c0_1, .slice A0_2 l0_2.length c0_2] 138 (0, 0)) (kz BK201) hb); have n1_ := Aside0.mk (blk_below (g := gb202) (o := .cells #[.slice none 0 0, .slice none 0 0, .slice none 0 0] 145 (0, 0)) (kz BK202) hb); have n2_ := Aside0.mk (below_step (bz2 HB GE201 GE202) hb); have n3_ := Aside0.mk (hbox); have n4_ := Aside0.mk ((by rw [hg]; exact (below_size (bz2 HB GE201 GE202)) : w.heap.size ≤ gb203)); have n5_ := Aside0.mk ((by rw [hg]; exact (below_size (bz2 HB GE201 GE202)) : w.heap.size ≤ gb203)); have n6_ := Aside0.mk ((by rw [hg]; exact Nat.ne_of_lt (blk_lt (g := gb201) (o := .cells #[.slice A0_0 l0_0.length c0_0, .slice A0_1 l0_1.length c0_1, .slice A0_2 l0_2.length c0_2] 138 (0, 0)) (kz BK201)) : gb201 ≠ gb203)); have n7_ := Aside0.mk ((by rw [hg]; exact Nat.ne_of_gt (blk_lt (g := gb201) (o := .cells #[.slice A0_0 l0_0.length c0_0, .slice A0_1 l0_1.length c0_1, .slice A0_2 l0_2.length c0_2] 138 (0, 0)) (kz BK201)) : gb203 ≠ gb201)); have n8_ := Aside0.mk ((by rw [hg]; exact Nat.ne_of_lt (blk_lt (g := gb202) (o := .cells #[.slice none 0 0, .slice none 0 0, .slice none 0 0] 145 (0, 0)) (kz BK202)) : gb202 ≠ gb203)); have n9_ := Aside0.mk ((by rw [hg]; exact Nat.ne_of_gt (blk_lt (g := gb202) (o := .cells #[.slice none 0 0, .slice none 0 0, .slice none 0 0] 145 (0, 0)) (kz BK202)) : gb203 ≠ gb202)); clear BK201; clear BK202; clear HB; have BK201 := n0_; have BK202 := n1_; have HB := n2_; have BK203 := n3_; have GW203 := n4_; have GE203 := n5_; have NB201_203 := n6_; have NB203_201 := n7_; have NB202_203 := n8_; have NB203_202 := n9_; clear n0_ n1_ n2_ n3_ n4_ n5_ n6_ n7_ n8_ n9_; clear hb hbox hg; have hnb8 := NB201_202.out; have hnc8 := NB202_201.out; have hnb9 := NB201_203.out; have hnc9 := NB203_201.out; have hcz10_0 : w7.cell? ⟨gb201, 0, none⟩ = some (.slice A0_0 l0_0.length c0_0) := (blk_cell BK201.out 0).trans rfl; have hcz10_1 : w7.cell? ⟨gb201, 1, none⟩ = some (.slice A0_1 l0_1.length c0_1) := (blk_cell BK201.out 1).trans rfl; have hcz10_2 : w7.cell? ⟨gb201, 2, none⟩ = some (.slice A0_2 l0_2.length c0_2) := (blk_cell BK201.out 2).trans rfl; have hfz10_0 := blk_frozen BK201.out 0; have hfz10_1 := blk_frozen BK201.out 1; have hfz10_2 := blk_frozen BK201.out 2) | ((with_reducible refine gate_callee (f := 157) rfl ?_); refine goesL_ (some 6) rfl rfl Try.func157 (by kernel_rfl) rfl #[.slice A0_0 l0_0.length c0_0] rfl az ?_; (with_reducible refine (laws_toTermS.calls k _ _ l0_0 t204 _ ?side1 HC0_0.out A2.out).mono ?_); (case side1 => exact cz HR0_0 HB); rintro e w11 ⟨v205, rfl, ho0, hb⟩; refine ⟨_, rfl, ?_⟩; have HO206 := Aside0.mk (Kd.R_lower ho0 (below_size (bz3 HB GE201 GE202 GE203))); replace BK201 := Aside0.mk (blk_below (g := gb201) (o := .cells #[.slice A0_0 l0_0.length c0_0, .slice A0_1 l0_1.length c0_1, .slice A0_2 l0_2.length c0_2] 138 (0, 0)) (kz BK201) hb); replace BK202 := Aside0.mk (blk_below (g := gb202) (o := .cells #[.slice none 0 0, .slice none 0 0, .slice none 0 0] 145 (0, 0)) (kz BK202) hb); replace BK203 := Aside0.mk (blk_below (g := gb203) (o := .cells #[.slice none 0 0, .slice none 0 0, .slice none 0 0] 145 (0, 0)) (kz BK203) hb); replace HB := Aside0.mk (below_step (bz3 HB GE201 GE202 GE203) hb); clear hb; (try clear ho0); obtain ⟨Ao12, co12, eo12⟩ := Kd.R_slice HO206.out; subst eo12; have hnb13 := NB203_202.out; have hnc13 := NB202_203.out; have hcz14_0 : w11.cell? ⟨gb203, 0, none⟩ = some (.slice none 0 0) := (blk_cell BK203.out 0).trans rfl; have hcz14_1 : w11.cell? ⟨gb203, 1, none⟩ = some (.slice none 0 0) := (blk_cell BK203.out 1).trans rfl; have hcz14_2 : w11.cell? ⟨gb203, 2, none⟩ = some (.slice none 0 0) := (blk_cell BK203.out 2).trans rfl; have hfz14_0 := blk_frozen BK203.out 0; have hfz14_1 := blk_frozen BK203.out 1; have hfz14_2 := blk_frozen BK203.out 2; have hcz15_0 : w11.cell? ⟨gb201, 0, none⟩ = some (.slice A0_0 l0_0.length c0_0) := (blk_cell BK201.out 0).trans rfl; have hcz15_1 : w11.cell? ⟨gb201, 1, none⟩ = some (.slice A0_1 l0_1.length c0_1) := (blk_cell BK201.out 1).trans rfl; have hcz15_2 : w11.cell? ⟨gb201, 2, none⟩ = some (.slice A0_2 l0_2.length c0_2) := (blk_cell BK201.out 2).trans rfl; have hfz15_0 := blk_frozen BK201.out 0; have hfz15_1 := blk_frozen BK201.out 1; have hfz15_2 := blk_frozen BK201.out 2) | ((with_reducible refine gate_callee (f := 18) rfl ?_); refine goesL_ (some 10) rfl rfl Try.func18 (by kernel_rfl) rfl #[.slice A0_1 l0_1.length c0_1] rfl az ?_; (with_reducible refine (laws_toIntS.calls k _ _ l0_1 t207 _ ?side1 HC0_1.out A3.out).mono ?_); (case side1 => exact Kd.C_below HR0_1.out (bz3 HB GE201 GE202 GE203)); rintro e w16 ⟨v208, rfl, ho0, hb⟩; refine ⟨_, rfl, ?_⟩; replace HO206 := Aside0.mk (Kd.R_below (by (with_reducible repeat (first | apply Kd.R_alloc | apply Kd.R_drewN | apply Kd.R_drew)); exact (Kd.R_mono (Kd.R_far (p := ⟨gb203, 0, none⟩) (Kd.R_types HO206.out BK203.out (by decide)) (fun _ hk => hk.2) (.slice Ao12 t204.length co12)) (fun _ h_ => h_.1))) hb); have HO209 := Aside0.mk (Kd.R_lower ho0 (below_size (bz3 HB GE201 GE202 GE203))); replace BK201 := Aside0.mk (blk_below (g := gb201) (o := .cells #[.slice A0_0 l0_0.length c0_0, .slice A0_1 l0_1.length c0_1, .slice A0_2 l0_2.length c0_2] 138 (0, 0)) (by (with_reducible repeat (first | refine blk_drewN ?_ _ | refine blk_drew ?_ | refine blk_alloc ?_ _)); refine blk_far ?_ NB201_203.out _; exact kz BK201) hb); replace BK202 := Aside0.mk (blk_below (g := gb202) (o := .cells #[.slice none 0 0, .slice none 0 0, .slice none 0 0] 145 (0, 0)) (by (with_reducible repeat (first | refine blk_drewN ?_ _ | refine blk_drew ?_ | refine blk_alloc ?_ _)); refine blk_far ?_ NB202_203.out _; exact kz BK202) hb); replace BK203 := Aside0.mk (blk_below (g := gb203) (o := .cells #[.slice Ao12 t204.length co12, .slice none 0 0, .slice none 0 0] 145 (0, 0)) (by (with_reducible repeat (first | refine blk_drewN ?_ _ | refine blk_drew ?_ | refine blk_alloc ?_ _)); refine blk_put (cs := #[.slice none 0 0, .slice none 0 0, .slice none 0 0]) ?_ 0 _ rfl; exact kz BK203) hb); replace HB := Aside0.mk (below_step (bz3 HB GE201 GE202 GE203) hb); clear hb; (try clear hk); (try clear ho0); obtain ⟨Ao17, co17, eo17⟩ := Kd.R_slice HO209.out; subst eo17; have hcz18_0 : w16.cell? ⟨gb203, 0, none⟩ = some (.slice Ao12 t204.length co12) := (blk_cell BK203.out 0).trans rfl; have hcz18_1 : w16.cell? ⟨gb203, 1, none⟩ = some (.slice none 0 0) := (blk_cell BK203.out 1).trans rfl; have hcz18_2 : w16.cell? ⟨gb203, 2, none⟩ = some (.slice none 0 0) := (blk_cell BK203.out 2).trans rfl; have hfz18_0 := blk_frozen BK203.out 0; have hfz18_1 := blk_frozen BK203.out 1; have hfz18_2 := blk_frozen BK203.out 2; have hcz19_0 : w16.cell? ⟨gb201, 0, none⟩ = some (.slice A0_0 l0_0.length c0_0) := (blk_cell BK201.out 0).trans rfl; have hcz19_1 : w16.cell? ⟨gb201, 1, none⟩ = some (.slice A0_1 l0_1.length c0_1) := (blk_cell BK201.out 1).trans rfl; have hcz19_2 : w16.cell? ⟨gb201, 2, none⟩ = some (.slice A0_2 l0_2.length c0_2) := (blk_cell BK201.out 2).trans rfl; have hfz19_0 := blk_frozen BK201.out 0; have hfz19_1 := blk_frozen BK201.out 1; have hfz19_2 := blk_frozen BK201.out 2) | ((with_reducible refine gate_callee (f := 158) rfl ?_); refine goesL_ (some 14) rfl rfl Try.func158 (by kernel_rfl) rfl #[.slice A0_2 l0_2.length c0_2] rfl az ?_; (with_reducible refine (laws_toTermSS.calls k _ _ l0_2 t210 _ ?side1 HC0_2.out A4.out).mono ?_); (case side1 => exact Kd.C_below HR0_2.out (bz3 HB GE201 GE202 GE203)); rintro e w20 ⟨v211, rfl, ho0, hb⟩; refine ⟨_, rfl, ?_⟩; have n0_ := Aside0.mk (Kd.R_below (by (with_reducible repeat (first | apply Kd.R_alloc | apply Kd.R_drewN | apply Kd.R_drew)); exact (Kd.R_mono (Kd.R_far (p := ⟨gb203, 1, none⟩) (Kd.R_types HO206.out BK203.out (by decide)) (fun _ hk => hk.2) (.slice Ao17 t207.length co17)) (fun _ h_ => h_.1))) hb); have n1_ := Aside0.mk (Kd.R_below (by (with_reducible repeat (first | apply Kd.R_alloc | apply Kd.R_drewN | apply Kd.R_drew)); exact (Kd.R_mono (Kd.R_far (p := ⟨gb203, 1, none⟩) (Kd.R_types HO209.out BK203.out (by decide)) (fun _ hk => hk.2) (.slice Ao17 t207.length co17)) (fun _ h_ => h_.1))) hb); have n2_ := Aside0.mk (Kd.S_lower (Kd.S_new' ho0 (Kd.R_lt (by (with_reducible repeat (first | apply Kd.R_alloc | apply Kd.R_drewN | apply Kd.R_drew)); exact (Kd.R_mono (Kd.R_far (p := ⟨gb203, 1, none⟩) (Kd.R_types HO206.out BK203.out (by decide)) (fun _ hk => hk.2) (.slice Ao17 t207.length co17)) (fun _ h_ => h_.1))))) (below_size (bz3 HB GE201 GE202 GE203))); have n3_ := Aside0.mk (blk_below (g := gb201) (o := .cells #[.slice A0_0 l0_0.length c0_0, .slice A0_1 l0_1.length c0_1, .slice A0_2 l0_2.length c0_2] 138 (0, 0)) (by (with_reducible repeat (first | refine blk_drewN ?_ _ | refine blk_drew ?_ | refine blk_alloc ?_ _)); refine blk_far ?_ NB201_203.out _; exact kz BK201) hb); have n4_ := Aside0.mk (blk_below (g := gb202) (o := .cells #[.slice none 0 0, .slice none 0 0, .slice none 0 0] 145 (0, 0)) (by (with_reducible repeat (first | refine blk_drewN ?_ _ | refine blk_drew ?_ | refine blk_alloc ?_ _)); refine blk_far ?_ NB202_203.out _; exact kz BK202) hb); have n5_ := Aside0.mk (blk_below (g := gb203) (o := .cells #[.slice Ao12 t204.length co12, .slice Ao17 t207.length co17, .slice none 0 0] 145 (0, 0)) (by (with_reducible repeat (first | refine blk_drewN ?_ _ | refine blk_drew ?_ | refine blk_alloc ?_ _)); refine blk_put (cs := #[.slice Ao12 t204.length co12, .slice none 0 0, .slice none 0 0]) ?_ 1 _ rfl; exact kz BK203) hb); have n6_ := Aside0.mk (below_step (bz3 HB GE201 GE202 GE203) hb); clear HO206; clear HO209; clear BK201; clear BK202; clear BK203; clear HB; have HO206 := n0_; have HO209 := n1_; have HO212 := n2_; have BK201 := n3_; have BK202 := n4_; have BK203 := n5_; have HB := n6_; clear n0_ n1_ n2_ n3_ n4_ n5_ n6_; clear hb; (try clear hk); (try clear ho0); obtain ⟨Ao21, co21, eo21⟩ := Kd.S_slice HO212.out; subst eo21; have hcz22_0 : w20.cell? ⟨gb203, 0, none⟩ = some (.slice Ao12 t204.length co12) := (blk_cell BK203.out 0).trans rfl; have hcz22_1 : w20.cell? ⟨gb203, 1, none⟩ = some (.slice Ao17 t207.length co17) := (blk_cell BK203.out 1).trans rfl; have hcz22_2 : w20.cell? ⟨gb203, 2, none⟩ = some (.slice none 0 0) := (blk_cell BK203.out 2).trans rfl; have hfz22_0 := blk_frozen BK203.out 0; have hfz22_1 := blk_frozen BK203.out 1; have hfz22_2 := blk_frozen BK203.out 2; have hcz23_0 : w20.cell? ⟨gb202, 0, none⟩ = some (.slice none 0 0) := (blk_cell BK202.out 0).trans rfl; have hcz23_1 : w20.cell? ⟨gb202, 1, none⟩ = some (.slice none 0 0) := (blk_cell BK202.out 1).trans rfl; have hcz23_2 : w20.cell? ⟨gb202, 2, none⟩ = some (.slice none 0 0) := (blk_cell BK202.out 2).trans rfl; have hfz23_0 := blk_frozen BK202.out 0; have hfz23_1 := blk_frozen BK202.out 1; have hfz23_2 := blk_frozen BK202.out 2))
 refine bodyPost_ret (results_cell_row rfl _ _ gb202 145 #[.slice Ao12 t204.length co12, .slice Ao17 t207.length co17, .slice Ao21 t210.length co21] (0, 0) _ rfl (by (with_reducible repeat (first | refine blk_drewN ?_ _ | refine blk_drew ?_ | refine blk_alloc ?_ _)); refine blk_put (cs := #[.slice Ao12 t204.length co12, .slice Ao17 t207.length co17, .slice none 0 0]) ?_ 2 _ rfl; (with_reducible repeat (first | refine blk_drewN ?_ _ | refine blk_drew ?_ | refine blk_alloc ?_ _)); refine blk_put (cs := #[.slice Ao12 t204.length co12, .slice none 0 0, .slice none 0 0]) ?_ 1 _ rfl; (with_reducible repeat (first | refine blk_drewN ?_ _ | refine blk_drew ?_ | refine blk_alloc ?_ _)); refine blk_put (cs := #[.slice none 0 0, .slice none 0 0, .slice none 0 0]) ?_ 0 _ rfl; (with_reducible repeat (first | refine blk_drewN ?_ _ | refine blk_drew ?_ | refine blk_alloc ?_ _)); refine blk_far ?_ NB202_203.out _; exact kz BK202) Try.underlying145 rfl (by kernel_rfl)) rfl ?_
 exact ⟨_, _, _, rz, by (with_reducible repeat (first | apply Kd.R_alloc | apply Kd.R_drewN | apply Kd.R_drew)); exact Kd.R_mono (Kd.R_far (p := ⟨gb202, 2, none⟩) (Kd.R_far (p := ⟨gb202, 1, none⟩) (Kd.R_far (p := ⟨gb202, 0, none⟩) (Kd.R_far (p := ⟨gb203, 2, none⟩) (Kd.R_types (Kd.R_types HO206.out BK203.out (by decide)) BK202.out (by decide)) (fun _ hk => hk.1.2) (.slice Ao21 t210.length co21)) (fun _ hk => hk.2) (.slice Ao12 t204.length co12)) (fun _ hk => hk.2) (.slice Ao17 t207.length co17)) (fun _ hk => hk.2) (.slice Ao21 t210.length co21)) (fun _ hk => trivial), by (with_reducible repeat (first | apply Kd.R_alloc | apply Kd.R_drewN | apply Kd.R_drew)); exact Kd.R_mono (Kd.R_far (p := ⟨gb202, 2, none⟩) (Kd.R_far (p := ⟨gb202, 1, none⟩) (Kd.R_far (p := ⟨gb202, 0, none⟩) (Kd.R_far (p := ⟨gb203, 2, none⟩) (Kd.R_types (Kd.R_types HO209.out BK203.out (by decide)) BK202.out (by decide)) (fun _ hk => hk.1.2) (.slice Ao21 t210.length co21)) (fun _ hk => hk.2) (.slice Ao12 t204.length co12)) (fun _ hk => hk.2) (.slice Ao17 t207.length co17)) (fun _ hk => hk.2) (.slice Ao21 t210.length co21)) (fun _ hk => trivial), by (with_reducible repeat (first | apply Kd.S_alloc | apply Kd.S_drewN | apply Kd.S_drew)); exact Kd.S_mono (Kd.S_far (p := ⟨gb202, 2, none⟩) (Kd.S_far (p := ⟨gb202, 1, none⟩) (Kd.S_far (p := ⟨gb202, 0, none⟩) (Kd.S_far (p := ⟨gb203, 2, none⟩) (Kd.S_types (Kd.S_types HO212.out BK203.out (by decide)) BK202.out (by decide)) (fun _ hk => hk.1.2) (.slice Ao21 t210.length co21)) (fun _ hk => hk.2) (.slice Ao12 t204.length co12)) (fun _ hk => hk.2) (.slice Ao17 t207.length co17)) (fun _ hk => hk.2) (.slice Ao21 t210.length co21)) (fun _ hk => hk.1.1.2), bz3 HB GE201 GE202 GE203⟩
end Go.Proofs.Ytndmhmekmkgccaa.PFnExactInRange
end
section
namespace Go.Proofs.Ytndmhmekmkgccaa.PFnExactInRange
open Go.RowKit Go.Proofs.YtndmhmekmkgccaaW.PrintWords Go.Proofs.YtndmhmekmkgccaaW.PrintLast Go.Proofs.YtndmhmekmkgccaaW.PrintMore
attribute [local go_sem] max2_int min2_int max_two min_two max_three min_three max_four min_four   -- for this text's walks alone
set_option linter.unusedVariables false
set_option linter.unusedSimpArgs false
set_option maxHeartbeats 8000000 in
set_option maxRecDepth 100000 in
theorem laws_toRuleS.calls (k : Nat) (A0 : Option Addr) (c0 : Nat) (l0 : List (LRule)) (r : List (IRule)) (w : World) (hr0 : Kd.C k138 w A0 l0.length l0) (hc0 : l0.length ≤ c0) (h : laws_toRuleS.f k l0 = some r) :
  Calls Try.prog 62 #[.slice A0 l0.length c0] w fun e w' => ∃ v0_ : Value, e = .returned (v0_) ∧ Kd.R k145 145 w' w.heap.size (fun _ => True) v0_ r ∧ Below w.heap.size w w' := by
 have hu138 := Try.underlying138
 have hu145 := Try.underlying145
 have HR0 := Aside0.mk hr0
 have HC0 := Aside0.mk hc0
 clear hr0 hc0
 have HB := Aside0.mk (Below.refl w.heap.size w)
 have H : (if 0 ≤ (l0.length : Int) then (if ((l0.length : Int) : Int).toNat ≤ 3909374676536 then (laws_toRuleS.l0 k l0 (List.replicate ((l0.length : Int) : Int).toNat zIRule) 0) else (none)) else (none)) = some r := h
 clear h
 by_cases c2 : 0 ≤ (l0.length : Int)
 ·
  rw [if_pos c2] at H
  have c2b0 := eq_true c2
  have c2b1 : decide (0 ≤ (l0.length : Int)) = true := decide_eq_true c2
  clear c2
  by_cases c3 : ((l0.length : Int) : Int).toNat ≤ 3909374676536
  ·
   rw [if_pos c3] at H
   have c3b0 := eq_true c3
   have c3b1 : decide (((l0.length : Int) : Int).toNat ≤ 3909374676536) = true := decide_eq_true c3
   clear c3
   obtain ⟨y213, hy213⟩ : ∃ y_ : List (IRule), y_ = (List.replicate ((l0.length : Int) : Int).toNat zIRule) := ⟨_, rfl⟩
   replace H : (laws_toRuleS.l0 k l0 y213 0) = some r := by first | (rw [hy213]; with_reducible exact H) | (have H2_ := (Option.bind_some _ _).symm.trans H; rw [hy213]; with_reducible exact H2_) | (have H2_ := (Option.bind_some _ _).symm.trans H; with_reducible exact H2_) | with_reducible exact H | (rw [hy213]; exact H) | exact H
   have Ny213 := Aside0.mk hy213
   clear hy213
   have H' := Aside0.mk H
   clear H
   go_enter Try.func62, Try.ntmps62
   go_wp2_with (first | ((with_reducible refine gate_dst (N := 7) rfl ?_); refine Kd.R_make k145 _ 145 rfl (N := 7) rfl 41 _ _ rfl (l0.length : Int) rfl rfl Try.underlying41 (.agg #[(.slice none 0 0), (.slice none 0 0), (.slice none 0 0)]) 72 info145 rfl (by decide) (by omega) zIRule (ok := fun _ => True) (okp := fun _ => True) (k145_mkM _ _ _ zIRule (Kd.R_nil _ _ _ _ _) (Kd.R_nil _ _ _ _ _) (Kd.R_nil _ _ _ _ _)) (fun _ hk => hk) trivial (dz) (Nat.le_trans (Nat.mul_le_mul_right _ (dz : (l0.length : Int).toNat ≤ 3909374676536)) (by omega)) (Below.refl _ _) (Nat.le_refl _) ?_; intro v214 w4 ho5 hb hg_ hnew_; clear hg_ hnew_; (first | rw [← Ny213.out] at ho5 | (simp only [Int.reduceToNat] at ho5; rw [← Ny213.out] at ho5)); have HO215 := Aside0.mk (Kd.R_lower ho5 (below_size (bz HB))); replace HB := Aside0.mk (below_step (bz HB) hb); clear hb ho5))
   go_loopg [4] k (fun kq v4 w' => ∃ (x3_1 : List (IRule)) (x4_1 : Int), v4 = .int .i64 x4_1 ∧ Aside0 (laws_toRuleS.l0 kq l0 x3_1 x4_1 = some r) ∧ Aside0 (kq ≤ k) ∧ Aside0 (Kd.R k145 145 w' w.heap.size (fun _ => True) v214 x3_1) ∧ Aside0 (Below w.heap.size w w'))
   case atStart => exact ⟨(y213), (0), rq, H', ⟨Nat.le_refl _⟩, ⟨ozR HO215⟩, ⟨bz HB⟩⟩
   case round =>
    clear H'
    try clear c2
    try clear c2b0
    try clear c2b1
    try clear p2
    try clear c3
    try clear c3b0
    try clear c3b1
    obtain ⟨x3_1, x4_1, rfl, HA, HK1, HO_3, HB⟩ := hrel
    cases gk with
    | zero => exact absurd HA.out (by simp [laws_toRuleS.l0])
    | succ k1 =>
     have H := HA.out
     clear HA
     simp only [laws_toRuleS.l0] at H
     by_cases c6 : x4_1 < (l0.length : Int)
     ·
      rw [if_pos c6] at H
      have c6b0 : decide (x4_1 < (l0.length : Int)) = true := decide_eq_true c6
      clear c6
      by_cases c7 : 0 ≤ x4_1
      ·
       rw [if_pos c7] at H
       have c7b0 : decide (0 ≤ x4_1) = true := decide_eq_true c7
       clear c7
       replace H := Option.bind_eq_some_iff.mp H
       obtain ⟨⟨t217, t220, t223⟩, A80, H⟩ := H
       dsimp only at H
       have A8 := Aside0.mk A80
       clear A80
       by_cases c9 : x4_1 < (x3_1.length : Int)
       ·
        rw [if_pos c9] at H
        have c9b0 : decide (x4_1 < (x3_1.length : Int)) = true := decide_eq_true c9
        clear c9
        obtain ⟨y226, hy226⟩ : ∃ y_ : List (IRule), y_ = (x3_1.set (x4_1 : Int).toNat (⟨t217, t220, t223⟩ : IRule)) := ⟨_, rfl⟩
        replace H : (laws_toRuleS.l0 k1 l0 y226 (wrap64 (x4_1 + 1))) = some r := by first | (rw [hy226]; with_reducible exact H) | (have H2_ := (Option.bind_some _ _).symm.trans H; rw [hy226]; with_reducible exact H2_) | (have H2_ := (Option.bind_some _ _).symm.trans H; with_reducible exact H2_) | with_reducible exact H | (rw [hy226]; exact H) | exact H
        have Ny226 := Aside0.mk hy226
        clear hy226
        have H' := Aside0.mk H
        clear H
        have p216 : 0 ≤ (x4_1 : Int) := dz
        have q216 : x4_1 < (l0.length : Int) := dz
        obtain ⟨ad216, A216_0, c216_0, A216_1, c216_1, A216_2, c216_2, e216, hx216_0, hx216_1, hx216_2, hl216_0, hi216_0, hl216_1, hi216_1, hl216_2, hi216_2⟩ := at_LRule HR0.out x4_1 p216 q216
        cases e216
        replace hx216_0 := xz HB hx216_0
        replace hx216_1 := xz HB hx216_1
        replace hx216_2 := xz HB hx216_2
        have HR216_0 := Aside0.mk hi216_0
        have HC216_0 := Aside0.mk hl216_0
        clear hi216_0 hl216_0
        have HR216_1 := Aside0.mk hi216_1
        have HC216_1 := Aside0.mk hl216_1
        clear hi216_1 hl216_1
        have HR216_2 := Aside0.mk hi216_2
        have HC216_2 := Aside0.mk hl216_2
        clear hi216_2 hl216_2
        replace p216 := eq_true p216
        replace q216 := eq_true q216
        go_wp2_with (first | ((with_reducible refine gate_callee (f := 117) rfl ?_); refine goesL_ (some 20) rfl rfl Try.func117 (by kernel_rfl) rfl #[.agg #[.slice A216_0 ((rd_LRule l0 x4_1).f0).length c216_0, .slice A216_1 ((rd_LRule l0 x4_1).f1).length c216_1, .slice A216_2 ((rd_LRule l0 x4_1).f2).length c216_2]] rfl az ?_; (with_reducible refine (laws_toRule.calls k1 _ _ ((rd_LRule l0 x4_1).f0) _ _ ((rd_LRule l0 x4_1).f1) _ _ ((rd_LRule l0 x4_1).f2) t217 t220 t223 _ ?side1 HC216_0.out ?side3 HC216_1.out ?side5 HC216_2.out A8.out).mono ?_); (case side1 => exact cz HR216_0 HB); (case side3 => exact cz HR216_1 HB); (case side5 => exact cz HR216_2 HB); rintro e w11 ⟨v218, v221, v224, rfl, ho0, ho1, ho2, hb⟩; refine ⟨_, rfl, ?_⟩; replace HO_3 := Aside0.mk (Kd.R_mono (Kd.R_told (Kd.R_told (Kd.R_told (Kd.R_old (ozR HO_3) hb) (Kd.R_base ho0)) (Kd.R_base ho1)) (Kd.S_base ho2)) (fun _ h_ => h_.1)); have HO219 := Aside0.mk (Kd.R_lower ho0 (below_size (bz HB))); have HO222 := Aside0.mk (Kd.R_lower ho1 (below_size (bz HB))); have HO225 := Aside0.mk (Kd.S_lower ho2 (below_size (bz HB))); replace HB := Aside0.mk (below_step (bz HB) hb); clear hb; (try clear ho0); (try clear ho1); (try clear ho2); have p10 : 0 ≤ (x4_1 : Int) := dz; have q10 : (x4_1 : Int) < ((x3_1.length : Int) : Int) := dz; obtain ⟨go10, co10, eo10, gb10, gl10, cl10, HG10⟩ := Kd.R_form HO_3.out (by omega); (first | cases eo10 | (injection eo10 with ea_ en_ ec_; (first | subst ea_ | (injection ea_ with ea_; subst ea_)); subst ec_; clear en_)); have GB10 := Aside0.mk gb10; have GG10 := Aside0.mk HG10; clear gb10 gl10 HG10; obtain ⟨ce10, hcl10, hM10, hcc10, hfr10⟩ := Kd.R_elem HO_3.out zIRule (x4_1 : Int) p10 q10; obtain ⟨ve10_0, ve10_1, ve10_2, rfl, ge10_0, ge10_1, ge10_2⟩ := k145_openM hM10; have hx10_0 : w11.cell? ⟨go10, (x4_1 : Int).toNat * 3, none⟩ = some (ve10_0) := hcc10 0 _ rfl; have hx10_1 : w11.cell? ⟨go10, (x4_1 : Int).toNat * 3 + 1, none⟩ = some (ve10_1) := hcc10 1 _ rfl; have hx10_2 : w11.cell? ⟨go10, (x4_1 : Int).toNat * 3 + 2, none⟩ = some (ve10_2) := hcc10 2 _ rfl; have hf10_0 : w11.frozen? ⟨go10, (x4_1 : Int).toNat * 3, none⟩ = false := hfr10 0; have hf10_1 : w11.frozen? ⟨go10, (x4_1 : Int).toNat * 3 + 1, none⟩ = false := hfr10 1; have hf10_2 : w11.frozen? ⟨go10, (x4_1 : Int).toNat * 3 + 2, none⟩ = false := hfr10 2; (try clear hcl10); (try clear hcc10); (try clear hfr10); (try clear hM10); replace p10 := eq_true p10; replace q10 := eq_true q10; have n_ := Aside0.mk (Kd.R_mono (ok' := (fun k_ => some k_ ≠ (v218 : Value).ownBlock ∧ some k_ ≠ (v221 : Value).ownBlock ∧ some k_ ≠ (v224 : Value).ownBlock)) HO_3.out (fun k_ hk => ⟨hk.1.1.2, ⟨hk.1.2, hk.2⟩⟩)); clear HO_3; have HO_3 := n_; clear n_; have HX12 := Aside0.mk (show Kd.R k145 145 w11 w.heap.size (fun _ => True) (.slice (some ⟨go10, 0, none⟩) x3_1.length co10) x3_1 from (by (with_reducible repeat (first | apply Kd.R_alloc | apply Kd.R_drewN | apply Kd.R_drew)); exact Kd.R_mono HO_3.out (fun _ hk => trivial))); obtain ⟨ce12, hcl12, hM12, hcc12, hfr12⟩ := Kd.R_elem HX12.out zIRule (x4_1 : Int) (dz) (by have h_ : (x4_1 : Int) < ((x3_1.length : Int) : Int) := dz; first | exact h_ | (have e_ := (Kd.R_reads' HO_3.out).1; omega) | simpa using h_); obtain ⟨ve12_0, ve12_1, ve12_2, rfl, ge12_0, ge12_1, ge12_2⟩ := k145_openM hM12; have HP12 := Kd.R_seg HX12.out (x4_1 : Int) (dz) (by have h_ : (x4_1 : Int) < ((x3_1.length : Int) : Int) := dz; first | exact h_ | (have e_ := (Kd.R_reads' HO_3.out).1; omega) | simpa using h_) (seg := [v218, v221, v224]) (j := 0) hcl12 hcc12 (show 3 ≤ 3 from by decide) (x' := (⟨t217, t220, t223⟩ : IRule)) (k145_mkM _ _ _ (⟨t217, t220, t223⟩ : IRule) (Kd.R_mono (Kd.R_apart' (HO219.out) (Kd.R_typed HO_3.out) (by decide)) (fun k_ hk => ⟨trivial, fun e_ => (hk.2) (by rw [e_]; rfl)⟩)) (Kd.R_mono (Kd.R_apart' (HO222.out) (Kd.R_typed HO_3.out) (by decide)) (fun k_ hk => ⟨trivial, fun e_ => (hk.2) (by rw [e_]; rfl)⟩)) (Kd.R_mono (Kd.R_apart' ((Kd.S_R HO225.out)) (Kd.R_typed HO_3.out) (by decide)) (fun k_ hk => ⟨trivial, fun e_ => (hk.2) (by rw [e_]; rfl)⟩))) (fun _ hk => hk); have hx12_0 := hcc12 0 _ rfl; (try simp only [show (k145).sz = 3 from rfl, Nat.mul_one, Nat.add_zero] at hx12_0); have hf12_0 := hfr12 0; (try simp only [show (k145).sz = 3 from rfl, Nat.mul_one, Nat.add_zero] at hf12_0); have hx12_1 := hcc12 1 _ rfl; (try simp only [show (k145).sz = 3 from rfl, Nat.mul_one, Nat.add_zero] at hx12_1); have hf12_1 := hfr12 1; (try simp only [show (k145).sz = 3 from rfl, Nat.mul_one, Nat.add_zero] at hf12_1); have hx12_2 := hcc12 2 _ rfl; (try simp only [show (k145).sz = 3 from rfl, Nat.mul_one, Nat.add_zero] at hx12_2); have hf12_2 := hfr12 2; (try simp only [show (k145).sz = 3 from rfl, Nat.mul_one, Nat.add_zero] at hf12_2); (try clear hcl12); (try clear hcc12); (try clear hfr12); (try clear hM12)) | ((with_reducible refine gate_store (t := 145) (p := 21) rfl ?_); refine store_event (t := 145) (p := 21) (v := ?vo_w13) (w1 := (((w11.setCell ⟨go10, (x4_1 : Int).toNat * 3, none⟩ (v218)).setCell ⟨go10, (x4_1 : Int).toNat * 3 + 1, none⟩ (v221)).setCell ⟨go10, (x4_1 : Int).toNat * 3 + 2, none⟩ (v224))) ?hg ?ho ?hn ?hr ?_; (case ho => rfl); (case hg => rfl); (case hn => rfl); (case hr => first | (go_simp; done) | (go_simp; rfl) | ((obtain ⟨_, _, ez_⟩ := Kd.R_slice HO219.out; subst ez_); (obtain ⟨_, _, ez_⟩ := Kd.R_slice HO222.out; subst ez_); (obtain ⟨_, _, ez_⟩ := Kd.S_slice HO225.out; subst ez_); first | (go_simp; done) | (go_simp; rfl))); intro w13 hw; have hg : w11.grownBy w13 (some go10) := (by rw [hw]; exact HP12.2); have hp_ : Kd.R k145 145 w13 w.heap.size (fun _ => True) (.slice (some ⟨go10, 0, none⟩) x3_1.length co10) y226 := (by rw [hw, Ny226.out]; exact HP12.1); clear HP12; replace HO_3 := Aside0.mk (hp_); replace HB := Aside0.mk ((by rw [hw]; exact below_set (below_set (below_set (HB.out) GB10.out) GB10.out) GB10.out : Below w.heap.size w w13)); clear HO219; clear HO222; clear HO225; clear hg hw hp_))
        go_roundg k1
        case measure => have := HK1.out; omega
        case rel => exact ⟨(y226), (wrap64 (x4_1 + 1)), rq, H', ⟨by have := HK1.out; omega⟩, ⟨ozR HO_3⟩, ⟨bz HB⟩⟩
       ·
        rw [if_neg c9] at H
        exact absurd H (by simp)
      ·
       rw [if_neg c7] at H
       exact absurd H (by simp)
     ·
      rw [if_neg c6] at H
      have c6b0 : decide (x4_1 < (l0.length : Int)) = false := decide_eq_false c6
      clear c6
      obtain rfl := Option.some.inj H
      go_wp2
      go_ret
      exact ⟨_, rz, ozR HO_3, bz HB⟩
  ·
   rw [if_neg c3] at H
   exact absurd H (by simp)
 ·
  rw [if_neg c2] at H
  exact absurd H (by simp)
end Go.Proofs.Ytndmhmekmkgccaa.PFnExactInRange
end
section
namespace Go.Proofs.Ytndmhmekmkgccaa.PFnExactInRange
open Go.RowKit Go.Proofs.YtndmhmekmkgccaaW.PrintWords Go.Proofs.YtndmhmekmkgccaaW.PrintLast Go.Proofs.YtndmhmekmkgccaaW.PrintMore
attribute [local go_sem] max2_int min2_int max_two min_two max_three min_three max_four min_four   -- for this text's walks alone
set_option linter.unusedVariables false
set_option linter.unusedSimpArgs false
set_option maxHeartbeats 8000000 in
set_option maxRecDepth 100000 in
theorem laws_toSystem.calls (k : Nat) (A0_0 : Option Addr) (c0_0 : Nat) (l0_0 : List (LVar)) (A0_1 : Option Addr) (c0_1 : Nat) (l0_1 : List (LRule)) (r1 : List (IVar)) (r2 : List (IRule)) (w : World) (hr0_0 : Kd.C k147 w A0_0 l0_0.length l0_0) (hc0_0 : l0_0.length ≤ c0_0) (hr0_1 : Kd.C k138 w A0_1 l0_1.length l0_1) (hc0_1 : l0_1.length ≤ c0_1) (h : laws_toSystem.f k l0_0 l0_1 = some (r1, r2)) :
  Calls Try.prog 17 #[.agg #[.slice A0_0 l0_0.length c0_0, .slice A0_1 l0_1.length c0_1]] w fun e w' => ∃ v0_ v1_ : Value, e = .returned (.agg #[v0_, v1_]) ∧ Kd.R k141 141 w' w.heap.size (fun _ => True) v0_ r1 ∧ Kd.R k145 145 w' w.heap.size (fun _ => True) v1_ r2 ∧ Below w.heap.size w w' := by
 have hu37 := Try.underlying37
 have hu43 := Try.underlying43
 have HR0_0 := Aside0.mk hr0_0
 have HC0_0 := Aside0.mk hc0_0
 clear hr0_0 hc0_0
 have HR0_1 := Aside0.mk hr0_1
 have HC0_1 := Aside0.mk hc0_1
 clear hr0_1 hc0_1
 have HB := Aside0.mk (Below.refl w.heap.size w)
 have H : ((laws_toVarS.f k l0_0).bind fun t230 => ((laws_toRuleS.f k l0_1).bind fun t233 => (some (t230, t233)))) = some (r1, r2) := h
 clear h
 replace H := Option.bind_eq_some_iff.mp H
 obtain ⟨t230, A20, H⟩ := H
 have A2 := Aside0.mk A20
 clear A20
 replace H := Option.bind_eq_some_iff.mp H
 obtain ⟨t233, A30, H⟩ := H
 have A3 := Aside0.mk A30
 clear A30
 simp only [Option.some.injEq, Prod.mk.injEq] at H
 obtain ⟨rfl, rfl⟩ := H
 go_enter Try.func17, Try.ntmps17
 go_wp2_with (first | ((with_reducible refine gate_dst (N := 1) rfl ?_); refine box_event ?hg (N := 1) ?hd (cs := #[.slice A0_0 l0_0.length c0_0, .slice A0_1 l0_1.length c0_1]) (t := 37) ?hr ?_; (case hd => rfl); (case hg => rfl); (case hr => first | (go_simp; done) | (go_simp; rfl)); intro gb227 hg w4 hbox hb; have n0_ := Aside0.mk (below_step (bz HB) hb); have n1_ := Aside0.mk (hbox); have n2_ := Aside0.mk ((by rw [hg]; exact (below_size (bz HB)) : w.heap.size ≤ gb227)); have n3_ := Aside0.mk ((by rw [hg]; exact (below_size (bz HB)) : w.heap.size ≤ gb227)); clear HB; have HB := n0_; have BK227 := n1_; have GW227 := n2_; have GE227 := n3_; clear n0_ n1_ n2_ n3_; clear hb hbox hg) | ((with_reducible refine gate_dst (N := 2) rfl ?_); refine box_event ?hg (N := 2) ?hd (cs := #[.slice none 0 0, .slice none 0 0]) (t := 43) ?hr ?_; (case hd => rfl); (case hg => rfl); (case hr => first | (go_simp; done) | (go_simp; rfl)); intro gb228 hg w5 hbox hb; have n0_ := Aside0.mk (blk_below (g := gb227) (o := .cells #[.slice A0_0 l0_0.length c0_0, .slice A0_1 l0_1.length c0_1] 37 (0, 0)) (kz BK227) hb); have n1_ := Aside0.mk (below_step (bz1 HB GE227) hb); have n2_ := Aside0.mk (hbox); have n3_ := Aside0.mk ((by rw [hg]; exact (below_size (bz1 HB GE227)) : w.heap.size ≤ gb228)); have n4_ := Aside0.mk ((by rw [hg]; exact (below_size (bz1 HB GE227)) : w.heap.size ≤ gb228)); have n5_ := Aside0.mk ((by rw [hg]; exact Nat.ne_of_lt (blk_lt (g := gb227) (o := .cells #[.slice A0_0 l0_0.length c0_0, .slice A0_1 l0_1.length c0_1] 37 (0, 0)) (kz BK227)) : gb227 ≠ gb228)); have n6_ := Aside0.mk ((by rw [hg]; exact Nat.ne_of_gt (blk_lt (g := gb227) (o := .cells #[.slice A0_0 l0_0.length c0_0, .slice A0_1 l0_1.length c0_1] 37 (0, 0)) (kz BK227)) : gb228 ≠ gb227)); clear BK227; clear HB; have BK227 := n0_; have HB := n1_; have BK228 := n2_; have GW228 := n3_; have GE228 := n4_; have NB227_228 := n5_; have NB228_227 := n6_; clear n0_ n1_ n2_ n3_ n4_ n5_ n6_; clear hb hbox hg) | ((with_reducible refine gate_dst (N := 3) rfl ?_); refine box_event ?hg (N := 3) ?hd (cs := #[.slice none 0 0, .slice none 0 0]) (t := 43) ?hr ?_; (case hd => rfl); (case hg => rfl); (case hr => first | (go_simp; done) | (go_simp; rfl)); intro gb229 hg w6 hbox hb; have n0_ := Aside0.mk (blk_below (g := gb227) (o := .cells #[.slice A0_0 l0_0.length c0_0, .slice A0_1 l0_1.length c0_1] 37 (0, 0)) (kz BK227) hb); have n1_ := Aside0.mk (blk_below (g := gb228) (o := .cells #[.slice none 0 0, .slice none 0 0] 43 (0, 0)) (kz BK228) hb); have n2_ := Aside0.mk (below_step (bz2 HB GE227 GE228) hb); have n3_ := Aside0.mk (hbox); have n4_ := Aside0.mk ((by rw [hg]; exact (below_size (bz2 HB GE227 GE228)) : w.heap.size ≤ gb229)); have n5_ := Aside0.mk ((by rw [hg]; exact (below_size (bz2 HB GE227 GE228)) : w.heap.size ≤ gb229)); have n6_ := Aside0.mk ((by rw [hg]; exact Nat.ne_of_lt (blk_lt (g := gb227) (o := .cells #[.slice A0_0 l0_0.length c0_0, .slice A0_1 l0_1.length c0_1] 37 (0, 0)) (kz BK227)) : gb227 ≠ gb229)); have n7_ := Aside0.mk ((by rw [hg]; exact Nat.ne_of_gt (blk_lt (g := gb227) (o := .cells #[.slice A0_0 l0_0.length c0_0, .slice A0_1 l0_1.length c0_1] 37 (0, 0)) (kz BK227)) : gb229 ≠ gb227)); have n8_ := Aside0.mk ((by rw [hg]; exact Nat.ne_of_lt (blk_lt (g := gb228) (o := .cells #[.slice none 0 0, .slice none 0 0] 43 (0, 0)) (kz BK228)) : gb228 ≠ gb229)); have n9_ := Aside0.mk ((by rw [hg]; exact Nat.ne_of_gt (blk_lt (g := gb228) (o := .cells #[.slice none 0 0, .slice none 0 0] 43 (0, 0)) (kz BK228)) : gb229 ≠ gb228)); clear BK227; clear BK228; clear HB; have BK227 := n0_; have BK228 := n1_; have HB := n2_; have BK229 := n3_; have GW229 := n4_; have GE229 := n5_; have NB227_229 := n6_; have NB229_227 := n7_; have NB228_229 := n8_; have NB229_228 := n9_; clear n0_ n1_ n2_ n3_ n4_ n5_ n6_ n7_ n8_ n9_; clear hb hbox hg; have hnb7 := NB227_228.out; have hnc7 := NB228_227.out; have hnb8 := NB227_229.out; have hnc8 := NB229_227.out; have hcz9_0 : w6.cell? ⟨gb227, 0, none⟩ = some (.slice A0_0 l0_0.length c0_0) := (blk_cell BK227.out 0).trans rfl; have hcz9_1 : w6.cell? ⟨gb227, 1, none⟩ = some (.slice A0_1 l0_1.length c0_1) := (blk_cell BK227.out 1).trans rfl; have hfz9_0 := blk_frozen BK227.out 0; have hfz9_1 := blk_frozen BK227.out 1) | ((with_reducible refine gate_callee (f := 61) rfl ?_); refine goesL_ (some 6) rfl rfl Try.func61 (by kernel_rfl) rfl #[.slice A0_0 l0_0.length c0_0] rfl az ?_; (with_reducible refine (laws_toVarS.calls k _ _ l0_0 t230 _ ?side1 HC0_0.out A2.out).mono ?_); (case side1 => exact cz HR0_0 HB); rintro e w10 ⟨v231, rfl, ho0, hb⟩; refine ⟨_, rfl, ?_⟩; have HO232 := Aside0.mk (Kd.R_lower ho0 (below_size (bz3 HB GE227 GE228 GE229))); replace BK227 := Aside0.mk (blk_below (g := gb227) (o := .cells #[.slice A0_0 l0_0.length c0_0, .slice A0_1 l0_1.length c0_1] 37 (0, 0)) (kz BK227) hb); replace BK228 := Aside0.mk (blk_below (g := gb228) (o := .cells #[.slice none 0 0, .slice none 0 0] 43 (0, 0)) (kz BK228) hb); replace BK229 := Aside0.mk (blk_below (g := gb229) (o := .cells #[.slice none 0 0, .slice none 0 0] 43 (0, 0)) (kz BK229) hb); replace HB := Aside0.mk (below_step (bz3 HB GE227 GE228 GE229) hb); clear hb; (try clear ho0); obtain ⟨Ao11, co11, eo11⟩ := Kd.R_slice HO232.out; subst eo11; have hnb12 := NB229_228.out; have hnc12 := NB228_229.out; have hcz13_0 : w10.cell? ⟨gb229, 0, none⟩ = some (.slice none 0 0) := (blk_cell BK229.out 0).trans rfl; have hcz13_1 : w10.cell? ⟨gb229, 1, none⟩ = some (.slice none 0 0) := (blk_cell BK229.out 1).trans rfl; have hfz13_0 := blk_frozen BK229.out 0; have hfz13_1 := blk_frozen BK229.out 1; have hcz14_0 : w10.cell? ⟨gb227, 0, none⟩ = some (.slice A0_0 l0_0.length c0_0) := (blk_cell BK227.out 0).trans rfl; have hcz14_1 : w10.cell? ⟨gb227, 1, none⟩ = some (.slice A0_1 l0_1.length c0_1) := (blk_cell BK227.out 1).trans rfl; have hfz14_0 := blk_frozen BK227.out 0; have hfz14_1 := blk_frozen BK227.out 1) | ((with_reducible refine gate_callee (f := 62) rfl ?_); refine goesL_ (some 10) rfl rfl Try.func62 (by kernel_rfl) rfl #[.slice A0_1 l0_1.length c0_1] rfl az ?_; (with_reducible refine (laws_toRuleS.calls k _ _ l0_1 t233 _ ?side1 HC0_1.out A3.out).mono ?_); (case side1 => exact Kd.C_below HR0_1.out (bz3 HB GE227 GE228 GE229)); rintro e w15 ⟨v234, rfl, ho0, hb⟩; refine ⟨_, rfl, ?_⟩; replace HO232 := Aside0.mk (Kd.R_below (by (with_reducible repeat (first | apply Kd.R_alloc | apply Kd.R_drewN | apply Kd.R_drew)); exact (Kd.R_mono (Kd.R_far (p := ⟨gb229, 0, none⟩) (Kd.R_types HO232.out BK229.out (by decide)) (fun _ hk => hk.2) (.slice Ao11 t230.length co11)) (fun _ h_ => h_.1))) hb); have HO235 := Aside0.mk (Kd.R_lower ho0 (below_size (bz3 HB GE227 GE228 GE229))); replace BK227 := Aside0.mk (blk_below (g := gb227) (o := .cells #[.slice A0_0 l0_0.length c0_0, .slice A0_1 l0_1.length c0_1] 37 (0, 0)) (by (with_reducible repeat (first | refine blk_drewN ?_ _ | refine blk_drew ?_ | refine blk_alloc ?_ _)); refine blk_far ?_ NB227_229.out _; exact kz BK227) hb); replace BK228 := Aside0.mk (blk_below (g := gb228) (o := .cells #[.slice none 0 0, .slice none 0 0] 43 (0, 0)) (by (with_reducible repeat (first | refine blk_drewN ?_ _ | refine blk_drew ?_ | refine blk_alloc ?_ _)); refine blk_far ?_ NB228_229.out _; exact kz BK228) hb); replace BK229 := Aside0.mk (blk_below (g := gb229) (o := .cells #[.slice Ao11 t230.length co11, .slice none 0 0] 43 (0, 0)) (by (with_reducible repeat (first | refine blk_drewN ?_ _ | refine blk_drew ?_ | refine blk_alloc ?_ _)); refine blk_put (cs := #[.slice none 0 0, .slice none 0 0]) ?_ 0 _ rfl; exact kz BK229) hb); replace HB := Aside0.mk (below_step (bz3 HB GE227 GE228 GE229) hb); clear hb; (try clear hk); (try clear ho0); obtain ⟨Ao16, co16, eo16⟩ := Kd.R_slice HO235.out; subst eo16; have hcz17_0 : w15.cell? ⟨gb229, 0, none⟩ = some (.slice Ao11 t230.length co11) := (blk_cell BK229.out 0).trans rfl; have hcz17_1 : w15.cell? ⟨gb229, 1, none⟩ = some (.slice none 0 0) := (blk_cell BK229.out 1).trans rfl; have hfz17_0 := blk_frozen BK229.out 0; have hfz17_1 := blk_frozen BK229.out 1; have hcz18_0 : w15.cell? ⟨gb228, 0, none⟩ = some (.slice none 0 0) := (blk_cell BK228.out 0).trans rfl; have hcz18_1 : w15.cell? ⟨gb228, 1, none⟩ = some (.slice none 0 0) := (blk_cell BK228.out 1).trans rfl; have hfz18_0 := blk_frozen BK228.out 0; have hfz18_1 := blk_frozen BK228.out 1))
 refine bodyPost_ret (results_cell_row rfl _ _ gb228 43 #[.slice Ao11 t230.length co11, .slice Ao16 t233.length co16] (0, 0) _ rfl (by (with_reducible repeat (first | refine blk_drewN ?_ _ | refine blk_drew ?_ | refine blk_alloc ?_ _)); refine blk_put (cs := #[.slice Ao11 t230.length co11, .slice none 0 0]) ?_ 1 _ rfl; (with_reducible repeat (first | refine blk_drewN ?_ _ | refine blk_drew ?_ | refine blk_alloc ?_ _)); refine blk_put (cs := #[.slice none 0 0, .slice none 0 0]) ?_ 0 _ rfl; (with_reducible repeat (first | refine blk_drewN ?_ _ | refine blk_drew ?_ | refine blk_alloc ?_ _)); refine blk_far ?_ NB228_229.out _; exact kz BK228) Try.underlying43 rfl (by kernel_rfl)) rfl ?_
 exact ⟨_, _, rz, by (with_reducible repeat (first | apply Kd.R_alloc | apply Kd.R_drewN | apply Kd.R_drew)); exact Kd.R_mono (Kd.R_far (p := ⟨gb228, 1, none⟩) (Kd.R_far (p := ⟨gb228, 0, none⟩) (Kd.R_far (p := ⟨gb229, 1, none⟩) (Kd.R_types (Kd.R_types HO232.out BK229.out (by decide)) BK228.out (by decide)) (fun _ hk => hk.1.2) (.slice Ao16 t233.length co16)) (fun _ hk => hk.2) (.slice Ao11 t230.length co11)) (fun _ hk => hk.2) (.slice Ao16 t233.length co16)) (fun _ hk => trivial), by (with_reducible repeat (first | apply Kd.R_alloc | apply Kd.R_drewN | apply Kd.R_drew)); exact Kd.R_mono (Kd.R_far (p := ⟨gb228, 1, none⟩) (Kd.R_far (p := ⟨gb228, 0, none⟩) (Kd.R_far (p := ⟨gb229, 1, none⟩) (Kd.R_types (Kd.R_types HO235.out BK229.out (by decide)) BK228.out (by decide)) (fun _ hk => hk.1.2) (.slice Ao16 t233.length co16)) (fun _ hk => hk.2) (.slice Ao11 t230.length co11)) (fun _ hk => hk.2) (.slice Ao16 t233.length co16)) (fun _ hk => trivial), bz3 HB GE227 GE228 GE229⟩
end Go.Proofs.Ytndmhmekmkgccaa.PFnExactInRange
end
section
namespace Go.Proofs.Ytndmhmekmkgccaa.PFnExactInRange
open Go.RowKit Go.Proofs.YtndmhmekmkgccaaW.PrintWords Go.Proofs.YtndmhmekmkgccaaW.PrintLast Go.Proofs.YtndmhmekmkgccaaW.PrintMore
attribute [local go_sem] max2_int min2_int max_two min_two max_three min_three max_four min_four   -- for this text's walks alone
set_option linter.unusedVariables false
set_option linter.unusedSimpArgs false
set_option maxHeartbeats 8000000 in
set_option maxRecDepth 100000 in
theorem impl_size.calls (k : Nat) (A0 : Option Addr) (c0 : Nat) (l0 : List (IVar)) (r : Int) (w : World) (hr0 : Kd.C k141 w A0 l0.length l0) (hc0 : l0.length ≤ c0) (h : impl_size.f k l0 = some r) :
  Calls Try.prog 93 #[.slice A0 l0.length c0] w fun e w' => e = .returned (.int .i64 r) ∧ Below w.heap.size w w' := by
 have hu141 := Try.underlying141
 have HR0 := Aside0.mk hr0
 have HC0 := Aside0.mk hc0
 clear hr0 hc0
 have HB := Aside0.mk (Below.refl w.heap.size w)
 have H : (impl_size.l0 k 1 l0 (l0.length : Int) 0) = some r := h
 clear h
 have H' := Aside0.mk H
 clear H
 go_enter Try.func93, Try.ntmps93
 go_wp2
 go_loopg [3, 8] k (fun kq v3 v8 w' => ∃ (x3_1 : Int) (x8_1 : Int), v3 = .int .i64 x3_1 ∧ v8 = .int .i64 x8_1 ∧ Aside0 (impl_size.l0 kq x3_1 l0 (l0.length : Int) x8_1 = some r) ∧ Aside0 (kq ≤ k) ∧ Aside0 (Below w.heap.size w w'))
 case atStart => exact ⟨(1), (0), rq, rq, H', ⟨Nat.le_refl _⟩, ⟨bz HB⟩⟩
 case round =>
  clear H'
  obtain ⟨x3_1, x8_1, rfl, rfl, HA, HK1, HB⟩ := hrel
  cases gk with
  | zero => exact absurd HA.out (by simp [impl_size.l0])
  | succ k1 =>
   have H := HA.out
   clear HA
   simp only [impl_size.l0] at H
   by_cases c2 : x8_1 < (l0.length : Int)
   ·
    rw [if_pos c2] at H
    have c2b0 : decide (x8_1 < (l0.length : Int)) = true := decide_eq_true c2
    clear c2
    by_cases c3 : 0 ≤ x8_1
    ·
     rw [if_pos c3] at H
     have c3b0 : decide (0 ≤ x8_1) = true := decide_eq_true c3
     clear c3
     by_cases c4 : x8_1 < (l0.length : Int)
     ·
      rw [if_pos c4] at H
      have c4b0 : decide (x8_1 < (l0.length : Int)) = true := decide_eq_true c4
      clear c4
      have H' := Aside0.mk H
      clear H
      have p236 : 0 ≤ (x8_1 : Int) := dz
      have q236 : x8_1 < (l0.length : Int) := dz
      obtain ⟨ad236, e236, hx236_0, hx236_1, hx236_2⟩ := at_IVar HR0.out x8_1 p236 q236
      cases e236
      replace hx236_0 := xz HB hx236_0
      replace hx236_1 := xz HB hx236_1
      replace hx236_2 := xz HB hx236_2
      replace p236 := eq_true p236
      replace q236 := eq_true q236
      go_wp2_with (first | ((with_reducible refine gate_dst (N := 5) rfl ?_); refine box_event ?hg (N := 5) ?hd (cs := #[.int .i64 0, .int .i64 0, .int .i64 0]) (t := 141) ?hr ?_; (case hd => rfl); (case hg => rfl); (case hr => first | (go_simp; done) | (go_simp; rfl)); intro gb237 hg w5 hbox hb; have n0_ := Aside0.mk (below_step (bz HB) hb); have n1_ := Aside0.mk (hbox); have n2_ := Aside0.mk ((by rw [hg]; exact (below_size (bz HB)) : w.heap.size ≤ gb237)); have n3_ := Aside0.mk ((by rw [hg]; exact (below_size (bz HB)) : w.heap.size ≤ gb237)); clear HB; have HB := n0_; have BK237 := n1_; have GW237 := n2_; have GE237 := n3_; clear n0_ n1_ n2_ n3_; clear hb hbox hg; have hcz6_0 : w5.cell? ⟨gb237, 0, none⟩ = some (.int .i64 0) := (blk_cell BK237.out 0).trans rfl; have hcz6_1 : w5.cell? ⟨gb237, 1, none⟩ = some (.int .i64 0) := (blk_cell BK237.out 1).trans rfl; have hcz6_2 : w5.cell? ⟨gb237, 2, none⟩ = some (.int .i64 0) := (blk_cell BK237.out 2).trans rfl; have hfz6_0 := blk_frozen BK237.out 0; have hfz6_1 := blk_frozen BK237.out 1; have hfz6_2 := blk_frozen BK237.out 2))
      go_roundg k1
      case measure => have := HK1.out; omega
      case rel => exact ⟨(wrap64 (x3_1 * (wrap64 ((wrap64 (((rd_IVar l0 x8_1).f1) - ((rd_IVar l0 x8_1).f0))) + 1)))), (wrap64 (x8_1 + 1)), rq, rq, H', ⟨by have := HK1.out; omega⟩, ⟨bz1 HB GE237⟩⟩
     ·
      rw [if_neg c4] at H
      exact absurd H (by simp)
    ·
     rw [if_neg c3] at H
     exact absurd H (by simp)
   ·
    rw [if_neg c2] at H
    have c2b0 : decide (x8_1 < (l0.length : Int)) = false := decide_eq_false c2
    clear c2
    obtain rfl := Option.some.inj H
    go_wp2
    go_ret
    exact ⟨rz, bz HB⟩
end Go.Proofs.Ytndmhmekmkgccaa.PFnExactInRange
end
section
namespace Go.Proofs.Ytndmhmekmkgccaa.PFnExactInRange
open Go.RowKit Go.Proofs.YtndmhmekmkgccaaW.PrintWords Go.Proofs.YtndmhmekmkgccaaW.PrintLast Go.Proofs.YtndmhmekmkgccaaW.PrintMore
attribute [local go_sem] max2_int min2_int max_two min_two max_three min_three max_four min_four   -- for this text's walks alone
set_option linter.unusedVariables false
set_option linter.unusedSimpArgs false
set_option maxHeartbeats 8000000 in
set_option maxRecDepth 100000 in
theorem impl_in.calls (a0 : Int) (a1 : Int) (a2 : Int) (r : Bool) (w : World) (h : impl_in.f a0 a1 a2 = some r) :
  Calls Try.prog 96 #[.int .i64 a0, .int .i64 a1, .int .i64 a2] w fun e w' => e = .returned (.bool r) ∧ Drawn0 w w' := by
 have H : (if a0 ≥ a1 then (some (decide (a0 ≤ a2))) else (some false)) = some r := h
 clear h
 by_cases c4 : a0 ≥ a1
 ·
  rw [if_pos c4] at H
  have c4b0 : decide (a1 ≤ a0) = true := decide_eq_true c4
  clear c4
  obtain rfl := Option.some.inj H
  go_enter Try.func96, Try.ntmps96
  go_wp2
  go_ret
  exact ⟨by first | rfl | (simp; done) | (simp [*]; done), by repeat (first | exact Drawn0.refl _ | apply Drawn0.step)⟩
 ·
  rw [if_neg c4] at H
  have c4b0 : decide (a1 ≤ a0) = false := decide_eq_false c4
  clear c4
  obtain rfl := Option.some.inj H
  go_enter Try.func96, Try.ntmps96
  go_wp2
  go_ret
  exact ⟨by first | rfl | (simp; done) | (simp [*]; done), by repeat (first | exact Drawn0.refl _ | apply Drawn0.step)⟩
end Go.Proofs.Ytndmhmekmkgccaa.PFnExactInRange
end
section
namespace Go.Proofs.Ytndmhmekmkgccaa.PFnExactInRange
open Go.RowKit Go.Proofs.YtndmhmekmkgccaaW.PrintWords Go.Proofs.YtndmhmekmkgccaaW.PrintLast Go.Proofs.YtndmhmekmkgccaaW.PrintMore
attribute [local go_sem] max2_int min2_int max_two min_two max_three min_three max_four min_four   -- for this text's walks alone
set_option linter.unusedVariables false
set_option linter.unusedSimpArgs false
set_option maxHeartbeats 8000000 in
set_option maxRecDepth 100000 in
theorem impl_varOk.calls (a0_0 : Int) (a0_1 : Int) (a0_2 : Int) (r : Bool) (w : World) (h : impl_varOk.f a0_0 a0_1 a0_2 = some r) :
  Calls Try.prog 120 #[.agg #[.int .i64 a0_0, .int .i64 a0_1, .int .i64 a0_2]] w fun e w' => e = .returned (.bool r) ∧ Below w.heap.size w w' := by
 have hu141 := Try.underlying141
 have HB := Aside0.mk (Below.refl w.heap.size w)
 have H : ((impl_in.f a0_0 (-9999) 9999).bind fun t239 => (if t239 = true then ((impl_in.f a0_1 a0_0 9999).bind fun t240 => (if t240 = true then (if (wrap64 (a0_1 - a0_0)) < 20 then ((impl_in.f a0_2 a0_0 a0_1).bind fun t241 => (some t241)) else (some false)) else (some false))) else (some false))) = some r := h
 clear h
 replace H := Option.bind_eq_some_iff.mp H
 obtain ⟨t239, A20, H⟩ := H
 have A2 := Aside0.mk A20
 clear A20
 by_cases c3 : t239 = true
 ·
  subst c3
  rw [if_pos rfl] at H
  replace H := Option.bind_eq_some_iff.mp H
  obtain ⟨t240, A40, H⟩ := H
  have A4 := Aside0.mk A40
  clear A40
  by_cases c5 : t240 = true
  ·
   subst c5
   rw [if_pos rfl] at H
   by_cases c6 : (wrap64 (a0_1 - a0_0)) < 20
   ·
    rw [if_pos c6] at H
    have c6b0 : decide ((wrap64 (a0_1 - a0_0)) < 20) = true := decide_eq_true c6
    clear c6
    replace H := Option.bind_eq_some_iff.mp H
    obtain ⟨t241, A70, H⟩ := H
    have A7 := Aside0.mk A70
    clear A70
    obtain rfl := Option.some.inj H
    go_enter Try.func120, Try.ntmps120
    go_wp2_with (first | ((with_reducible refine gate_dst (N := 1) rfl ?_); refine box_event ?hg (N := 1) ?hd (cs := #[.int .i64 a0_0, .int .i64 a0_1, .int .i64 a0_2]) (t := 141) ?hr ?_; (case hd => rfl); (case hg => rfl); (case hr => first | (go_simp; done) | (go_simp; rfl)); intro gb238 hg w8 hbox hb; have n0_ := Aside0.mk (below_step (bz HB) hb); have n1_ := Aside0.mk (hbox); have n2_ := Aside0.mk ((by rw [hg]; exact (below_size (bz HB)) : w.heap.size ≤ gb238)); have n3_ := Aside0.mk ((by rw [hg]; exact (below_size (bz HB)) : w.heap.size ≤ gb238)); clear HB; have HB := n0_; have BK238 := n1_; have GW238 := n2_; have GE238 := n3_; clear n0_ n1_ n2_ n3_; clear hb hbox hg; have hcz9_0 : w8.cell? ⟨gb238, 0, none⟩ = some (.int .i64 a0_0) := (blk_cell BK238.out 0).trans rfl; have hcz9_1 : w8.cell? ⟨gb238, 1, none⟩ = some (.int .i64 a0_1) := (blk_cell BK238.out 1).trans rfl; have hcz9_2 : w8.cell? ⟨gb238, 2, none⟩ = some (.int .i64 a0_2) := (blk_cell BK238.out 2).trans rfl; have hfz9_0 := blk_frozen BK238.out 0; have hfz9_1 := blk_frozen BK238.out 1; have hfz9_2 := blk_frozen BK238.out 2) | ((with_reducible refine gate_callee (f := 96) rfl ?_); refine goesL_ (some 5) rfl rfl Try.func96 (by kernel_rfl) rfl #[.int .i64 a0_0, .int .i64 (-9999), .int .i64 9999] rfl az ?_; (with_reducible refine (impl_in.calls a0_0 (-9999) 9999 true _ A2.out).mono ?_); rintro e w' ⟨rfl, ⟨nd, rfl⟩⟩; refine ⟨_, rfl, ?_⟩) | (go_at_call 96; (with_reducible refine (impl_in.calls a0_1 a0_0 9999 true _ A4.out).mono ?_); rintro e w' ⟨rfl, ⟨nd, rfl⟩⟩) | (go_at_call 96; (with_reducible refine (impl_in.calls a0_2 a0_0 a0_1 t241 _ A7.out).mono ?_); rintro e w' ⟨rfl, ⟨nd, rfl⟩⟩))
    go_ret
    exact ⟨rz, bz1 HB GE238⟩
   ·
    rw [if_neg c6] at H
    have c6b0 : decide ((wrap64 (a0_1 - a0_0)) < 20) = false := decide_eq_false c6
    clear c6
    obtain rfl := Option.some.inj H
    go_enter Try.func120, Try.ntmps120
    go_wp2_with (first | ((with_reducible refine gate_dst (N := 1) rfl ?_); refine box_event ?hg (N := 1) ?hd (cs := #[.int .i64 a0_0, .int .i64 a0_1, .int .i64 a0_2]) (t := 141) ?hr ?_; (case hd => rfl); (case hg => rfl); (case hr => first | (go_simp; done) | (go_simp; rfl)); intro gb238 hg w10 hbox hb; have n0_ := Aside0.mk (below_step (bz HB) hb); have n1_ := Aside0.mk (hbox); have n2_ := Aside0.mk ((by rw [hg]; exact (below_size (bz HB)) : w.heap.size ≤ gb238)); have n3_ := Aside0.mk ((by rw [hg]; exact (below_size (bz HB)) : w.heap.size ≤ gb238)); clear HB; have HB := n0_; have BK238 := n1_; have GW238 := n2_; have GE238 := n3_; clear n0_ n1_ n2_ n3_; clear hb hbox hg; have hcz11_0 : w10.cell? ⟨gb238, 0, none⟩ = some (.int .i64 a0_0) := (blk_cell BK238.out 0).trans rfl; have hcz11_1 : w10.cell? ⟨gb238, 1, none⟩ = some (.int .i64 a0_1) := (blk_cell BK238.out 1).trans rfl; have hcz11_2 : w10.cell? ⟨gb238, 2, none⟩ = some (.int .i64 a0_2) := (blk_cell BK238.out 2).trans rfl; have hfz11_0 := blk_frozen BK238.out 0; have hfz11_1 := blk_frozen BK238.out 1; have hfz11_2 := blk_frozen BK238.out 2) | ((with_reducible refine gate_callee (f := 96) rfl ?_); refine goesL_ (some 5) rfl rfl Try.func96 (by kernel_rfl) rfl #[.int .i64 a0_0, .int .i64 (-9999), .int .i64 9999] rfl az ?_; (with_reducible refine (impl_in.calls a0_0 (-9999) 9999 true _ A2.out).mono ?_); rintro e w' ⟨rfl, ⟨nd, rfl⟩⟩; refine ⟨_, rfl, ?_⟩) | (go_at_call 96; (with_reducible refine (impl_in.calls a0_1 a0_0 9999 true _ A4.out).mono ?_); rintro e w' ⟨rfl, ⟨nd, rfl⟩⟩))
    go_ret
    exact ⟨rz, bz1 HB GE238⟩
  ·
   replace c5 := Bool.eq_false_iff.mpr c5
   subst c5
   rw [if_neg nt_] at H
   obtain rfl := Option.some.inj H
   go_enter Try.func120, Try.ntmps120
   go_wp2_with (first | ((with_reducible refine gate_dst (N := 1) rfl ?_); refine box_event ?hg (N := 1) ?hd (cs := #[.int .i64 a0_0, .int .i64 a0_1, .int .i64 a0_2]) (t := 141) ?hr ?_; (case hd => rfl); (case hg => rfl); (case hr => first | (go_simp; done) | (go_simp; rfl)); intro gb238 hg w12 hbox hb; have n0_ := Aside0.mk (below_step (bz HB) hb); have n1_ := Aside0.mk (hbox); have n2_ := Aside0.mk ((by rw [hg]; exact (below_size (bz HB)) : w.heap.size ≤ gb238)); have n3_ := Aside0.mk ((by rw [hg]; exact (below_size (bz HB)) : w.heap.size ≤ gb238)); clear HB; have HB := n0_; have BK238 := n1_; have GW238 := n2_; have GE238 := n3_; clear n0_ n1_ n2_ n3_; clear hb hbox hg; have hcz13_0 : w12.cell? ⟨gb238, 0, none⟩ = some (.int .i64 a0_0) := (blk_cell BK238.out 0).trans rfl; have hcz13_1 : w12.cell? ⟨gb238, 1, none⟩ = some (.int .i64 a0_1) := (blk_cell BK238.out 1).trans rfl; have hcz13_2 : w12.cell? ⟨gb238, 2, none⟩ = some (.int .i64 a0_2) := (blk_cell BK238.out 2).trans rfl; have hfz13_0 := blk_frozen BK238.out 0; have hfz13_1 := blk_frozen BK238.out 1; have hfz13_2 := blk_frozen BK238.out 2) | ((with_reducible refine gate_callee (f := 96) rfl ?_); refine goesL_ (some 5) rfl rfl Try.func96 (by kernel_rfl) rfl #[.int .i64 a0_0, .int .i64 (-9999), .int .i64 9999] rfl az ?_; (with_reducible refine (impl_in.calls a0_0 (-9999) 9999 true _ A2.out).mono ?_); rintro e w' ⟨rfl, ⟨nd, rfl⟩⟩; refine ⟨_, rfl, ?_⟩) | (go_at_call 96; (with_reducible refine (impl_in.calls a0_1 a0_0 9999 false _ A4.out).mono ?_); rintro e w' ⟨rfl, ⟨nd, rfl⟩⟩))
   go_ret
   exact ⟨rz, bz1 HB GE238⟩
 ·
  replace c3 := Bool.eq_false_iff.mpr c3
  subst c3
  rw [if_neg nt_] at H
  obtain rfl := Option.some.inj H
  go_enter Try.func120, Try.ntmps120
  go_wp2_with (first | ((with_reducible refine gate_dst (N := 1) rfl ?_); refine box_event ?hg (N := 1) ?hd (cs := #[.int .i64 a0_0, .int .i64 a0_1, .int .i64 a0_2]) (t := 141) ?hr ?_; (case hd => rfl); (case hg => rfl); (case hr => first | (go_simp; done) | (go_simp; rfl)); intro gb238 hg w14 hbox hb; have n0_ := Aside0.mk (below_step (bz HB) hb); have n1_ := Aside0.mk (hbox); have n2_ := Aside0.mk ((by rw [hg]; exact (below_size (bz HB)) : w.heap.size ≤ gb238)); have n3_ := Aside0.mk ((by rw [hg]; exact (below_size (bz HB)) : w.heap.size ≤ gb238)); clear HB; have HB := n0_; have BK238 := n1_; have GW238 := n2_; have GE238 := n3_; clear n0_ n1_ n2_ n3_; clear hb hbox hg; have hcz15_0 : w14.cell? ⟨gb238, 0, none⟩ = some (.int .i64 a0_0) := (blk_cell BK238.out 0).trans rfl; have hcz15_1 : w14.cell? ⟨gb238, 1, none⟩ = some (.int .i64 a0_1) := (blk_cell BK238.out 1).trans rfl; have hcz15_2 : w14.cell? ⟨gb238, 2, none⟩ = some (.int .i64 a0_2) := (blk_cell BK238.out 2).trans rfl; have hfz15_0 := blk_frozen BK238.out 0; have hfz15_1 := blk_frozen BK238.out 1; have hfz15_2 := blk_frozen BK238.out 2) | ((with_reducible refine gate_callee (f := 96) rfl ?_); refine goesL_ (some 5) rfl rfl Try.func96 (by kernel_rfl) rfl #[.int .i64 a0_0, .int .i64 (-9999), .int .i64 9999] rfl az ?_; (with_reducible refine (impl_in.calls a0_0 (-9999) 9999 false _ A2.out).mono ?_); rintro e w' ⟨rfl, ⟨nd, rfl⟩⟩; refine ⟨_, rfl, ?_⟩))
  go_ret
  exact ⟨rz, bz1 HB GE238⟩
end Go.Proofs.Ytndmhmekmkgccaa.PFnExactInRange
end
section
namespace Go.Proofs.Ytndmhmekmkgccaa.PFnExactInRange
open Go.RowKit Go.Proofs.YtndmhmekmkgccaaW.PrintWords Go.Proofs.YtndmhmekmkgccaaW.PrintLast Go.Proofs.YtndmhmekmkgccaaW.PrintMore
attribute [local go_sem] max2_int min2_int max_two min_two max_three min_three max_four min_four   -- for this text's walks alone
set_option linter.unusedVariables false
set_option linter.unusedSimpArgs false
set_option maxHeartbeats 8000000 in
set_option maxRecDepth 100000 in
theorem impl_SystemValid_1.calls (a0_0 : Int) (a0_1 : Int) (a0_2 : Int) (r : Bool) (w : World) (h : impl_SystemValid_1.f a0_0 a0_1 a0_2 = some r) :
  Calls Try.prog 119 #[.agg #[.int .i64 a0_0, .int .i64 a0_1, .int .i64 a0_2]] w fun e w' => e = .returned (.bool r) ∧ Below w.heap.size w w' := by
 have hu141 := Try.underlying141
 have HB := Aside0.mk (Below.refl w.heap.size w)
 have H : ((impl_varOk.f a0_0 a0_1 a0_2).bind fun t272 => (some (!t272))) = some r := h
 clear h
 replace H := Option.bind_eq_some_iff.mp H
 obtain ⟨t272, A20, H⟩ := H
 have A2 := Aside0.mk A20
 clear A20
 obtain rfl := Option.some.inj H
 go_enter Try.func119, Try.ntmps119
 go_wp2_with (first | ((with_reducible refine gate_dst (N := 1) rfl ?_); refine box_event ?hg (N := 1) ?hd (cs := #[.int .i64 a0_0, .int .i64 a0_1, .int .i64 a0_2]) (t := 141) ?hr ?_; (case hd => rfl); (case hg => rfl); (case hr => first | (go_simp; done) | (go_simp; rfl)); intro gb271 hg w3 hbox hb; have n0_ := Aside0.mk (below_step (bz HB) hb); have n1_ := Aside0.mk (hbox); have n2_ := Aside0.mk ((by rw [hg]; exact (below_size (bz HB)) : w.heap.size ≤ gb271)); have n3_ := Aside0.mk ((by rw [hg]; exact (below_size (bz HB)) : w.heap.size ≤ gb271)); clear HB; have HB := n0_; have BK271 := n1_; have GW271 := n2_; have GE271 := n3_; clear n0_ n1_ n2_ n3_; clear hb hbox hg; have hcz4_0 : w3.cell? ⟨gb271, 0, none⟩ = some (.int .i64 a0_0) := (blk_cell BK271.out 0).trans rfl; have hcz4_1 : w3.cell? ⟨gb271, 1, none⟩ = some (.int .i64 a0_1) := (blk_cell BK271.out 1).trans rfl; have hcz4_2 : w3.cell? ⟨gb271, 2, none⟩ = some (.int .i64 a0_2) := (blk_cell BK271.out 2).trans rfl; have hfz4_0 := blk_frozen BK271.out 0; have hfz4_1 := blk_frozen BK271.out 1; have hfz4_2 := blk_frozen BK271.out 2) | ((with_reducible refine gate_callee (f := 120) rfl ?_); refine goesL_ (some 4) rfl rfl Try.func120 (by kernel_rfl) rfl #[.agg #[.int .i64 a0_0, .int .i64 a0_1, .int .i64 a0_2]] rfl az ?_; (with_reducible refine (impl_varOk.calls a0_0 a0_1 a0_2 t272 _ A2.out).mono ?_); rintro e w5 ⟨rfl, hb⟩; refine ⟨_, rfl, ?_⟩; replace BK271 := Aside0.mk (blk_below (g := gb271) (o := .cells #[.int .i64 a0_0, .int .i64 a0_1, .int .i64 a0_2] 141 (0, 0)) (kz BK271) hb); replace HB := Aside0.mk (below_step (bz1 HB GE271) hb); clear hb))
 go_ret
 exact ⟨rz, bz1 HB GE271⟩
end Go.Proofs.Ytndmhmekmkgccaa.PFnExactInRange
end
section
namespace Go.Proofs.Ytndmhmekmkgccaa.PFnExactInRange
open Go.RowKit Go.Proofs.YtndmhmekmkgccaaW.PrintWords Go.Proofs.YtndmhmekmkgccaaW.PrintLast Go.Proofs.YtndmhmekmkgccaaW.PrintMore
attribute [local go_sem] max2_int min2_int max_two min_two max_three min_three max_four min_four   -- for this text's walks alone
set_option linter.unusedVariables false
set_option linter.unusedSimpArgs false
set_option maxHeartbeats 8000000 in
set_option maxRecDepth 100000 in
theorem slices_IndexFunc_at_impl_SystemValid_1.calls (k : Nat) (A0 : Option Addr) (c0 : Nat) (l0 : List (IVar))  (r : Int) (w : World) (hr0 : Kd.C k141 w A0 l0.length l0) (hc0 : l0.length ≤ c0) (h : slices_IndexFunc_at_impl_SystemValid_1.f k l0 = some r) :
  Calls Try.prog 159 #[.slice A0 l0.length c0, .func (.func 119) #[] #[]] w fun e w' => e = .returned (.int .i64 r) ∧ Below w.heap.size w w' := by
 have hu141 := Try.underlying141
 have HR0 := Aside0.mk hr0
 have HC0 := Aside0.mk hc0
 clear hr0 hc0
 have HB := Aside0.mk (Below.refl w.heap.size w)
 have H : (slices_IndexFunc_at_impl_SystemValid_1.l0 k l0 (l0.length : Int) 0) = some r := h
 clear h
 have H' := Aside0.mk H
 clear H
 go_enter Try.func159, Try.ntmps159
 go_wp2
 go_loopg [8] k (fun kq v8 w' => ∃ (x8_1 : Int), v8 = .int .i64 x8_1 ∧ Aside0 (slices_IndexFunc_at_impl_SystemValid_1.l0 kq l0 (l0.length : Int) x8_1 = some r) ∧ Aside0 (kq ≤ k) ∧ Aside0 (Below w.heap.size w w'))
 case atStart => exact ⟨(0), rq, H', ⟨Nat.le_refl _⟩, ⟨bz HB⟩⟩
 case round =>
  clear H'
  try clear p2
  obtain ⟨x8_1, rfl, HA, HK1, HB⟩ := hrel
  cases gk with
  | zero => exact absurd HA.out (by simp [slices_IndexFunc_at_impl_SystemValid_1.l0])
  | succ k1 =>
   have H := HA.out
   clear HA
   simp only [slices_IndexFunc_at_impl_SystemValid_1.l0] at H
   by_cases c3 : x8_1 < (l0.length : Int)
   ·
    rw [if_pos c3] at H
    have c3b0 : decide (x8_1 < (l0.length : Int)) = true := decide_eq_true c3
    clear c3
    by_cases c4 : 0 ≤ x8_1
    ·
     rw [if_pos c4] at H
     have c4b0 : decide (0 ≤ x8_1) = true := decide_eq_true c4
     clear c4
     by_cases c5 : x8_1 < (l0.length : Int)
     ·
      rw [if_pos c5] at H
      have c5b0 : decide (x8_1 < (l0.length : Int)) = true := decide_eq_true c5
      clear c5
      replace H := Option.bind_eq_some_iff.mp H
      obtain ⟨t274, A60, H⟩ := H
      have A6 := Aside0.mk A60
      clear A60
      by_cases c7 : t274 = true
      ·
       subst c7
       rw [if_pos rfl] at H
       obtain rfl := Option.some.inj H
       have p273 : 0 ≤ (x8_1 : Int) := dz
       have q273 : x8_1 < (l0.length : Int) := dz
       obtain ⟨ad273, e273, hx273_0, hx273_1, hx273_2⟩ := at_IVar HR0.out x8_1 p273 q273
       cases e273
       replace hx273_0 := xz HB hx273_0
       replace hx273_1 := xz HB hx273_1
       replace hx273_2 := xz HB hx273_2
       replace p273 := eq_true p273
       replace q273 := eq_true q273
       go_wp2_with (first | ((with_reducible refine gate_value (cal := .tmp 11) rfl ?_); refine goesV_ (some 16) rfl rfl Try.func119 (by kernel_rfl) rfl #[.agg #[.int .i64 ((rd_IVar l0 x8_1).f0), .int .i64 ((rd_IVar l0 x8_1).f1), .int .i64 ((rd_IVar l0 x8_1).f2)]] rfl rfl az ?_; (with_reducible refine (impl_SystemValid_1.calls ((rd_IVar l0 x8_1).f0) ((rd_IVar l0 x8_1).f1) ((rd_IVar l0 x8_1).f2) true _ A6.out).mono ?_); rintro e w8 ⟨rfl, hb⟩; refine ⟨_, rfl, ?_⟩; replace HB := Aside0.mk (below_step (bz HB) hb); clear hb))
       go_ret
       exact ⟨rz, bz HB⟩
      ·
       replace c7 := Bool.eq_false_iff.mpr c7
       subst c7
       rw [if_neg nt_] at H
       have H' := Aside0.mk H
       clear H
       have p273 : 0 ≤ (x8_1 : Int) := dz
       have q273 : x8_1 < (l0.length : Int) := dz
       obtain ⟨ad273, e273, hx273_0, hx273_1, hx273_2⟩ := at_IVar HR0.out x8_1 p273 q273
       cases e273
       replace hx273_0 := xz HB hx273_0
       replace hx273_1 := xz HB hx273_1
       replace hx273_2 := xz HB hx273_2
       replace p273 := eq_true p273
       replace q273 := eq_true q273
       go_wp2_with (first | ((with_reducible refine gate_value (cal := .tmp 11) rfl ?_); refine goesV_ (some 16) rfl rfl Try.func119 (by kernel_rfl) rfl #[.agg #[.int .i64 ((rd_IVar l0 x8_1).f0), .int .i64 ((rd_IVar l0 x8_1).f1), .int .i64 ((rd_IVar l0 x8_1).f2)]] rfl rfl az ?_; (with_reducible refine (impl_SystemValid_1.calls ((rd_IVar l0 x8_1).f0) ((rd_IVar l0 x8_1).f1) ((rd_IVar l0 x8_1).f2) false _ A6.out).mono ?_); rintro e w9 ⟨rfl, hb⟩; refine ⟨_, rfl, ?_⟩; replace HB := Aside0.mk (below_step (bz HB) hb); clear hb))
       go_roundg k1
       case measure => have := HK1.out; omega
       case rel => exact ⟨(wrap64 (x8_1 + 1)), rq, H', ⟨by have := HK1.out; omega⟩, ⟨bz HB⟩⟩
     ·
      rw [if_neg c5] at H
      exact absurd H (by simp)
    ·
     rw [if_neg c4] at H
     exact absurd H (by simp)
   ·
    rw [if_neg c3] at H
    have c3b0 : decide (x8_1 < (l0.length : Int)) = false := decide_eq_false c3
    clear c3
    obtain rfl := Option.some.inj H
    go_wp2
    go_ret
    exact ⟨rz, bz HB⟩
end Go.Proofs.Ytndmhmekmkgccaa.PFnExactInRange
end
section
namespace Go.Proofs.Ytndmhmekmkgccaa.PFnExactInRange
open Go.RowKit Go.Proofs.YtndmhmekmkgccaaW.PrintWords Go.Proofs.YtndmhmekmkgccaaW.PrintLast Go.Proofs.YtndmhmekmkgccaaW.PrintMore
attribute [local go_sem] max2_int min2_int max_two min_two max_three min_three max_four min_four   -- for this text's walks alone
set_option linter.unusedVariables false
set_option linter.unusedSimpArgs false
set_option maxHeartbeats 8000000 in
set_option maxRecDepth 100000 in
theorem slices_ContainsFunc_at_impl_SystemValid_1.calls (k : Nat) (A0 : Option Addr) (c0 : Nat) (l0 : List (IVar))  (r : Bool) (w : World) (hr0 : Kd.C k141 w A0 l0.length l0) (hc0 : l0.length ≤ c0) (h : slices_ContainsFunc_at_impl_SystemValid_1.f k l0 = some r) :
  Calls Try.prog 118 #[.slice A0 l0.length c0, .func (.func 119) #[] #[]] w fun e w' => e = .returned (.bool r) ∧ Below w.heap.size w w' := by
 have HR0 := Aside0.mk hr0
 have HC0 := Aside0.mk hc0
 clear hr0 hc0
 have HB := Aside0.mk (Below.refl w.heap.size w)
 have H : ((slices_IndexFunc_at_impl_SystemValid_1.f k l0).bind fun t275 => (some (decide (t275 ≥ 0)))) = some r := h
 clear h
 replace H := Option.bind_eq_some_iff.mp H
 obtain ⟨t275, A30, H⟩ := H
 have A3 := Aside0.mk A30
 clear A30
 obtain rfl := Option.some.inj H
 go_enter Try.func118, Try.ntmps118
 go_wp2_with (first | ((with_reducible refine gate_callee (f := 159) rfl ?_); refine goesL_ (some 7) rfl rfl Try.func159 (by kernel_rfl) rfl #[.slice A0 l0.length c0, .func (.func 119) #[] #[]] rfl az ?_; (with_reducible refine (slices_IndexFunc_at_impl_SystemValid_1.calls k _ _ l0  t275 _ ?side1 HC0.out A3.out).mono ?_); (case side1 => exact cz0 HR0); rintro e w4 ⟨rfl, hb⟩; refine ⟨_, rfl, ?_⟩; replace HB := Aside0.mk (below_step (bz HB) hb); clear hb))
 go_ret
 exact ⟨rz, bz HB⟩
end Go.Proofs.Ytndmhmekmkgccaa.PFnExactInRange
end
section
namespace Go.Proofs.Ytndmhmekmkgccaa.PFnExactInRange
open Go.RowKit Go.Proofs.YtndmhmekmkgccaaW.PrintWords Go.Proofs.YtndmhmekmkgccaaW.PrintLast Go.Proofs.YtndmhmekmkgccaaW.PrintMore
attribute [local go_sem] max2_int min2_int max_two min_two max_three min_three max_four min_four   -- for this text's walks alone
set_option linter.unusedVariables false
set_option linter.unusedSimpArgs false
set_option maxHeartbeats 8000000 in
set_option maxRecDepth 100000 in
theorem impl_parts.calls (k : Nat) (a0 : Int) (r1 : Int) (r2 : Int) (r3 : Int) (w : World) (h : impl_parts.f k a0 = some (r1, r2, r3)) :
  Calls Try.prog 168 #[.int .i64 a0] w fun e w' => e = .returned (.tuple #[.int .i64 r1, .int .i64 r2, .int .i64 r3]) ∧ Drawn0 w w' := by
 have H : (if a0 = 2 then (impl_parts.j0 k a0 (a0 == 2)) else (if a0 = 3 then (impl_parts.j0 k a0 (a0 == 3)) else (impl_parts.j0 k a0 (a0 == 4)))) = some (r1, r2, r3) := h
 clear h
 have HC2 := Aside0.mk H
 clear H
 go_enter Try.func168, Try.ntmps168
 go_upto_if 6 with (fail)
 go_cut [6] (fun v6 wc => ∃ (kq : Nat) (x6_1 : Bool), v6 = .bool x6_1 ∧ Aside0 (impl_parts.j0 kq a0 x6_1 = some (r1, r2, r3)) ∧ Aside0 (kq ≤ k) ∧ Drawn0 w wc)
 case first =>
  have H := HC2.out
  clear HC2
  by_cases c3 : a0 = 2
  ·
   rw [if_pos c3] at H
   have c3b0 : (a0 == 2) = true := beq_iff_eq.mpr c3
   have c3b1 : (a0 != 2) = false := bne_eq_false_iff_eq.mpr c3
   clear c3
   (first | rw [c3b0] | (simp only [i64_w, i32_w]; rw [c3b0]) | skip)
   have H' := Aside0.mk H
   clear H
   go_wp2
   go_meet
   case rel => exact ⟨_, ((a0 == 2)), rq, H', ⟨by first | omega | exact Nat.le_refl _⟩, by repeat (first | exact Drawn0.refl _ | apply Drawn0.step)⟩
  ·
   rw [if_neg c3] at H
   have c3b0 : (a0 == 2) = false := beq_eq_false_iff_ne.mpr c3
   have c3b1 : (a0 != 2) = true := bne_iff_ne.mpr c3
   (first | rw [c3b0] | (simp only [i64_w, i32_w]; rw [c3b0]) | skip)
   by_cases c4 : a0 = 3
   ·
    rw [if_pos c4] at H
    have c4b0 : (a0 == 3) = true := beq_iff_eq.mpr c4
    have c4b1 : (a0 != 3) = false := bne_eq_false_iff_eq.mpr c4
    clear c4
    have H' := Aside0.mk H
    clear H
    go_wp2
    go_meet
    case rel => exact ⟨_, ((a0 == 3)), rq, H', ⟨by first | omega | exact Nat.le_refl _⟩, by repeat (first | exact Drawn0.refl _ | apply Drawn0.step)⟩
   ·
    rw [if_neg c4] at H
    have c4b0 : (a0 == 3) = false := beq_eq_false_iff_ne.mpr c4
    have c4b1 : (a0 != 3) = true := bne_iff_ne.mpr c4
    have H' := Aside0.mk H
    clear H
    go_wp2
    go_meet
    case rel => exact ⟨_, ((a0 == 4)), rq, H', ⟨by first | omega | exact Nat.le_refl _⟩, by repeat (first | exact Drawn0.refl _ | apply Drawn0.step)⟩
 case rest =>
  clear HC2
  try clear c1
  try clear p2
  try clear c3
  try clear c3b0
  try clear c3b1
  try clear c4
  try clear c4b0
  try clear c4b1
  obtain ⟨kq, x6_1, rfl, HA, HJ1, ⟨mc1, rfl⟩⟩ := hcut
  cases kq with
  | zero => exact absurd HA.out (by simp [impl_parts.j0])
  | succ kj1 =>
   have H := HA.out
   clear HA
   simp only [impl_parts.j0] at H
   by_cases c5 : x6_1 = true
   ·
    subst c5
    rw [if_pos rfl] at H
    simp only [Option.some.injEq, Prod.mk.injEq] at H
    obtain ⟨rfl, rfl, rfl⟩ := H
    go_wp2
    go_ret3
    exact ⟨by first | rfl | (simp; done) | (simp [*]; done), by repeat (first | exact Drawn0.refl _ | apply Drawn0.step)⟩
   ·
    replace c5 := Bool.eq_false_iff.mpr c5
    subst c5
    rw [if_neg nt_] at H
    have HC6 := Aside0.mk H
    clear H
    go_upto_if 10 with (fail)
    go_cut [10] (fun v10 wc => ∃ (kq : Nat) (x10_5 : Bool), v10 = .bool x10_5 ∧ Aside0 (impl_parts.j1 kq a0 x10_5 = some (r1, r2, r3)) ∧ Aside0 (kq ≤ kj1) ∧ Drawn0 w wc)
    case first =>
     have H := HC6.out
     clear HC6
     by_cases c7 : a0 = 5
     ·
      rw [if_pos c7] at H
      have c7b0 : (a0 == 5) = true := beq_iff_eq.mpr c7
      have c7b1 : (a0 != 5) = false := bne_eq_false_iff_eq.mpr c7
      clear c7
      (first | rw [c7b0] | (simp only [i64_w, i32_w]; rw [c7b0]) | skip)
      have H' := Aside0.mk H
      clear H
      go_wp2
      go_meet
      case rel => exact ⟨_, ((a0 == 5)), rq, H', ⟨by have := HJ1.out; first | omega | exact Nat.le_refl _⟩, by repeat (first | exact Drawn0.refl _ | apply Drawn0.step)⟩
     ·
      rw [if_neg c7] at H
      have c7b0 : (a0 == 5) = false := beq_eq_false_iff_ne.mpr c7
      have c7b1 : (a0 != 5) = true := bne_iff_ne.mpr c7
      (first | rw [c7b0] | (simp only [i64_w, i32_w]; rw [c7b0]) | skip)
      have H' := Aside0.mk H
      clear H
      go_wp2
      go_meet
      case rel => exact ⟨_, ((a0 == 6)), rq, H', ⟨by have := HJ1.out; first | omega | exact Nat.le_refl _⟩, by repeat (first | exact Drawn0.refl _ | apply Drawn0.step)⟩
    case rest =>
     clear HC6
     try clear c1
     try clear p2
     try clear c3
     try clear c3b0
     try clear c3b1
     try clear c4
     try clear c4b0
     try clear c4b1
     try clear c5
     try clear c7
     try clear c7b0
     try clear c7b1
     try clear p2
     obtain ⟨kq, x10_5, rfl, HA, HJ5, ⟨mc5, rfl⟩⟩ := hcut
     cases kq with
     | zero => exact absurd HA.out (by simp [impl_parts.j1])
     | succ kj5 =>
      have H := HA.out
      clear HA
      simp only [impl_parts.j1] at H
      by_cases c8 : x10_5 = true
      ·
       subst c8
       rw [if_pos rfl] at H
       simp only [Option.some.injEq, Prod.mk.injEq] at H
       obtain ⟨rfl, rfl, rfl⟩ := H
       go_wp2
       go_ret3
       exact ⟨by first | rfl | (simp; done) | (simp [*]; done), by repeat (first | exact Drawn0.refl _ | apply Drawn0.step)⟩
      ·
       replace c8 := Bool.eq_false_iff.mpr c8
       subst c8
       rw [if_neg nt_] at H
       by_cases c9 : a0 = 7
       ·
        rw [if_pos c9] at H
        have c9b0 : (a0 == 7) = true := beq_iff_eq.mpr c9
        have c9b1 : (a0 != 7) = false := bne_eq_false_iff_eq.mpr c9
        clear c9
        simp only [Option.some.injEq, Prod.mk.injEq] at H
        obtain ⟨rfl, rfl, rfl⟩ := H
        go_wp2
        go_ret3
        exact ⟨by first | rfl | (simp; done) | (simp [*]; done), by repeat (first | exact Drawn0.refl _ | apply Drawn0.step)⟩
       ·
        rw [if_neg c9] at H
        have c9b0 : (a0 == 7) = false := beq_eq_false_iff_ne.mpr c9
        have c9b1 : (a0 != 7) = true := bne_iff_ne.mpr c9
        have HC10 := Aside0.mk H
        clear H
        go_upto_if 15 with (fail)
        go_cut [15] (fun v15 wc => ∃ (kq : Nat) (x15_9 : Bool), v15 = .bool x15_9 ∧ Aside0 (impl_parts.j2 kq x15_9 = some (r1, r2, r3)) ∧ Aside0 (kq ≤ kj5) ∧ Drawn0 w wc)
        case first =>
         have H := HC10.out
         clear HC10
         by_cases c11 : a0 = 8
         ·
          rw [if_pos c11] at H
          have c11b0 : (a0 == 8) = true := beq_iff_eq.mpr c11
          have c11b1 : (a0 != 8) = false := bne_eq_false_iff_eq.mpr c11
          clear c11
          (first | rw [c11b0] | (simp only [i64_w, i32_w]; rw [c11b0]) | skip)
          have H' := Aside0.mk H
          clear H
          go_wp2
          go_meet
          case rel => exact ⟨_, ((a0 == 8)), rq, H', ⟨by have := HJ1.out; have := HJ5.out; first | omega | exact Nat.le_refl _⟩, by repeat (first | exact Drawn0.refl _ | apply Drawn0.step)⟩
         ·
          rw [if_neg c11] at H
          have c11b0 : (a0 == 8) = false := beq_eq_false_iff_ne.mpr c11
          have c11b1 : (a0 != 8) = true := bne_iff_ne.mpr c11
          (first | rw [c11b0] | (simp only [i64_w, i32_w]; rw [c11b0]) | skip)
          have H' := Aside0.mk H
          clear H
          go_wp2
          go_meet
          case rel => exact ⟨_, ((a0 == 9)), rq, H', ⟨by have := HJ1.out; have := HJ5.out; first | omega | exact Nat.le_refl _⟩, by repeat (first | exact Drawn0.refl _ | apply Drawn0.step)⟩
        case rest =>
         clear HC10
         try clear c1
         try clear p2
         try clear c3
         try clear c3b0
         try clear c3b1
         try clear c4
         try clear c4b0
         try clear c4b1
         try clear c5
         try clear c7
         try clear c7b0
         try clear c7b1
         try clear c8
         try clear c9
         try clear c9b0
         try clear c9b1
         try clear c11
         try clear c11b0
         try clear c11b1
         try clear p2
         obtain ⟨kq, x15_9, rfl, HA, HJ9, ⟨mc9, rfl⟩⟩ := hcut
         cases kq with
         | zero => exact absurd HA.out (by simp [impl_parts.j2])
         | succ kj9 =>
          have H := HA.out
          clear HA
          simp only [impl_parts.j2] at H
          by_cases c12 : x15_9 = true
          ·
           subst c12
           rw [if_pos rfl] at H
           simp only [Option.some.injEq, Prod.mk.injEq] at H
           obtain ⟨rfl, rfl, rfl⟩ := H
           go_wp2
           go_ret3
           exact ⟨by first | rfl | (simp; done) | (simp [*]; done), by repeat (first | exact Drawn0.refl _ | apply Drawn0.step)⟩
          ·
           replace c12 := Bool.eq_false_iff.mpr c12
           subst c12
           rw [if_neg nt_] at H
           simp only [Option.some.injEq, Prod.mk.injEq] at H
           obtain ⟨rfl, rfl, rfl⟩ := H
           go_wp2
           go_ret3
           exact ⟨by first | rfl | (simp; done) | (simp [*]; done), by repeat (first | exact Drawn0.refl _ | apply Drawn0.step)⟩
end Go.Proofs.Ytndmhmekmkgccaa.PFnExactInRange
end
