/- Walks of Go functions: each is shown to answer as the Lean function beside it tells, under the conditions that its theorem names. -/
import Derived.Test.YtoofhjflfpccdaaProg
import Derived.Below
import Derived.Deep.Draws
import Derived.Deep.AppendLies
import Derived.Maps.AppendAt
import Derived.OwnWalk
import Derived.Laws.BytesArg
import Derived.Laws.MakeOwn
import Derived.Laws.OwnMore
import Derived.Deep.OwnRows
import Derived.Tactics
import Derived.Lib.ConvBytes
import Derived.Laws.Slices
import Derived.WalkKit
import Derived.KernelRfl
import Derived.RowKit3
import Derived.Deep.LoopGhost
import Derived.Deep.QuietTactic
import Derived.BigQuiet
import Derived.WideLaws
import Derived.Deep.DeepCutAuto
import Derived.Deep.CutBlock
import Derived.Deep.RegionHeld3
import Derived.Laws.Rows
import Derived.Lib.AppendStr
import Derived.ArgAppend
import Derived.Laws.IdiomCopy
import Derived.OrdersHeld
import Derived.Laws.BitsLemmas
import Derived.RowKit
import Derived.Laws.StructEq
import Derived.Lib.SliceRun
import Derived.WalkSpells
import Derived.ChangeArms
import Derived.ChangeSlices
import Derived.Deep.Slices
import Derived.Test.YtoofhjflfpccdaaKP53ed3ab6b9
import Derived.Test.YtoofhjflfpccdaaKP51d54c1b39
import Derived.Test.YtoofhjflfpccdaaKP33059d2f46
namespace Go.Proofs.Ytoofhjflfpccdaa.PA
open Go.RowKit Go.Proofs.YtoofhjflfpccdaaW.PrintWords Go.Proofs.YtoofhjflfpccdaaW.PrintLast Go.Proofs.YtoofhjflfpccdaaW.PrintMore
attribute [local go_sem] max2_int min2_int max_two min_two max_three min_three max_four min_four   -- for this text's walks alone
set_option linter.unusedVariables false
set_option linter.unusedSimpArgs false
set_option maxHeartbeats 8000000 in
set_option maxRecDepth 100000 in
theorem laws_FnExactApartBits.calls (k : Nat) (A0_0 : Option Addr) (c0_0 : Nat) (l0_0 : List (LVar)) (A0_1 : Option Addr) (c0_1 : Nat) (l0_1 : List (LRule)) (A1 : Option Addr) (c1 : Nat) (l1 : List Int) (A2 : Option Addr) (c2 : Nat) (l2 : List Int) (r : Bool) (w : World) (hr0_0 : Kd.C k84 w A0_0 l0_0.length l0_0) (hc0_0 : l0_0.length ≤ c0_0) (hr0_1 : Kd.C k75 w A0_1 l0_1.length l0_1) (hc0_1 : l0_1.length ≤ c0_1) (hr1 : Kd.C (Kd.int .i64) w A1 l1.length l1) (hc1 : l1.length ≤ c1) (hr2 : Kd.C (Kd.int .i64) w A2 l2.length l2) (hc2 : l2.length ≤ c2) (h : laws_FnExactApartBits.f k l0_0 l0_1 l1 l2 = some r) (hr_ : r = true) :
  Calls Try.prog 8 #[.agg #[.slice A0_0 l0_0.length c0_0, .slice A0_1 l0_1.length c0_1], .slice A1 l1.length c1, .slice A2 l2.length c2] w fun e w' => e = .returned (.bool r) ∧ Below w.heap.size w w' := by
 have HR_ := Aside0.mk hr_
 clear hr_
 have hu25 := Try.underlying25
 have hu31 := Try.underlying31
 have HR0_0 := Aside0.mk hr0_0
 have HC0_0 := Aside0.mk hc0_0
 clear hr0_0 hc0_0
 have HR0_1 := Aside0.mk hr0_1
 have HC0_1 := Aside0.mk hc0_1
 clear hr0_1 hc0_1
 have HR1 := Aside0.mk hr1
 have HC1 := Aside0.mk hc1
 clear hr1 hc1
 have HR2 := Aside0.mk hr2
 have HC2 := Aside0.mk hc2
 clear hr2 hc2
 have HB := Aside0.mk (Below.refl w.heap.size w)
 have H : (if (l1.length : Int) > 1048576 then (some true) else (if (l2.length : Int) > 1048576 then (some true) else ((laws_szSystem.f k l0_0 l0_1 1048576).bind fun t679 => (if t679 < 0 then (some true) else ((laws_toSystem.f k l0_0 l0_1).bind fun bt680 => ((laws_toIntS.f k l1).bind fun t686 => ((laws_toIntS.f k l2).bind fun t689 => ((spec_ApartBits.f k bt680.1 bt680.2 t686 t689).bind fun t692 => ((laws_toSystem.f k l0_0 l0_1).bind fun bt693 => ((laws_toIntS.f k l1).bind fun t700 => ((laws_toIntS.f k l2).bind fun t703 => ((impl_ApartBits.f k bt693.1 bt693.2 t700 t703).bind fun t706 => (if t706 = t692 then ((laws_toSystem.f k l0_0 l0_1).bind fun bt707 => ((laws_eqSystem.f k bt693.1 bt693.2 bt707.1 bt707.2).bind fun t713 => (if t713 = true then ((laws_toIntS.f k l1).bind fun t714 => ((laws_eqIntS.f k t700 t714).bind fun t717 => (if t717 = true then ((laws_toIntS.f k l2).bind fun t718 => ((laws_eqIntS.f k t703 t718).bind fun t721 => (if t721 = true then (some true) else (some false)))) else (some false)))) else (some false)))) else (some false)))))))))))))) = some r := h
 clear h
 by_cases c4 : (l1.length : Int) > 1048576
 case pos =>
  rw [if_pos c4] at H
  have c4b0 : decide (1048576 < (l1.length : Int)) = true := decide_eq_true c4
  have c4b1 : decide (1048576 < l1.length) = true := decide_eq_true (by omega)
  clear c4
  obtain rfl := Option.some.inj H
  go_enter Try.func8, Try.ntmps8
  go_wp2_with (first | ((with_reducible refine gate_dst (N := 3) rfl ?_); refine box_event ?hg (N := 3) ?hd (cs := #[.slice A0_0 l0_0.length c0_0, .slice A0_1 l0_1.length c0_1]) (t := 25) ?hr ?_; (case hd => rfl); (case hg => rfl); (case hr => first | (go_simp; done) | (go_simp; rfl)); intro gb678 hg w5 hbox hb; have n0_ := Aside0.mk (below_step (bz HB) hb); have n1_ := Aside0.mk (hbox); have n2_ := Aside0.mk ((by rw [hg]; exact (below_size (bz HB)) : w.heap.size ≤ gb678)); have n3_ := Aside0.mk ((by rw [hg]; exact (below_size (bz HB)) : w.heap.size ≤ gb678)); clear HB; have HB := n0_; have BK678 := n1_; have GW678 := n2_; have GE678 := n3_; clear n0_ n1_ n2_ n3_; clear hb hbox hg))
  go_ret
  exact ⟨rz, bz1 HB GE678⟩
 rw [if_neg c4] at H
 have c4b0 : decide (1048576 < (l1.length : Int)) = false := decide_eq_false c4
 have c4b1 : decide (1048576 < l1.length) = false := decide_eq_false (by omega)
 clear c4
 by_cases c6 : (l2.length : Int) > 1048576
 case pos =>
  rw [if_pos c6] at H
  have c6b0 : decide (1048576 < (l2.length : Int)) = true := decide_eq_true c6
  have c6b1 : decide (1048576 < l2.length) = true := decide_eq_true (by omega)
  clear c6
  obtain rfl := Option.some.inj H
  go_enter Try.func8, Try.ntmps8
  go_wp2_with (first | ((with_reducible refine gate_dst (N := 3) rfl ?_); refine box_event ?hg (N := 3) ?hd (cs := #[.slice A0_0 l0_0.length c0_0, .slice A0_1 l0_1.length c0_1]) (t := 25) ?hr ?_; (case hd => rfl); (case hg => rfl); (case hr => first | (go_simp; done) | (go_simp; rfl)); intro gb678 hg w7 hbox hb; have n0_ := Aside0.mk (below_step (bz HB) hb); have n1_ := Aside0.mk (hbox); have n2_ := Aside0.mk ((by rw [hg]; exact (below_size (bz HB)) : w.heap.size ≤ gb678)); have n3_ := Aside0.mk ((by rw [hg]; exact (below_size (bz HB)) : w.heap.size ≤ gb678)); clear HB; have HB := n0_; have BK678 := n1_; have GW678 := n2_; have GE678 := n3_; clear n0_ n1_ n2_ n3_; clear hb hbox hg))
  go_ret
  exact ⟨rz, bz1 HB GE678⟩
 rw [if_neg c6] at H
 have c6b0 : decide (1048576 < (l2.length : Int)) = false := decide_eq_false c6
 have c6b1 : decide (1048576 < l2.length) = false := decide_eq_false (by omega)
 clear c6
 replace H := Option.bind_eq_some_iff.mp H
 obtain ⟨t679, A80, H⟩ := H
 have A8 := Aside0.mk A80
 clear A80
 by_cases c9 : t679 < 0
 case pos =>
  rw [if_pos c9] at H
  have c9b0 : decide (t679 < 0) = true := decide_eq_true c9
  clear c9
  obtain rfl := Option.some.inj H
  go_enter Try.func8, Try.ntmps8
  go_wp2_with (first | ((with_reducible refine gate_dst (N := 3) rfl ?_); refine box_event ?hg (N := 3) ?hd (cs := #[.slice A0_0 l0_0.length c0_0, .slice A0_1 l0_1.length c0_1]) (t := 25) ?hr ?_; (case hd => rfl); (case hg => rfl); (case hr => first | (go_simp; done) | (go_simp; rfl)); intro gb678 hg w10 hbox hb; have n0_ := Aside0.mk (below_step (bz HB) hb); have n1_ := Aside0.mk (hbox); have n2_ := Aside0.mk ((by rw [hg]; exact (below_size (bz HB)) : w.heap.size ≤ gb678)); have n3_ := Aside0.mk ((by rw [hg]; exact (below_size (bz HB)) : w.heap.size ≤ gb678)); clear HB; have HB := n0_; have BK678 := n1_; have GW678 := n2_; have GE678 := n3_; clear n0_ n1_ n2_ n3_; clear hb hbox hg; have hcz11_0 : w10.cell? ⟨gb678, 0, none⟩ = some (.slice A0_0 l0_0.length c0_0) := (blk_cell BK678.out 0).trans rfl; have hcz11_1 : w10.cell? ⟨gb678, 1, none⟩ = some (.slice A0_1 l0_1.length c0_1) := (blk_cell BK678.out 1).trans rfl; have hfz11_0 := blk_frozen BK678.out 0; have hfz11_1 := blk_frozen BK678.out 1) | ((with_reducible refine gate_callee (f := 15) rfl ?_); refine goesL_ (some 21) rfl rfl Try.func15 (by kernel_rfl) rfl #[.agg #[.slice A0_0 l0_0.length c0_0, .slice A0_1 l0_1.length c0_1], .int .i64 1048576] rfl az ?_; (with_reducible refine (laws_szSystem.calls k _ _ l0_0 _ _ l0_1 1048576 t679 _ ?side1 HC0_0.out ?side3 HC0_1.out A8.out).mono ?_); (case side1 => exact cz HR0_0 HB); (case side3 => exact cz HR0_1 HB); rintro e w12 ⟨rfl, hb⟩; refine ⟨_, rfl, ?_⟩; replace BK678 := Aside0.mk (blk_below (g := gb678) (o := .cells #[.slice A0_0 l0_0.length c0_0, .slice A0_1 l0_1.length c0_1] 25 (0, 0)) (kz BK678) hb); replace HB := Aside0.mk (below_step (bz1 HB GE678) hb); clear hb))
  go_ret
  exact ⟨rz, bz1 HB GE678⟩
 rw [if_neg c9] at H
 have c9b0 : decide (t679 < 0) = false := decide_eq_false c9
 clear c9
 replace H := Option.bind_eq_some_iff.mp H
 obtain ⟨⟨t680, t683⟩, A130, H⟩ := H
 dsimp only at H
 have A13 := Aside0.mk A130
 clear A130
 replace H := Option.bind_eq_some_iff.mp H
 obtain ⟨t686, A140, H⟩ := H
 have A14 := Aside0.mk A140
 clear A140
 replace H := Option.bind_eq_some_iff.mp H
 obtain ⟨t689, A150, H⟩ := H
 have A15 := Aside0.mk A150
 clear A150
 replace H := Option.bind_eq_some_iff.mp H
 obtain ⟨t692, A160, H⟩ := H
 have A16 := Aside0.mk A160
 clear A160
 replace H := Option.bind_eq_some_iff.mp H
 obtain ⟨⟨t693, t696⟩, A170, H⟩ := H
 dsimp only at H
 have A17 := Aside0.mk A170
 clear A170
 replace H := Option.bind_eq_some_iff.mp H
 obtain ⟨t700, A180, H⟩ := H
 have A18 := Aside0.mk A180
 clear A180
 replace H := Option.bind_eq_some_iff.mp H
 obtain ⟨t703, A190, H⟩ := H
 have A19 := Aside0.mk A190
 clear A190
 replace H := Option.bind_eq_some_iff.mp H
 obtain ⟨t706, A200, H⟩ := H
 have A20 := Aside0.mk A200
 clear A200
 by_cases c21 : t706 = t692
 case neg =>
  rw [if_neg c21] at H
  have c21b0 : (t706 == t692) = false := beq_eq_false_iff_ne.mpr c21
  have c21b1 : (t706 != t692) = true := bne_iff_ne.mpr c21
  exact absurd ((Option.some.inj H).trans HR_.out) (by decide)
 rw [if_pos c21] at H
 have c21b0 : (t706 == t692) = true := beq_iff_eq.mpr c21
 have c21b1 : (t706 != t692) = false := bne_eq_false_iff_eq.mpr c21
 clear c21
 replace H := Option.bind_eq_some_iff.mp H
 obtain ⟨⟨t707, t710⟩, A220, H⟩ := H
 dsimp only at H
 have A22 := Aside0.mk A220
 clear A220
 replace H := Option.bind_eq_some_iff.mp H
 obtain ⟨t713, A230, H⟩ := H
 have A23 := Aside0.mk A230
 clear A230
 by_cases c24 : t713 = true
 case neg =>
  replace c24 := Bool.eq_false_iff.mpr c24
  subst c24
  rw [if_neg nt_] at H
  exact absurd ((Option.some.inj H).trans HR_.out) (by decide)
 subst c24
 rw [if_pos rfl] at H
 replace H := Option.bind_eq_some_iff.mp H
 obtain ⟨t714, A250, H⟩ := H
 have A25 := Aside0.mk A250
 clear A250
 replace H := Option.bind_eq_some_iff.mp H
 obtain ⟨t717, A260, H⟩ := H
 have A26 := Aside0.mk A260
 clear A260
 by_cases c27 : t717 = true
 case neg =>
  replace c27 := Bool.eq_false_iff.mpr c27
  subst c27
  rw [if_neg nt_] at H
  exact absurd ((Option.some.inj H).trans HR_.out) (by decide)
 subst c27
 rw [if_pos rfl] at H
 replace H := Option.bind_eq_some_iff.mp H
 obtain ⟨t718, A280, H⟩ := H
 have A28 := Aside0.mk A280
 clear A280
 replace H := Option.bind_eq_some_iff.mp H
 obtain ⟨t721, A290, H⟩ := H
 have A29 := Aside0.mk A290
 clear A290
 by_cases c30 : t721 = true
 case neg =>
  replace c30 := Bool.eq_false_iff.mpr c30
  subst c30
  rw [if_neg nt_] at H
  exact absurd ((Option.some.inj H).trans HR_.out) (by decide)
 subst c30
 rw [if_pos rfl] at H
 obtain rfl := Option.some.inj H
 go_enter Try.func8, Try.ntmps8
 try go_wp2_with (first | ((with_reducible refine gate_dst (N := 3) rfl ?_); refine box_event ?hg (N := 3) ?hd (cs := #[.slice A0_0 l0_0.length c0_0, .slice A0_1 l0_1.length c0_1]) (t := 25) ?hr ?_; (case hd => rfl); (case hg => rfl); (case hr => first | (go_simp; done) | (go_simp; rfl)); intro gb678 hg w31 hbox hb; have n0_ := Aside0.mk (below_step (bz HB) hb); have n1_ := Aside0.mk (hbox); have n2_ := Aside0.mk ((by rw [hg]; exact (below_size (bz HB)) : w.heap.size ≤ gb678)); have n3_ := Aside0.mk ((by rw [hg]; exact (below_size (bz HB)) : w.heap.size ≤ gb678)); clear HB; have HB := n0_; have BK678 := n1_; have GW678 := n2_; have GE678 := n3_; clear n0_ n1_ n2_ n3_; clear hb hbox hg; have hcz32_0 : w31.cell? ⟨gb678, 0, none⟩ = some (.slice A0_0 l0_0.length c0_0) := (blk_cell BK678.out 0).trans rfl; have hcz32_1 : w31.cell? ⟨gb678, 1, none⟩ = some (.slice A0_1 l0_1.length c0_1) := (blk_cell BK678.out 1).trans rfl; have hfz32_0 := blk_frozen BK678.out 0; have hfz32_1 := blk_frozen BK678.out 1) | ((with_reducible refine gate_callee (f := 15) rfl ?_); refine goesL_ (some 21) rfl rfl Try.func15 (by kernel_rfl) rfl #[.agg #[.slice A0_0 l0_0.length c0_0, .slice A0_1 l0_1.length c0_1], .int .i64 1048576] rfl az ?_; (with_reducible refine (laws_szSystem.calls k _ _ l0_0 _ _ l0_1 1048576 t679 _ ?side1 HC0_0.out ?side3 HC0_1.out A8.out).mono ?_); (case side1 => exact cz HR0_0 HB); (case side3 => exact cz HR0_1 HB); rintro e w33 ⟨rfl, hb⟩; refine ⟨_, rfl, ?_⟩; replace BK678 := Aside0.mk (blk_below (g := gb678) (o := .cells #[.slice A0_0 l0_0.length c0_0, .slice A0_1 l0_1.length c0_1] 25 (0, 0)) (kz BK678) hb); replace HB := Aside0.mk (below_step (bz1 HB GE678) hb); clear hb; have hcz34_0 : w33.cell? ⟨gb678, 0, none⟩ = some (.slice A0_0 l0_0.length c0_0) := (blk_cell BK678.out 0).trans rfl; have hcz34_1 : w33.cell? ⟨gb678, 1, none⟩ = some (.slice A0_1 l0_1.length c0_1) := (blk_cell BK678.out 1).trans rfl; have hfz34_0 := blk_frozen BK678.out 0; have hfz34_1 := blk_frozen BK678.out 1) | ((with_reducible refine gate_callee (f := 17) rfl ?_); refine goesL_ (some 25) rfl rfl Try.func17 (by kernel_rfl) rfl #[.agg #[.slice A0_0 l0_0.length c0_0, .slice A0_1 l0_1.length c0_1]] rfl az ?_; (with_reducible refine (laws_toSystem.calls k _ _ l0_0 _ _ l0_1 t680 t683 _ ?side1 HC0_0.out ?side3 HC0_1.out A13.out).mono ?_); (case side1 => exact cz HR0_0 HB); (case side3 => exact cz HR0_1 HB); rintro e w35 ⟨v681, v684, rfl, ho0, ho1, hb⟩; refine ⟨_, rfl, ?_⟩; have HO682 := Aside0.mk (Kd.R_lower ho0 (below_size (bz1 HB GE678))); have HO685 := Aside0.mk (Kd.R_lower ho1 (below_size (bz1 HB GE678))); replace BK678 := Aside0.mk (blk_below (g := gb678) (o := .cells #[.slice A0_0 l0_0.length c0_0, .slice A0_1 l0_1.length c0_1] 25 (0, 0)) (kz BK678) hb); replace HB := Aside0.mk (below_step (bz1 HB GE678) hb); clear hb; (try clear ho0); (try clear ho1)) | ((with_reducible refine gate_callee (f := 27) rfl ?_); refine goesL_ (some 27) rfl rfl Try.func27 (by kernel_rfl) rfl #[.slice A1 l1.length c1] rfl az ?_; (with_reducible refine (laws_toIntS.calls k _ _ l1 t686 _ ?side1 HC1.out A14.out).mono ?_); (case side1 => exact cz HR1 HB); rintro e w36 ⟨v687, rfl, ho0, hb⟩; refine ⟨_, rfl, ?_⟩; replace HO682 := Aside0.mk (Kd.R_below (ozR HO682) hb); replace HO685 := Aside0.mk (Kd.R_elder' (ozR HO685) (Kd.R_base ho0) hb); have HO688 := Aside0.mk (Kd.R_lower ho0 (below_size (bz1 HB GE678))); replace BK678 := Aside0.mk (blk_below (g := gb678) (o := .cells #[.slice A0_0 l0_0.length c0_0, .slice A0_1 l0_1.length c0_1] 25 (0, 0)) (kz BK678) hb); replace HB := Aside0.mk (below_step (bz1 HB GE678) hb); clear hb; (try clear ho0)) | ((with_reducible refine gate_callee (f := 27) rfl ?_); refine goesL_ (some 29) rfl rfl Try.func27 (by kernel_rfl) rfl #[.slice A2 l2.length c2] rfl az ?_; (with_reducible refine (laws_toIntS.calls k _ _ l2 t689 _ ?side1 HC2.out A15.out).mono ?_); (case side1 => exact cz HR2 HB); rintro e w37 ⟨v690, rfl, ho0, hb⟩; refine ⟨_, rfl, ?_⟩; have n0_ := Aside0.mk (Kd.R_below (ozR HO682) hb); have n1_ := Aside0.mk (Kd.R_elder' (ozR HO685) (Kd.R_base ho0) hb); have n2_ := Aside0.mk (Kd.R_elder' (ozR HO688) (Kd.R_base ho0) hb); have n3_ := Aside0.mk (Kd.R_lower (Kd.R_new' ho0 (Kd.R_lt (ozR HO688))) (below_size (bz1 HB GE678))); have n4_ := Aside0.mk (blk_below (g := gb678) (o := .cells #[.slice A0_0 l0_0.length c0_0, .slice A0_1 l0_1.length c0_1] 25 (0, 0)) (kz BK678) hb); have n5_ := Aside0.mk (below_step (bz1 HB GE678) hb); clear HO682; clear HO685; clear HO688; clear BK678; clear HB; have HO682 := n0_; have HO685 := n1_; have HO688 := n2_; have HO691 := n3_; have BK678 := n4_; have HB := n5_; clear n0_ n1_ n2_ n3_ n4_ n5_; clear hb; (try clear ho0); obtain ⟨Ao38, co38, eo38⟩ := Kd.R_slice HO682.out; subst eo38; obtain ⟨Ao39, co39, eo39⟩ := Kd.R_slice HO685.out; subst eo39; obtain ⟨Ao40, co40, eo40⟩ := Kd.R_slice HO688.out; subst eo40; obtain ⟨Ao41, co41, eo41⟩ := Kd.R_slice HO691.out; subst eo41) | ((with_reducible refine gate_callee (f := 33) rfl ?_); refine goesL_ (some 30) rfl rfl Try.func33 (by kernel_rfl) rfl #[.agg #[.slice Ao38 t680.length co38, .slice Ao39 t683.length co39], .slice Ao40 t686.length co40, .slice Ao41 t689.length co41] rfl az ?_; (with_reducible refine (spec_ApartBits.calls k _ _ t680 _ _ t683 _ _ t686 _ _ t689 t692 _ ?side1 ?side2 ?side3 ?side4 ?side5 ?side6 ?side7 ?side8 A16.out).mono ?_); (case side1 => exact cz1 (Kd.R_reads' HO682.out).2.2); (case side2 => exact (Kd.R_reads' HO682.out).2.1); (case side3 => exact cz1 (Kd.R_reads' HO685.out).2.2); (case side4 => exact (Kd.R_reads' HO685.out).2.1); (case side5 => exact cz1 (Kd.R_reads' HO688.out).2.2); (case side6 => exact (Kd.R_reads' HO688.out).2.1); (case side7 => exact cz1 (Kd.R_reads' HO691.out).2.2); (case side8 => exact (Kd.R_reads' HO691.out).2.1); rintro e w42 ⟨rfl, hb⟩; refine ⟨_, rfl, ?_⟩; replace HO682 := Aside0.mk (Kd.R_below (ozR HO682) hb); replace HO685 := Aside0.mk (Kd.R_below (ozR HO685) hb); replace HO688 := Aside0.mk (Kd.R_below (ozR HO688) hb); replace HO691 := Aside0.mk (Kd.R_below (ozR HO691) hb); replace BK678 := Aside0.mk (blk_below (g := gb678) (o := .cells #[.slice A0_0 l0_0.length c0_0, .slice A0_1 l0_1.length c0_1] 25 (0, 0)) (kz BK678) hb); replace HB := Aside0.mk (below_step (bz1 HB GE678) hb); clear hb; have hcz43_0 : w42.cell? ⟨gb678, 0, none⟩ = some (.slice A0_0 l0_0.length c0_0) := (blk_cell BK678.out 0).trans rfl; have hcz43_1 : w42.cell? ⟨gb678, 1, none⟩ = some (.slice A0_1 l0_1.length c0_1) := (blk_cell BK678.out 1).trans rfl; have hfz43_0 := blk_frozen BK678.out 0; have hfz43_1 := blk_frozen BK678.out 1) | ((with_reducible refine gate_callee (f := 17) rfl ?_); refine goesL_ (some 32) rfl rfl Try.func17 (by kernel_rfl) rfl #[.agg #[.slice A0_0 l0_0.length c0_0, .slice A0_1 l0_1.length c0_1]] rfl az ?_; (with_reducible refine (laws_toSystem.calls k _ _ l0_0 _ _ l0_1 t693 t696 _ ?side1 HC0_0.out ?side3 HC0_1.out A17.out).mono ?_); (case side1 => exact cz HR0_0 HB); (case side3 => exact cz HR0_1 HB); rintro e w44 ⟨v694, v697, rfl, ho0, ho1, hb⟩; refine ⟨_, rfl, ?_⟩; have n0_ := Aside0.mk (Kd.R_elder' (ozR HO682) (Kd.R_base ho0) hb); have n1_ := Aside0.mk (Kd.R_elder' (ozR HO685) (Kd.R_base ho1) hb); have n2_ := Aside0.mk (Kd.R_below (ozR HO688) hb); have n3_ := Aside0.mk (Kd.R_below (ozR HO691) hb); have n4_ := Aside0.mk (Kd.R_lower (Kd.R_new' ho0 (Kd.R_lt (ozR HO682))) (below_size (bz1 HB GE678))); have n5_ := Aside0.mk (Kd.R_lower (Kd.R_new' (Kd.R_new' (Kd.R_new' ho1 (Kd.R_lt (ozR HO685))) (Kd.R_lt (ozR HO688))) (Kd.R_lt (ozR HO691))) (below_size (bz1 HB GE678))); have n6_ := Aside0.mk (blk_below (g := gb678) (o := .cells #[.slice A0_0 l0_0.length c0_0, .slice A0_1 l0_1.length c0_1] 25 (0, 0)) (kz BK678) hb); have n7_ := Aside0.mk (below_step (bz1 HB GE678) hb); clear HO682; clear HO685; clear HO688; clear HO691; clear BK678; clear HB; have HO682 := n0_; have HO685 := n1_; have HO688 := n2_; have HO691 := n3_; have HO695 := n4_; have HO698 := n5_; have BK678 := n6_; have HB := n7_; clear n0_ n1_ n2_ n3_ n4_ n5_ n6_ n7_; clear hb; (try clear ho0); (try clear ho1)) | ((with_reducible refine gate_dst (N := 9) rfl ?_); refine box_event ?hg (N := 9) ?hd (cs := #[.slice none 0 0, .slice none 0 0]) (t := 31) ?hr ?_; (case hd => rfl); (case hg => rfl); (case hr => first | (go_simp; done) | (go_simp; rfl)); intro gb699 hg w45 hbox hb; have n0_ := Aside0.mk (Kd.R_below (ozR HO682) hb); have n1_ := Aside0.mk (Kd.R_below (ozR HO685) hb); have n2_ := Aside0.mk (Kd.R_below (ozR HO688) hb); have n3_ := Aside0.mk (Kd.R_below (ozR HO691) hb); have n4_ := Aside0.mk (Kd.R_below (ozR HO695) hb); have n5_ := Aside0.mk (Kd.R_below (ozR HO698) hb); have n6_ := Aside0.mk (blk_below (g := gb678) (o := .cells #[.slice A0_0 l0_0.length c0_0, .slice A0_1 l0_1.length c0_1] 25 (0, 0)) (kz BK678) hb); have n7_ := Aside0.mk (below_step (bz1 HB GE678) hb); have n8_ := Aside0.mk (hbox); have n9_ := Aside0.mk ((by rw [hg]; exact (below_size (bz1 HB GE678)) : w.heap.size ≤ gb699)); have n10_ := Aside0.mk ((by rw [hg]; exact (below_size (bz1 HB GE678)) : w.heap.size ≤ gb699)); have n11_ := Aside0.mk ((by rw [hg]; exact Nat.ne_of_lt (blk_lt (g := gb678) (o := .cells #[.slice A0_0 l0_0.length c0_0, .slice A0_1 l0_1.length c0_1] 25 (0, 0)) (kz BK678)) : gb678 ≠ gb699)); have n12_ := Aside0.mk ((by rw [hg]; exact Nat.ne_of_gt (blk_lt (g := gb678) (o := .cells #[.slice A0_0 l0_0.length c0_0, .slice A0_1 l0_1.length c0_1] 25 (0, 0)) (kz BK678)) : gb699 ≠ gb678)); clear HO682; clear HO685; clear HO688; clear HO691; clear HO695; clear HO698; clear BK678; clear HB; have HO682 := n0_; have HO685 := n1_; have HO688 := n2_; have HO691 := n3_; have HO695 := n4_; have HO698 := n5_; have BK678 := n6_; have HB := n7_; have BK699 := n8_; have GW699 := n9_; have GE699 := n10_; have NB678_699 := n11_; have NB699_678 := n12_; clear n0_ n1_ n2_ n3_ n4_ n5_ n6_ n7_ n8_ n9_ n10_ n11_ n12_; clear hb hbox hg; obtain ⟨Ao46, co46, eo46⟩ := Kd.R_slice HO695.out; subst eo46; have hnb47 := NB699_678.out; have hnc47 := NB678_699.out; have hcz48_0 : w45.cell? ⟨gb699, 0, none⟩ = some (.slice none 0 0) := (blk_cell BK699.out 0).trans rfl; have hcz48_1 : w45.cell? ⟨gb699, 1, none⟩ = some (.slice none 0 0) := (blk_cell BK699.out 1).trans rfl; have hfz48_0 := blk_frozen BK699.out 0; have hfz48_1 := blk_frozen BK699.out 1; obtain ⟨Ao49, co49, eo49⟩ := Kd.R_slice HO698.out; subst eo49) | ((with_reducible refine gate_callee (f := 27) rfl ?_); refine goesL_ (some 34) rfl rfl Try.func27 (by kernel_rfl) rfl #[.slice A1 l1.length c1] rfl az ?_; (with_reducible refine (laws_toIntS.calls k _ _ l1 t700 _ ?side1 HC1.out A18.out).mono ?_); (case side1 => exact Kd.C_below HR1.out (bz2 HB GE678 GE699)); rintro e w50 ⟨v701, rfl, ho0, hb⟩; refine ⟨_, rfl, ?_⟩; have n0_ := Aside0.mk (Kd.R_below (by (with_reducible repeat (first | apply Kd.R_alloc | apply Kd.R_drewN | apply Kd.R_drew)); exact (Kd.R_mono (Kd.R_far (p := ⟨gb699, 1, none⟩) (Kd.R_far (p := ⟨gb699, 0, none⟩) (Kd.R_types HO682.out BK699.out (by decide)) (fun _ hk => hk.2) (.slice Ao46 t693.length co46)) (fun _ hk => hk.2) (.slice Ao49 t696.length co49)) (fun _ h_ => h_.1))) hb); have n1_ := Aside0.mk (Kd.R_elder' (by (with_reducible repeat (first | apply Kd.R_alloc | apply Kd.R_drewN | apply Kd.R_drew)); exact (Kd.R_mono (Kd.R_far (p := ⟨gb699, 1, none⟩) (Kd.R_far (p := ⟨gb699, 0, none⟩) (Kd.R_types HO685.out BK699.out (by decide)) (fun _ hk => hk.2) (.slice Ao46 t693.length co46)) (fun _ hk => hk.2) (.slice Ao49 t696.length co49)) (fun _ h_ => h_.1))) (Kd.R_base ho0) hb); have n2_ := Aside0.mk (Kd.R_elder' (by (with_reducible repeat (first | apply Kd.R_alloc | apply Kd.R_drewN | apply Kd.R_drew)); exact (Kd.R_mono (Kd.R_far (p := ⟨gb699, 1, none⟩) (Kd.R_far (p := ⟨gb699, 0, none⟩) (Kd.R_types HO688.out BK699.out (by decide)) (fun _ hk => hk.2) (.slice Ao46 t693.length co46)) (fun _ hk => hk.2) (.slice Ao49 t696.length co49)) (fun _ h_ => h_.1))) (Kd.R_base ho0) hb); have n3_ := Aside0.mk (Kd.R_elder' (by (with_reducible repeat (first | apply Kd.R_alloc | apply Kd.R_drewN | apply Kd.R_drew)); exact (Kd.R_mono (Kd.R_far (p := ⟨gb699, 1, none⟩) (Kd.R_far (p := ⟨gb699, 0, none⟩) (Kd.R_types HO691.out BK699.out (by decide)) (fun _ hk => hk.2) (.slice Ao46 t693.length co46)) (fun _ hk => hk.2) (.slice Ao49 t696.length co49)) (fun _ h_ => h_.1))) (Kd.R_base ho0) hb); have n4_ := Aside0.mk (Kd.R_below (by (with_reducible repeat (first | apply Kd.R_alloc | apply Kd.R_drewN | apply Kd.R_drew)); exact (Kd.R_mono (Kd.R_far (p := ⟨gb699, 1, none⟩) (Kd.R_far (p := ⟨gb699, 0, none⟩) (Kd.R_types HO695.out BK699.out (by decide)) (fun _ hk => hk.2) (.slice Ao46 t693.length co46)) (fun _ hk => hk.2) (.slice Ao49 t696.length co49)) (fun _ h_ => h_.1))) hb); have n5_ := Aside0.mk (Kd.R_elder' (by (with_reducible repeat (first | apply Kd.R_alloc | apply Kd.R_drewN | apply Kd.R_drew)); exact (Kd.R_mono (Kd.R_far (p := ⟨gb699, 1, none⟩) (Kd.R_far (p := ⟨gb699, 0, none⟩) (Kd.R_types HO698.out BK699.out (by decide)) (fun _ hk => hk.2) (.slice Ao46 t693.length co46)) (fun _ hk => hk.2) (.slice Ao49 t696.length co49)) (fun _ h_ => h_.1))) (Kd.R_base ho0) hb); have n6_ := Aside0.mk (Kd.R_lower (Kd.R_new' (Kd.R_new' ho0 (Kd.R_lt (by (with_reducible repeat (first | apply Kd.R_alloc | apply Kd.R_drewN | apply Kd.R_drew)); exact (Kd.R_mono (Kd.R_far (p := ⟨gb699, 1, none⟩) (Kd.R_far (p := ⟨gb699, 0, none⟩) (Kd.R_types HO688.out BK699.out (by decide)) (fun _ hk => hk.2) (.slice Ao46 t693.length co46)) (fun _ hk => hk.2) (.slice Ao49 t696.length co49)) (fun _ h_ => h_.1))))) (Kd.R_lt (by (with_reducible repeat (first | apply Kd.R_alloc | apply Kd.R_drewN | apply Kd.R_drew)); exact (Kd.R_mono (Kd.R_far (p := ⟨gb699, 1, none⟩) (Kd.R_far (p := ⟨gb699, 0, none⟩) (Kd.R_types HO691.out BK699.out (by decide)) (fun _ hk => hk.2) (.slice Ao46 t693.length co46)) (fun _ hk => hk.2) (.slice Ao49 t696.length co49)) (fun _ h_ => h_.1))))) (below_size (bz2 HB GE678 GE699))); have n7_ := Aside0.mk (blk_below (g := gb678) (o := .cells #[.slice A0_0 l0_0.length c0_0, .slice A0_1 l0_1.length c0_1] 25 (0, 0)) (by (with_reducible repeat (first | refine blk_drewN ?_ _ | refine blk_drew ?_ | refine blk_alloc ?_ _)); refine blk_far ?_ NB678_699.out _; (with_reducible repeat (first | refine blk_drewN ?_ _ | refine blk_drew ?_ | refine blk_alloc ?_ _)); refine blk_far ?_ NB678_699.out _; exact kz BK678) hb); have n8_ := Aside0.mk (blk_below (g := gb699) (o := .cells #[.slice Ao46 t693.length co46, .slice Ao49 t696.length co49] 31 (0, 0)) (by (with_reducible repeat (first | refine blk_drewN ?_ _ | refine blk_drew ?_ | refine blk_alloc ?_ _)); refine blk_put (cs := #[.slice Ao46 t693.length co46, .slice none 0 0]) ?_ 1 _ rfl; (with_reducible repeat (first | refine blk_drewN ?_ _ | refine blk_drew ?_ | refine blk_alloc ?_ _)); refine blk_put (cs := #[.slice none 0 0, .slice none 0 0]) ?_ 0 _ rfl; exact kz BK699) hb); have n9_ := Aside0.mk (below_step (bz2 HB GE678 GE699) hb); clear HO682; clear HO685; clear HO688; clear HO691; clear HO695; clear HO698; clear BK678; clear BK699; clear HB; have HO682 := n0_; have HO685 := n1_; have HO688 := n2_; have HO691 := n3_; have HO695 := n4_; have HO698 := n5_; have HO702 := n6_; have BK678 := n7_; have BK699 := n8_; have HB := n9_; clear n0_ n1_ n2_ n3_ n4_ n5_ n6_ n7_ n8_ n9_; clear hb; (try clear hk); (try clear ho0)) | ((with_reducible refine gate_callee (f := 27) rfl ?_); refine goesL_ (some 36) rfl rfl Try.func27 (by kernel_rfl) rfl #[.slice A2 l2.length c2] rfl az ?_; (with_reducible refine (laws_toIntS.calls k _ _ l2 t703 _ ?side1 HC2.out A19.out).mono ?_); (case side1 => exact cz HR2 HB); rintro e w51 ⟨v704, rfl, ho0, hb⟩; refine ⟨_, rfl, ?_⟩; have n0_ := Aside0.mk (Kd.R_below (ozR HO682) hb); have n1_ := Aside0.mk (Kd.R_elder' (ozR HO685) (Kd.R_base ho0) hb); have n2_ := Aside0.mk (Kd.R_elder' (ozR HO688) (Kd.R_base ho0) hb); have n3_ := Aside0.mk (Kd.R_elder' (ozR HO691) (Kd.R_base ho0) hb); have n4_ := Aside0.mk (Kd.R_below (ozR HO695) hb); have n5_ := Aside0.mk (Kd.R_elder' (ozR HO698) (Kd.R_base ho0) hb); have n6_ := Aside0.mk (Kd.R_elder' (ozR HO702) (Kd.R_base ho0) hb); have n7_ := Aside0.mk (Kd.R_lower (Kd.R_new' (Kd.R_new' (Kd.R_new' ho0 (Kd.R_lt (ozR HO688))) (Kd.R_lt (ozR HO691))) (Kd.R_lt (ozR HO702))) (below_size (bz2 HB GE678 GE699))); have n8_ := Aside0.mk (blk_below (g := gb678) (o := .cells #[.slice A0_0 l0_0.length c0_0, .slice A0_1 l0_1.length c0_1] 25 (0, 0)) (kz BK678) hb); have n9_ := Aside0.mk (blk_below (g := gb699) (o := .cells #[.slice Ao46 t693.length co46, .slice Ao49 t696.length co49] 31 (0, 0)) (kz BK699) hb); have n10_ := Aside0.mk (below_step (bz2 HB GE678 GE699) hb); clear HO682; clear HO685; clear HO688; clear HO691; clear HO695; clear HO698; clear HO702; clear BK678; clear BK699; clear HB; have HO682 := n0_; have HO685 := n1_; have HO688 := n2_; have HO691 := n3_; have HO695 := n4_; have HO698 := n5_; have HO702 := n6_; have HO705 := n7_; have BK678 := n8_; have BK699 := n9_; have HB := n10_; clear n0_ n1_ n2_ n3_ n4_ n5_ n6_ n7_ n8_ n9_ n10_; clear hb; (try clear ho0); have hcz52_0 : w51.cell? ⟨gb699, 0, none⟩ = some (.slice Ao46 t693.length co46) := (blk_cell BK699.out 0).trans rfl; have hcz52_1 : w51.cell? ⟨gb699, 1, none⟩ = some (.slice Ao49 t696.length co49) := (blk_cell BK699.out 1).trans rfl; have hfz52_0 := blk_frozen BK699.out 0; have hfz52_1 := blk_frozen BK699.out 1; obtain ⟨Ao53, co53, eo53⟩ := Kd.R_slice HO702.out; subst eo53; obtain ⟨Ao54, co54, eo54⟩ := Kd.R_slice HO705.out; subst eo54) | ((with_reducible refine gate_callee (f := 34) rfl ?_); refine goesL_ (some 40) rfl rfl Try.func34 (by kernel_rfl) rfl #[.agg #[.slice Ao46 t693.length co46, .slice Ao49 t696.length co49], .slice Ao53 t700.length co53, .slice Ao54 t703.length co54] rfl az ?_; (with_reducible refine (impl_ApartBits.calls k _ _ t693 _ _ t696 _ _ t700 _ _ t703 t706 _ ?side1 ?side2 ?side3 ?side4 ?side5 ?side6 ?side7 ?side8 A20.out).mono ?_); (case side1 => exact cz1 (Kd.R_reads' HO695.out).2.2); (case side2 => exact (Kd.R_reads' HO695.out).2.1); (case side3 => exact cz1 (Kd.R_reads' HO698.out).2.2); (case side4 => exact (Kd.R_reads' HO698.out).2.1); (case side5 => exact cz1 (Kd.R_reads' HO702.out).2.2); (case side6 => exact (Kd.R_reads' HO702.out).2.1); (case side7 => exact cz1 (Kd.R_reads' HO705.out).2.2); (case side8 => exact (Kd.R_reads' HO705.out).2.1); rintro e w55 ⟨rfl, hb⟩; refine ⟨_, rfl, ?_⟩; replace HO682 := Aside0.mk (Kd.R_below (ozR HO682) hb); replace HO685 := Aside0.mk (Kd.R_below (ozR HO685) hb); replace HO688 := Aside0.mk (Kd.R_below (ozR HO688) hb); replace HO691 := Aside0.mk (Kd.R_below (ozR HO691) hb); replace HO695 := Aside0.mk (Kd.R_below (ozR HO695) hb); replace HO698 := Aside0.mk (Kd.R_below (ozR HO698) hb); replace HO702 := Aside0.mk (Kd.R_below (ozR HO702) hb); replace HO705 := Aside0.mk (Kd.R_below (ozR HO705) hb); replace BK678 := Aside0.mk (blk_below (g := gb678) (o := .cells #[.slice A0_0 l0_0.length c0_0, .slice A0_1 l0_1.length c0_1] 25 (0, 0)) (kz BK678) hb); replace BK699 := Aside0.mk (blk_below (g := gb699) (o := .cells #[.slice Ao46 t693.length co46, .slice Ao49 t696.length co49] 31 (0, 0)) (kz BK699) hb); replace HB := Aside0.mk (below_step (bz2 HB GE678 GE699) hb); clear hb))
 have n0_ := Aside0.mk (Kd.R_drew HO682.out)
 have n1_ := Aside0.mk (Kd.R_drew HO685.out)
 have n2_ := Aside0.mk (Kd.R_drew HO688.out)
 have n3_ := Aside0.mk (Kd.R_drew HO691.out)
 have n4_ := Aside0.mk (Kd.R_drew HO695.out)
 have n5_ := Aside0.mk (Kd.R_drew HO698.out)
 have n6_ := Aside0.mk (Kd.R_drew HO702.out)
 have n7_ := Aside0.mk (Kd.R_drew HO705.out)
 have n8_ := Aside0.mk (blk_drew BK678.out)
 have n9_ := Aside0.mk (blk_drew BK699.out)
 have n10_ := Aside0.mk (below_drew1 HB.out)
 clear HO682
 clear HO685
 clear HO688
 clear HO691
 clear HO695
 clear HO698
 clear HO702
 clear HO705
 clear BK678
 clear BK699
 clear HB
 have HO682 := n0_
 have HO685 := n1_
 have HO688 := n2_
 have HO691 := n3_
 have HO695 := n4_
 have HO698 := n5_
 have HO702 := n6_
 have HO705 := n7_
 have BK678 := n8_
 have BK699 := n9_
 have HB := n10_
 clear n0_ n1_ n2_ n3_ n4_ n5_ n6_ n7_ n8_ n9_ n10_
 refine start_ (n := 5) (S := fun w' => w'.cell? ⟨gb699, 0, none⟩ = some (.slice Ao46 t693.length co46) ∧ w'.cell? ⟨gb699, 1, none⟩ = some (.slice Ao49 t696.length co49) ∧ w'.cell? ⟨gb678, 0, none⟩ = some (.slice A0_0 l0_0.length c0_0) ∧ w'.cell? ⟨gb678, 1, none⟩ = some (.slice A0_1 l0_1.length c0_1)) (ds := []) #[false, false, false, false, false] (by kernel_rfl) rfl rfl ⟨(blk_cell BK699.out 0).trans rfl, (blk_cell BK699.out 1).trans rfl, (blk_cell BK678.out 0).trans rfl, (blk_cell BK678.out 1).trans rfl⟩ (fun hHeld => ?_)
 generalize w55.drew = w56 at HO682 HO685 HO688 HO691 HO695 HO698 HO702 HO705 BK678 BK699 HB hHeld ⊢
 refine take_ (i := 0) (N := some 44) (v := ?_) (a' := ?_) #[true, false, false, false, false] rfl rfl (by kernel_rfl) (fun _ _ _ h => h) (Or.inl ⟨by rfl, ?_⟩) hHeld ?_ ?_
 rotate_left
 ·
  rintro w' ⟨s0, s1, s2, s3⟩
  go_simp
  with_reducible rfl
 rotate_left
 ·
  simp only [Act.put, sb_, sc0_, sc1_, i64_w, i32_w]
  rfl
 refine take_ (i := 1) (N := some 45) (v := ?_) (a' := ?_) #[true, true, false, false, false] rfl rfl (by kernel_rfl) (fun _ _ _ h => h) (Or.inl ⟨by rfl, ?_⟩) hHeld ?_ ?_
 rotate_left
 ·
  rintro w' ⟨s0, s1, s2, s3⟩
  go_simp
  with_reducible rfl
 rotate_left
 ·
  simp only [Act.put, sb_, sc0_, sc1_, i64_w, i32_w]
  rfl
 refine one_ (i := 2) (N := some 46) #[true, true, true, false, false] rfl rfl (by kernel_rfl) (by decide) (fun K hK => ?_)
 refine goes_ Try.func17 (by kernel_rfl) rfl #[.agg #[.slice A0_0 l0_0.length c0_0, .slice A0_1 l0_1.length c0_1]] (by rfl) rfl rfl az ?_
 with_reducible refine (laws_toSystem.calls k _ _ l0_0 _ _ l0_1 t707 t710 _ ?side1 ?side2 ?side3 ?side4 A22.out).mono ?_
 (case side1 => exact cz HR0_0 HB)
 (case side2 => exact HC0_0.out)
 (case side3 => exact cz HR0_1 HB)
 (case side4 => exact HC0_1.out)
 rintro e w57 ⟨v708, v711, rfl, ho0, ho1, hb⟩
 refine ⟨_, rfl, ?_⟩
 have n0_ := Aside0.mk (Kd.R_elder' (ozR HO682) (Kd.R_base ho0) hb)
 have n1_ := Aside0.mk (Kd.R_elder' (ozR HO685) (Kd.R_base ho1) hb)
 have n2_ := Aside0.mk (Kd.R_below (ozR HO688) hb)
 have n3_ := Aside0.mk (Kd.R_below (ozR HO691) hb)
 have n4_ := Aside0.mk (Kd.R_elder' (ozR HO695) (Kd.R_base ho0) hb)
 have n5_ := Aside0.mk (Kd.R_elder' (ozR HO698) (Kd.R_base ho1) hb)
 have n6_ := Aside0.mk (Kd.R_below (ozR HO702) hb)
 have n7_ := Aside0.mk (Kd.R_below (ozR HO705) hb)
 have n8_ := Aside0.mk (Kd.R_lower (Kd.R_new' (Kd.R_new' ho0 (Kd.R_lt (ozR HO682))) (Kd.R_lt (ozR HO695))) (below_size (bz2 HB GE678 GE699)))
 have n9_ := Aside0.mk (Kd.R_lower (Kd.R_new' (Kd.R_new' (Kd.R_new' (Kd.R_new' (Kd.R_new' (Kd.R_new' ho1 (Kd.R_lt (ozR HO685))) (Kd.R_lt (ozR HO688))) (Kd.R_lt (ozR HO691))) (Kd.R_lt (ozR HO698))) (Kd.R_lt (ozR HO702))) (Kd.R_lt (ozR HO705))) (below_size (bz2 HB GE678 GE699)))
 have n10_ := Aside0.mk (blk_below (g := gb678) (o := .cells #[.slice A0_0 l0_0.length c0_0, .slice A0_1 l0_1.length c0_1] 25 (0, 0)) (kz BK678) hb)
 have n11_ := Aside0.mk (blk_below (g := gb699) (o := .cells #[.slice Ao46 t693.length co46, .slice Ao49 t696.length co49] 31 (0, 0)) (kz BK699) hb)
 have n12_ := Aside0.mk (below_step (bz2 HB GE678 GE699) hb)
 clear HO682
 clear HO685
 clear HO688
 clear HO691
 clear HO695
 clear HO698
 clear HO702
 clear HO705
 clear BK678
 clear BK699
 clear HB
 have HO682 := n0_
 have HO685 := n1_
 have HO688 := n2_
 have HO691 := n3_
 have HO695 := n4_
 have HO698 := n5_
 have HO702 := n6_
 have HO705 := n7_
 have HO709 := n8_
 have HO712 := n9_
 have BK678 := n10_
 have BK699 := n11_
 have HB := n12_
 clear n0_ n1_ n2_ n3_ n4_ n5_ n6_ n7_ n8_ n9_ n10_ n11_ n12_
 (try clear hb)
 (try clear hb2)
 (try clear hk)
 (try clear hi)
 (try clear ho0)
 (try clear ho1)
 obtain ⟨Ao58, co58, eo58⟩ := Kd.R_slice HO709.out
 (first | subst eo58 | (injection eo58 with f1_ f2_ f3_; have f4_ := f1_.symm; have f5_ := f3_.symm; clear f1_ f2_ f3_; subst f4_; subst f5_))
 obtain ⟨Ao59, co59, eo59⟩ := Kd.R_slice HO712.out
 (first | subst eo59 | (injection eo59 with f1_ f2_ f3_; have f4_ := f1_.symm; have f5_ := f3_.symm; clear f1_ f2_ f3_; subst f4_; subst f5_))
 refine hK.out _ _ ⟨(blk_cell BK699.out 0).trans rfl, (blk_cell BK699.out 1).trans rfl, (blk_cell BK678.out 0).trans rfl, (blk_cell BK678.out 1).trans rfl⟩ (fun hHeld => ?_)
 clear hK K
 refine norm_ (a' := ?_) ?_ ?_
 rotate_left
 ·
  show Act.put _ (some 46) _ = _
  simp only [Act.put, sb_, sc0_, sc1_, i64_w, i32_w]
  rfl
 refine one_ (i := 3) (N := some 47) #[true, true, true, true, false] rfl rfl (by kernel_rfl) (by decide) (fun K hK => ?_)
 refine goes_ Try.func19 (by kernel_rfl) rfl #[.agg #[.slice Ao46 t693.length co46, .slice Ao49 t696.length co49], .agg #[.slice Ao58 t707.length co58, .slice Ao59 t710.length co59]] (by rfl) rfl rfl az ?_
 with_reducible refine (laws_eqSystem.calls k _ _ t693 _ _ t696 _ _ t707 _ _ t710 true _ ?side1 ?side2 ?side3 ?side4 ?side5 ?side6 ?side7 ?side8 A23.out).mono ?_
 (case side1 => exact cz1 (Kd.R_reads' HO695.out).2.2)
 (case side2 => exact (Kd.R_reads' HO695.out).2.1)
 (case side3 => exact cz1 (Kd.R_reads' HO698.out).2.2)
 (case side4 => exact (Kd.R_reads' HO698.out).2.1)
 (case side5 => exact cz1 (Kd.R_reads' HO709.out).2.2)
 (case side6 => exact (Kd.R_reads' HO709.out).2.1)
 (case side7 => exact cz1 (Kd.R_reads' HO712.out).2.2)
 (case side8 => exact (Kd.R_reads' HO712.out).2.1)
 rintro e w60 ⟨rfl, hb⟩
 refine ⟨_, rfl, ?_⟩
 have n0_ := Aside0.mk (Kd.R_below (ozR HO682) hb)
 have n1_ := Aside0.mk (Kd.R_below (ozR HO685) hb)
 have n2_ := Aside0.mk (Kd.R_below (ozR HO688) hb)
 have n3_ := Aside0.mk (Kd.R_below (ozR HO691) hb)
 have n4_ := Aside0.mk (Kd.R_below (ozR HO695) hb)
 have n5_ := Aside0.mk (Kd.R_below (ozR HO698) hb)
 have n6_ := Aside0.mk (Kd.R_below (ozR HO702) hb)
 have n7_ := Aside0.mk (Kd.R_below (ozR HO705) hb)
 have n8_ := Aside0.mk (Kd.R_below (ozR HO709) hb)
 have n9_ := Aside0.mk (Kd.R_below (ozR HO712) hb)
 have n10_ := Aside0.mk (blk_below (g := gb678) (o := .cells #[.slice A0_0 l0_0.length c0_0, .slice A0_1 l0_1.length c0_1] 25 (0, 0)) (kz BK678) hb)
 have n11_ := Aside0.mk (blk_below (g := gb699) (o := .cells #[.slice Ao46 t693.length co46, .slice Ao49 t696.length co49] 31 (0, 0)) (kz BK699) hb)
 have n12_ := Aside0.mk (below_step (bz2 HB GE678 GE699) hb)
 clear HO682
 clear HO685
 clear HO688
 clear HO691
 clear HO695
 clear HO698
 clear HO702
 clear HO705
 clear HO709
 clear HO712
 clear BK678
 clear BK699
 clear HB
 have HO682 := n0_
 have HO685 := n1_
 have HO688 := n2_
 have HO691 := n3_
 have HO695 := n4_
 have HO698 := n5_
 have HO702 := n6_
 have HO705 := n7_
 have HO709 := n8_
 have HO712 := n9_
 have BK678 := n10_
 have BK699 := n11_
 have HB := n12_
 clear n0_ n1_ n2_ n3_ n4_ n5_ n6_ n7_ n8_ n9_ n10_ n11_ n12_
 (try clear hb)
 (try clear hb2)
 (try clear hk)
 (try clear hi)
 refine hK.out _ _ ⟨(blk_cell BK699.out 0).trans rfl, (blk_cell BK699.out 1).trans rfl, (blk_cell BK678.out 0).trans rfl, (blk_cell BK678.out 1).trans rfl⟩ (fun hHeld => ?_)
 clear hK K
 refine norm_ (a' := ?_) ?_ ?_
 rotate_left
 ·
  show Act.put _ (some 47) _ = _
  simp only [Act.put, sb_, sc0_, sc1_, i64_w, i32_w]
  rfl
 refine pure_ (i := 4) (N := some 48) (v := ?_) (a' := ?_) #[true, true, true, true, true] rfl rfl (by kernel_rfl) (fun _ _ _ h => h) (Or.inl ⟨by rfl, ?_⟩) ?_ ?_
 rotate_left
 ·
  intro w'
  go_simp
  with_reducible rfl
 rotate_left
 ·
  simp only [Act.put, sb_, sc0_, sc1_, i64_w, i32_w]
  rfl
 refine done_ (by kernel_rfl) ?_
 try go_wp2_with (first | ((with_reducible refine gate_callee (f := 27) rfl ?_); refine goesL_ (some 51) rfl rfl Try.func27 (by kernel_rfl) rfl #[.slice A1 l1.length c1] rfl az ?_; (with_reducible refine (laws_toIntS.calls k _ _ l1 t714 _ ?side1 HC1.out A25.out).mono ?_); (case side1 => exact cz HR1 HB); rintro e w61 ⟨v715, rfl, ho0, hb⟩; refine ⟨_, rfl, ?_⟩; have n0_ := Aside0.mk (Kd.R_below (ozR HO682) hb); have n1_ := Aside0.mk (Kd.R_elder' (ozR HO685) (Kd.R_base ho0) hb); have n2_ := Aside0.mk (Kd.R_elder' (ozR HO688) (Kd.R_base ho0) hb); have n3_ := Aside0.mk (Kd.R_elder' (ozR HO691) (Kd.R_base ho0) hb); have n4_ := Aside0.mk (Kd.R_below (ozR HO695) hb); have n5_ := Aside0.mk (Kd.R_elder' (ozR HO698) (Kd.R_base ho0) hb); have n6_ := Aside0.mk (Kd.R_elder' (ozR HO702) (Kd.R_base ho0) hb); have n7_ := Aside0.mk (Kd.R_elder' (ozR HO705) (Kd.R_base ho0) hb); have n8_ := Aside0.mk (Kd.R_below (ozR HO709) hb); have n9_ := Aside0.mk (Kd.R_elder' (ozR HO712) (Kd.R_base ho0) hb); have n10_ := Aside0.mk (Kd.R_lower (Kd.R_new' (Kd.R_new' (Kd.R_new' (Kd.R_new' ho0 (Kd.R_lt (ozR HO688))) (Kd.R_lt (ozR HO691))) (Kd.R_lt (ozR HO702))) (Kd.R_lt (ozR HO705))) (below_size (bz2 HB GE678 GE699))); have n11_ := Aside0.mk (blk_below (g := gb678) (o := .cells #[.slice A0_0 l0_0.length c0_0, .slice A0_1 l0_1.length c0_1] 25 (0, 0)) (kz BK678) hb); have n12_ := Aside0.mk (blk_below (g := gb699) (o := .cells #[.slice Ao46 t693.length co46, .slice Ao49 t696.length co49] 31 (0, 0)) (kz BK699) hb); have n13_ := Aside0.mk (below_step (bz2 HB GE678 GE699) hb); clear HO682; clear HO685; clear HO688; clear HO691; clear HO695; clear HO698; clear HO702; clear HO705; clear HO709; clear HO712; clear BK678; clear BK699; clear HB; have HO682 := n0_; have HO685 := n1_; have HO688 := n2_; have HO691 := n3_; have HO695 := n4_; have HO698 := n5_; have HO702 := n6_; have HO705 := n7_; have HO709 := n8_; have HO712 := n9_; have HO716 := n10_; have BK678 := n11_; have BK699 := n12_; have HB := n13_; clear n0_ n1_ n2_ n3_ n4_ n5_ n6_ n7_ n8_ n9_ n10_ n11_ n12_ n13_; clear hb; (try clear ho0); obtain ⟨Ao62, co62, eo62⟩ := Kd.R_slice HO716.out; subst eo62) | ((with_reducible refine gate_callee (f := 22) rfl ?_); refine goesL_ (some 52) rfl rfl Try.func22 (by kernel_rfl) rfl #[.slice Ao53 t700.length co53, .slice Ao62 t714.length co62] rfl az ?_; (with_reducible refine (laws_eqIntS.calls k _ _ t700 _ _ t714 true _ ?side1 ?side2 ?side3 ?side4 A26.out).mono ?_); (case side1 => exact cz1 (Kd.R_reads' HO702.out).2.2); (case side2 => exact (Kd.R_reads' HO702.out).2.1); (case side3 => exact cz1 (Kd.R_reads' HO716.out).2.2); (case side4 => exact (Kd.R_reads' HO716.out).2.1); rintro e w' ⟨rfl, ⟨nd, rfl⟩⟩; refine ⟨_, rfl, ?_⟩) | ((with_reducible refine gate_callee (f := 27) rfl ?_); refine goesL_ (some 56) rfl rfl Try.func27 (by kernel_rfl) rfl #[.slice A2 l2.length c2] rfl az ?_; (with_reducible refine (laws_toIntS.calls k _ _ l2 t718 _ ?side1 HC2.out A28.out).mono ?_); (case side1 => repeat (first | exact (Kd.C_below HR2.out (bz2 HB GE678 GE699)) | (with_reducible refine Kd.C_alloc ?_ _) | (with_reducible refine Kd.C_drewN ?_ _) | (with_reducible refine Kd.C_drew ?_))); rintro e w63 ⟨v719, rfl, ho0, hb⟩; refine ⟨_, rfl, ?_⟩; have n0_ := Aside0.mk (Kd.R_below (ozR HO682) hb); have n1_ := Aside0.mk (Kd.R_elder' (ozR HO685) (Kd.R_base ho0) hb); have n2_ := Aside0.mk (Kd.R_elder' (ozR HO688) (Kd.R_base ho0) hb); have n3_ := Aside0.mk (Kd.R_elder' (ozR HO691) (Kd.R_base ho0) hb); have n4_ := Aside0.mk (Kd.R_below (ozR HO695) hb); have n5_ := Aside0.mk (Kd.R_elder' (ozR HO698) (Kd.R_base ho0) hb); have n6_ := Aside0.mk (Kd.R_elder' (ozR HO702) (Kd.R_base ho0) hb); have n7_ := Aside0.mk (Kd.R_elder' (ozR HO705) (Kd.R_base ho0) hb); have n8_ := Aside0.mk (Kd.R_below (ozR HO709) hb); have n9_ := Aside0.mk (Kd.R_elder' (ozR HO712) (Kd.R_base ho0) hb); have n10_ := Aside0.mk (Kd.R_elder' (ozR HO716) (Kd.R_base ho0) hb); have n11_ := Aside0.mk (Kd.R_lower (Kd.R_new' (Kd.R_new' (Kd.R_new' (Kd.R_new' (Kd.R_new' ho0 (Kd.R_lt (ozR HO688))) (Kd.R_lt (ozR HO691))) (Kd.R_lt (ozR HO702))) (Kd.R_lt (ozR HO705))) (Kd.R_lt (ozR HO716))) (below_size (bz2 HB GE678 GE699))); have n12_ := Aside0.mk (blk_below (g := gb678) (o := .cells #[.slice A0_0 l0_0.length c0_0, .slice A0_1 l0_1.length c0_1] 25 (0, 0)) (kz BK678) hb); have n13_ := Aside0.mk (blk_below (g := gb699) (o := .cells #[.slice Ao46 t693.length co46, .slice Ao49 t696.length co49] 31 (0, 0)) (kz BK699) hb); have n14_ := Aside0.mk (below_step (bz2 HB GE678 GE699) hb); clear HO682; clear HO685; clear HO688; clear HO691; clear HO695; clear HO698; clear HO702; clear HO705; clear HO709; clear HO712; clear HO716; clear BK678; clear BK699; clear HB; have HO682 := n0_; have HO685 := n1_; have HO688 := n2_; have HO691 := n3_; have HO695 := n4_; have HO698 := n5_; have HO702 := n6_; have HO705 := n7_; have HO709 := n8_; have HO712 := n9_; have HO716 := n10_; have HO720 := n11_; have BK678 := n12_; have BK699 := n13_; have HB := n14_; clear n0_ n1_ n2_ n3_ n4_ n5_ n6_ n7_ n8_ n9_ n10_ n11_ n12_ n13_ n14_; clear hb; (try clear ho0); obtain ⟨Ao64, co64, eo64⟩ := Kd.R_slice HO720.out; subst eo64) | ((with_reducible refine gate_callee (f := 22) rfl ?_); refine goesL_ (some 57) rfl rfl Try.func22 (by kernel_rfl) rfl #[.slice Ao54 t703.length co54, .slice Ao64 t718.length co64] rfl az ?_; (with_reducible refine (laws_eqIntS.calls k _ _ t703 _ _ t718 true _ ?side1 ?side2 ?side3 ?side4 A29.out).mono ?_); (case side1 => exact cz1 (Kd.R_reads' HO705.out).2.2); (case side2 => exact (Kd.R_reads' HO705.out).2.1); (case side3 => exact cz1 (Kd.R_reads' HO720.out).2.2); (case side4 => exact (Kd.R_reads' HO720.out).2.1); rintro e w' ⟨rfl, ⟨nd, rfl⟩⟩; refine ⟨_, rfl, ?_⟩))
 go_ret
 exact ⟨rz, bz2 HB GE678 GE699⟩
end Go.Proofs.Ytoofhjflfpccdaa.PA
