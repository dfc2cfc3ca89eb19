/- Walks of Go functions: each is shown to answer as the Lean function beside it tells, under the conditions that its theorem names. -/
import Derived.Test.YtoofhjflfpccdaaProg
import Derived.Below
import Derived.Deep.Draws
import Derived.Deep.AppendLies
import Derived.Maps.AppendAt
import Derived.OwnWalk
import Derived.Laws.BytesArg
import Derived.Laws.MakeOwn
import Derived.Laws.OwnMore
import Derived.Deep.OwnRows
import Derived.Tactics
import Derived.Lib.ConvBytes
import Derived.Laws.Slices
import Derived.WalkKit
import Derived.KernelRfl
import Derived.RowKit3
import Derived.Deep.LoopGhost
import Derived.Deep.QuietTactic
import Derived.BigQuiet
import Derived.WideLaws
import Derived.Deep.DeepCutAuto
import Derived.Deep.CutBlock
import Derived.Deep.RegionHeld3
import Derived.Laws.Rows
import Derived.Lib.AppendStr
import Derived.ArgAppend
import Derived.Laws.IdiomCopy
import Derived.OrdersHeld
import Derived.Laws.BitsLemmas
import Derived.RowKit
import Derived.Laws.StructEq
import Derived.Lib.SliceRun
import Derived.WalkSpells
import Derived.ChangeArms
import Derived.ChangeSlices
import Derived.Deep.Slices
import Derived.Test.YtoofhjflfpccdaaKP53ed3ab6b9
import Derived.Test.YtoofhjflfpccdaaKP9ce204edcb
import Derived.Test.YtoofhjflfpccdaaKP6bb0449c21
namespace Go.Proofs.Ytoofhjflfpccdaa.PA
open Go.RowKit Go.Proofs.YtoofhjflfpccdaaW.PrintWords Go.Proofs.YtoofhjflfpccdaaW.PrintLast Go.Proofs.YtoofhjflfpccdaaW.PrintMore
attribute [local go_sem] max2_int min2_int max_two min_two max_three min_three max_four min_four   -- for this text's walks alone
set_option linter.unusedVariables false
set_option linter.unusedSimpArgs false
set_option maxHeartbeats 8000000 in
set_option maxRecDepth 100000 in
theorem laws_FnExactRuleBetween.calls (k : Nat) (A0_0 : Option Addr) (c0_0 : Nat) (l0_0 : List (LVar)) (A0_1 : Option Addr) (c0_1 : Nat) (l0_1 : List (LRule)) (A1 : Option Addr) (c1 : Nat) (l1 : List Int) (A2 : Option Addr) (c2 : Nat) (l2 : List Int) (r : Bool) (w : World) (hr0_0 : Kd.C k84 w A0_0 l0_0.length l0_0) (hc0_0 : l0_0.length ≤ c0_0) (hr0_1 : Kd.C k75 w A0_1 l0_1.length l0_1) (hc0_1 : l0_1.length ≤ c0_1) (hr1 : Kd.C (Kd.int .i64) w A1 l1.length l1) (hc1 : l1.length ≤ c1) (hr2 : Kd.C (Kd.int .i64) w A2 l2.length l2) (hc2 : l2.length ≤ c2) (h : laws_FnExactRuleBetween.f k l0_0 l0_1 l1 l2 = some r) (hr_ : r = true) :
  Calls Try.prog 10 #[.agg #[.slice A0_0 l0_0.length c0_0, .slice A0_1 l0_1.length c0_1], .slice A1 l1.length c1, .slice A2 l2.length c2] w fun e w' => e = .returned (.bool r) ∧ Below w.heap.size w w' := by
 have HR_ := Aside0.mk hr_
 clear hr_
 have hu25 := Try.underlying25
 have hu31 := Try.underlying31
 have HR0_0 := Aside0.mk hr0_0
 have HC0_0 := Aside0.mk hc0_0
 clear hr0_0 hc0_0
 have HR0_1 := Aside0.mk hr0_1
 have HC0_1 := Aside0.mk hc0_1
 clear hr0_1 hc0_1
 have HR1 := Aside0.mk hr1
 have HC1 := Aside0.mk hc1
 clear hr1 hc1
 have HR2 := Aside0.mk hr2
 have HC2 := Aside0.mk hc2
 clear hr2 hc2
 have HB := Aside0.mk (Below.refl w.heap.size w)
 have H : (if (l1.length : Int) > 1048576 then (some true) else (if (l2.length : Int) > 1048576 then (some true) else ((laws_szSystem.f k l0_0 l0_1 1048576).bind fun t869 => (if t869 < 0 then (some true) else ((laws_toSystem.f k l0_0 l0_1).bind fun bt870 => ((laws_toIntS.f k l1).bind fun t876 => ((laws_toIntS.f k l2).bind fun t879 => ((spec_RuleBetween.f k bt870.1 bt870.2 t876 t879).bind fun t882 => ((laws_toSystem.f k l0_0 l0_1).bind fun bt883 => ((laws_toIntS.f k l1).bind fun t890 => ((laws_toIntS.f k l2).bind fun t893 => ((impl_RuleBetween.f k bt883.1 bt883.2 t890 t893).bind fun t896 => (if t896 = t882 then ((laws_toSystem.f k l0_0 l0_1).bind fun bt897 => ((laws_eqSystem.f k bt883.1 bt883.2 bt897.1 bt897.2).bind fun t903 => (if t903 = true then ((laws_toIntS.f k l1).bind fun t904 => ((laws_eqIntS.f k t890 t904).bind fun t907 => (if t907 = true then ((laws_toIntS.f k l2).bind fun t908 => ((laws_eqIntS.f k t893 t908).bind fun t911 => (if t911 = true then (some true) else (some false)))) else (some false)))) else (some false)))) else (some false)))))))))))))) = some r := h
 clear h
 by_cases c4 : (l1.length : Int) > 1048576
 case pos =>
  rw [if_pos c4] at H
  have c4b0 : decide (1048576 < (l1.length : Int)) = true := decide_eq_true c4
  have c4b1 : decide (1048576 < l1.length) = true := decide_eq_true (by omega)
  clear c4
  obtain rfl := Option.some.inj H
  go_enter Try.func10, Try.ntmps10
  go_wp2_with (first | ((with_reducible refine gate_dst (N := 3) rfl ?_); refine box_event ?hg (N := 3) ?hd (cs := #[.slice A0_0 l0_0.length c0_0, .slice A0_1 l0_1.length c0_1]) (t := 25) ?hr ?_; (case hd => rfl); (case hg => rfl); (case hr => first | (go_simp; done) | (go_simp; rfl)); intro gb868 hg w5 hbox hb; have n0_ := Aside0.mk (below_step (bz HB) hb); have n1_ := Aside0.mk (hbox); have n2_ := Aside0.mk ((by rw [hg]; exact (below_size (bz HB)) : w.heap.size ≤ gb868)); have n3_ := Aside0.mk ((by rw [hg]; exact (below_size (bz HB)) : w.heap.size ≤ gb868)); clear HB; have HB := n0_; have BK868 := n1_; have GW868 := n2_; have GE868 := n3_; clear n0_ n1_ n2_ n3_; clear hb hbox hg))
  go_ret
  exact ⟨rz, bz1 HB GE868⟩
 rw [if_neg c4] at H
 have c4b0 : decide (1048576 < (l1.length : Int)) = false := decide_eq_false c4
 have c4b1 : decide (1048576 < l1.length) = false := decide_eq_false (by omega)
 clear c4
 by_cases c6 : (l2.length : Int) > 1048576
 case pos =>
  rw [if_pos c6] at H
  have c6b0 : decide (1048576 < (l2.length : Int)) = true := decide_eq_true c6
  have c6b1 : decide (1048576 < l2.length) = true := decide_eq_true (by omega)
  clear c6
  obtain rfl := Option.some.inj H
  go_enter Try.func10, Try.ntmps10
  go_wp2_with (first | ((with_reducible refine gate_dst (N := 3) rfl ?_); refine box_event ?hg (N := 3) ?hd (cs := #[.slice A0_0 l0_0.length c0_0, .slice A0_1 l0_1.length c0_1]) (t := 25) ?hr ?_; (case hd => rfl); (case hg => rfl); (case hr => first | (go_simp; done) | (go_simp; rfl)); intro gb868 hg w7 hbox hb; have n0_ := Aside0.mk (below_step (bz HB) hb); have n1_ := Aside0.mk (hbox); have n2_ := Aside0.mk ((by rw [hg]; exact (below_size (bz HB)) : w.heap.size ≤ gb868)); have n3_ := Aside0.mk ((by rw [hg]; exact (below_size (bz HB)) : w.heap.size ≤ gb868)); clear HB; have HB := n0_; have BK868 := n1_; have GW868 := n2_; have GE868 := n3_; clear n0_ n1_ n2_ n3_; clear hb hbox hg))
  go_ret
  exact ⟨rz, bz1 HB GE868⟩
 rw [if_neg c6] at H
 have c6b0 : decide (1048576 < (l2.length : Int)) = false := decide_eq_false c6
 have c6b1 : decide (1048576 < l2.length) = false := decide_eq_false (by omega)
 clear c6
 replace H := Option.bind_eq_some_iff.mp H
 obtain ⟨t869, A80, H⟩ := H
 have A8 := Aside0.mk A80
 clear A80
 by_cases c9 : t869 < 0
 case pos =>
  rw [if_pos c9] at H
  have c9b0 : decide (t869 < 0) = true := decide_eq_true c9
  clear c9
  obtain rfl := Option.some.inj H
  go_enter Try.func10, Try.ntmps10
  go_wp2_with (first | ((with_reducible refine gate_dst (N := 3) rfl ?_); refine box_event ?hg (N := 3) ?hd (cs := #[.slice A0_0 l0_0.length c0_0, .slice A0_1 l0_1.length c0_1]) (t := 25) ?hr ?_; (case hd => rfl); (case hg => rfl); (case hr => first | (go_simp; done) | (go_simp; rfl)); intro gb868 hg w10 hbox hb; have n0_ := Aside0.mk (below_step (bz HB) hb); have n1_ := Aside0.mk (hbox); have n2_ := Aside0.mk ((by rw [hg]; exact (below_size (bz HB)) : w.heap.size ≤ gb868)); have n3_ := Aside0.mk ((by rw [hg]; exact (below_size (bz HB)) : w.heap.size ≤ gb868)); clear HB; have HB := n0_; have BK868 := n1_; have GW868 := n2_; have GE868 := n3_; clear n0_ n1_ n2_ n3_; clear hb hbox hg; have hcz11_0 : w10.cell? ⟨gb868, 0, none⟩ = some (.slice A0_0 l0_0.length c0_0) := (blk_cell BK868.out 0).trans rfl; have hcz11_1 : w10.cell? ⟨gb868, 1, none⟩ = some (.slice A0_1 l0_1.length c0_1) := (blk_cell BK868.out 1).trans rfl; have hfz11_0 := blk_frozen BK868.out 0; have hfz11_1 := blk_frozen BK868.out 1) | ((with_reducible refine gate_callee (f := 15) rfl ?_); refine goesL_ (some 21) rfl rfl Try.func15 (by kernel_rfl) rfl #[.agg #[.slice A0_0 l0_0.length c0_0, .slice A0_1 l0_1.length c0_1], .int .i64 1048576] rfl az ?_; (with_reducible refine (laws_szSystem.calls k _ _ l0_0 _ _ l0_1 1048576 t869 _ ?side1 HC0_0.out ?side3 HC0_1.out A8.out).mono ?_); (case side1 => exact cz HR0_0 HB); (case side3 => exact cz HR0_1 HB); rintro e w12 ⟨rfl, hb⟩; refine ⟨_, rfl, ?_⟩; replace BK868 := Aside0.mk (blk_below (g := gb868) (o := .cells #[.slice A0_0 l0_0.length c0_0, .slice A0_1 l0_1.length c0_1] 25 (0, 0)) (kz BK868) hb); replace HB := Aside0.mk (below_step (bz1 HB GE868) hb); clear hb))
  go_ret
  exact ⟨rz, bz1 HB GE868⟩
 rw [if_neg c9] at H
 have c9b0 : decide (t869 < 0) = false := decide_eq_false c9
 clear c9
 replace H := Option.bind_eq_some_iff.mp H
 obtain ⟨⟨t870, t873⟩, A130, H⟩ := H
 dsimp only at H
 have A13 := Aside0.mk A130
 clear A130
 replace H := Option.bind_eq_some_iff.mp H
 obtain ⟨t876, A140, H⟩ := H
 have A14 := Aside0.mk A140
 clear A140
 replace H := Option.bind_eq_some_iff.mp H
 obtain ⟨t879, A150, H⟩ := H
 have A15 := Aside0.mk A150
 clear A150
 replace H := Option.bind_eq_some_iff.mp H
 obtain ⟨t882, A160, H⟩ := H
 have A16 := Aside0.mk A160
 clear A160
 replace H := Option.bind_eq_some_iff.mp H
 obtain ⟨⟨t883, t886⟩, A170, H⟩ := H
 dsimp only at H
 have A17 := Aside0.mk A170
 clear A170
 replace H := Option.bind_eq_some_iff.mp H
 obtain ⟨t890, A180, H⟩ := H
 have A18 := Aside0.mk A180
 clear A180
 replace H := Option.bind_eq_some_iff.mp H
 obtain ⟨t893, A190, H⟩ := H
 have A19 := Aside0.mk A190
 clear A190
 replace H := Option.bind_eq_some_iff.mp H
 obtain ⟨t896, A200, H⟩ := H
 have A20 := Aside0.mk A200
 clear A200
 by_cases c21 : t896 = t882
 case neg =>
  rw [if_neg c21] at H
  have c21b0 : (t896 == t882) = false := beq_eq_false_iff_ne.mpr c21
  have c21b1 : (t896 != t882) = true := bne_iff_ne.mpr c21
  exact absurd ((Option.some.inj H).trans HR_.out) (by decide)
 rw [if_pos c21] at H
 have c21b0 : (t896 == t882) = true := beq_iff_eq.mpr c21
 have c21b1 : (t896 != t882) = false := bne_eq_false_iff_eq.mpr c21
 clear c21
 replace H := Option.bind_eq_some_iff.mp H
 obtain ⟨⟨t897, t900⟩, A220, H⟩ := H
 dsimp only at H
 have A22 := Aside0.mk A220
 clear A220
 replace H := Option.bind_eq_some_iff.mp H
 obtain ⟨t903, A230, H⟩ := H
 have A23 := Aside0.mk A230
 clear A230
 by_cases c24 : t903 = true
 case neg =>
  replace c24 := Bool.eq_false_iff.mpr c24
  subst c24
  rw [if_neg nt_] at H
  exact absurd ((Option.some.inj H).trans HR_.out) (by decide)
 subst c24
 rw [if_pos rfl] at H
 replace H := Option.bind_eq_some_iff.mp H
 obtain ⟨t904, A250, H⟩ := H
 have A25 := Aside0.mk A250
 clear A250
 replace H := Option.bind_eq_some_iff.mp H
 obtain ⟨t907, A260, H⟩ := H
 have A26 := Aside0.mk A260
 clear A260
 by_cases c27 : t907 = true
 case neg =>
  replace c27 := Bool.eq_false_iff.mpr c27
  subst c27
  rw [if_neg nt_] at H
  exact absurd ((Option.some.inj H).trans HR_.out) (by decide)
 subst c27
 rw [if_pos rfl] at H
 replace H := Option.bind_eq_some_iff.mp H
 obtain ⟨t908, A280, H⟩ := H
 have A28 := Aside0.mk A280
 clear A280
 replace H := Option.bind_eq_some_iff.mp H
 obtain ⟨t911, A290, H⟩ := H
 have A29 := Aside0.mk A290
 clear A290
 by_cases c30 : t911 = true
 case neg =>
  replace c30 := Bool.eq_false_iff.mpr c30
  subst c30
  rw [if_neg nt_] at H
  exact absurd ((Option.some.inj H).trans HR_.out) (by decide)
 subst c30
 rw [if_pos rfl] at H
 obtain rfl := Option.some.inj H
 go_enter Try.func10, Try.ntmps10
 try go_wp2_with (first | ((with_reducible refine gate_dst (N := 3) rfl ?_); refine box_event ?hg (N := 3) ?hd (cs := #[.slice A0_0 l0_0.length c0_0, .slice A0_1 l0_1.length c0_1]) (t := 25) ?hr ?_; (case hd => rfl); (case hg => rfl); (case hr => first | (go_simp; done) | (go_simp; rfl)); intro gb868 hg w31 hbox hb; have n0_ := Aside0.mk (below_step (bz HB) hb); have n1_ := Aside0.mk (hbox); have n2_ := Aside0.mk ((by rw [hg]; exact (below_size (bz HB)) : w.heap.size ≤ gb868)); have n3_ := Aside0.mk ((by rw [hg]; exact (below_size (bz HB)) : w.heap.size ≤ gb868)); clear HB; have HB := n0_; have BK868 := n1_; have GW868 := n2_; have GE868 := n3_; clear n0_ n1_ n2_ n3_; clear hb hbox hg; have hcz32_0 : w31.cell? ⟨gb868, 0, none⟩ = some (.slice A0_0 l0_0.length c0_0) := (blk_cell BK868.out 0).trans rfl; have hcz32_1 : w31.cell? ⟨gb868, 1, none⟩ = some (.slice A0_1 l0_1.length c0_1) := (blk_cell BK868.out 1).trans rfl; have hfz32_0 := blk_frozen BK868.out 0; have hfz32_1 := blk_frozen BK868.out 1) | ((with_reducible refine gate_callee (f := 15) rfl ?_); refine goesL_ (some 21) rfl rfl Try.func15 (by kernel_rfl) rfl #[.agg #[.slice A0_0 l0_0.length c0_0, .slice A0_1 l0_1.length c0_1], .int .i64 1048576] rfl az ?_; (with_reducible refine (laws_szSystem.calls k _ _ l0_0 _ _ l0_1 1048576 t869 _ ?side1 HC0_0.out ?side3 HC0_1.out A8.out).mono ?_); (case side1 => exact cz HR0_0 HB); (case side3 => exact cz HR0_1 HB); rintro e w33 ⟨rfl, hb⟩; refine ⟨_, rfl, ?_⟩; replace BK868 := Aside0.mk (blk_below (g := gb868) (o := .cells #[.slice A0_0 l0_0.length c0_0, .slice A0_1 l0_1.length c0_1] 25 (0, 0)) (kz BK868) hb); replace HB := Aside0.mk (below_step (bz1 HB GE868) hb); clear hb; have hcz34_0 : w33.cell? ⟨gb868, 0, none⟩ = some (.slice A0_0 l0_0.length c0_0) := (blk_cell BK868.out 0).trans rfl; have hcz34_1 : w33.cell? ⟨gb868, 1, none⟩ = some (.slice A0_1 l0_1.length c0_1) := (blk_cell BK868.out 1).trans rfl; have hfz34_0 := blk_frozen BK868.out 0; have hfz34_1 := blk_frozen BK868.out 1) | ((with_reducible refine gate_callee (f := 17) rfl ?_); refine goesL_ (some 25) rfl rfl Try.func17 (by kernel_rfl) rfl #[.agg #[.slice A0_0 l0_0.length c0_0, .slice A0_1 l0_1.length c0_1]] rfl az ?_; (with_reducible refine (laws_toSystem.calls k _ _ l0_0 _ _ l0_1 t870 t873 _ ?side1 HC0_0.out ?side3 HC0_1.out A13.out).mono ?_); (case side1 => exact cz HR0_0 HB); (case side3 => exact cz HR0_1 HB); rintro e w35 ⟨v871, v874, rfl, ho0, ho1, hb⟩; refine ⟨_, rfl, ?_⟩; have HO872 := Aside0.mk (Kd.R_lower ho0 (below_size (bz1 HB GE868))); have HO875 := Aside0.mk (Kd.R_lower ho1 (below_size (bz1 HB GE868))); replace BK868 := Aside0.mk (blk_below (g := gb868) (o := .cells #[.slice A0_0 l0_0.length c0_0, .slice A0_1 l0_1.length c0_1] 25 (0, 0)) (kz BK868) hb); replace HB := Aside0.mk (below_step (bz1 HB GE868) hb); clear hb; (try clear ho0); (try clear ho1)) | ((with_reducible refine gate_callee (f := 27) rfl ?_); refine goesL_ (some 27) rfl rfl Try.func27 (by kernel_rfl) rfl #[.slice A1 l1.length c1] rfl az ?_; (with_reducible refine (laws_toIntS.calls k _ _ l1 t876 _ ?side1 HC1.out A14.out).mono ?_); (case side1 => exact cz HR1 HB); rintro e w36 ⟨v877, rfl, ho0, hb⟩; refine ⟨_, rfl, ?_⟩; replace HO872 := Aside0.mk (Kd.R_below (ozR HO872) hb); replace HO875 := Aside0.mk (Kd.R_elder' (ozR HO875) (Kd.R_base ho0) hb); have HO878 := Aside0.mk (Kd.R_lower ho0 (below_size (bz1 HB GE868))); replace BK868 := Aside0.mk (blk_below (g := gb868) (o := .cells #[.slice A0_0 l0_0.length c0_0, .slice A0_1 l0_1.length c0_1] 25 (0, 0)) (kz BK868) hb); replace HB := Aside0.mk (below_step (bz1 HB GE868) hb); clear hb; (try clear ho0)) | ((with_reducible refine gate_callee (f := 27) rfl ?_); refine goesL_ (some 29) rfl rfl Try.func27 (by kernel_rfl) rfl #[.slice A2 l2.length c2] rfl az ?_; (with_reducible refine (laws_toIntS.calls k _ _ l2 t879 _ ?side1 HC2.out A15.out).mono ?_); (case side1 => exact cz HR2 HB); rintro e w37 ⟨v880, rfl, ho0, hb⟩; refine ⟨_, rfl, ?_⟩; have n0_ := Aside0.mk (Kd.R_below (ozR HO872) hb); have n1_ := Aside0.mk (Kd.R_elder' (ozR HO875) (Kd.R_base ho0) hb); have n2_ := Aside0.mk (Kd.R_elder' (ozR HO878) (Kd.R_base ho0) hb); have n3_ := Aside0.mk (Kd.R_lower (Kd.R_new' ho0 (Kd.R_lt (ozR HO878))) (below_size (bz1 HB GE868))); have n4_ := Aside0.mk (blk_below (g := gb868) (o := .cells #[.slice A0_0 l0_0.length c0_0, .slice A0_1 l0_1.length c0_1] 25 (0, 0)) (kz BK868) hb); have n5_ := Aside0.mk (below_step (bz1 HB GE868) hb); clear HO872; clear HO875; clear HO878; clear BK868; clear HB; have HO872 := n0_; have HO875 := n1_; have HO878 := n2_; have HO881 := n3_; have BK868 := n4_; have HB := n5_; clear n0_ n1_ n2_ n3_ n4_ n5_; clear hb; (try clear ho0); obtain ⟨Ao38, co38, eo38⟩ := Kd.R_slice HO872.out; subst eo38; obtain ⟨Ao39, co39, eo39⟩ := Kd.R_slice HO875.out; subst eo39; obtain ⟨Ao40, co40, eo40⟩ := Kd.R_slice HO878.out; subst eo40; obtain ⟨Ao41, co41, eo41⟩ := Kd.R_slice HO881.out; subst eo41) | ((with_reducible refine gate_callee (f := 37) rfl ?_); refine goesL_ (some 30) rfl rfl Try.func37 (by kernel_rfl) rfl #[.agg #[.slice Ao38 t870.length co38, .slice Ao39 t873.length co39], .slice Ao40 t876.length co40, .slice Ao41 t879.length co41] rfl az ?_; (with_reducible refine (spec_RuleBetween.calls k _ _ t870 _ _ t873 _ _ t876 _ _ t879 t882 _ ?side1 ?side2 ?side3 ?side4 ?side5 ?side6 ?side7 ?side8 A16.out).mono ?_); (case side1 => exact cz1 (Kd.R_reads' HO872.out).2.2); (case side2 => exact (Kd.R_reads' HO872.out).2.1); (case side3 => exact cz1 (Kd.R_reads' HO875.out).2.2); (case side4 => exact (Kd.R_reads' HO875.out).2.1); (case side5 => exact cz1 (Kd.R_reads' HO878.out).2.2); (case side6 => exact (Kd.R_reads' HO878.out).2.1); (case side7 => exact cz1 (Kd.R_reads' HO881.out).2.2); (case side8 => exact (Kd.R_reads' HO881.out).2.1); rintro e w42 ⟨rfl, hb⟩; refine ⟨_, rfl, ?_⟩; replace HO872 := Aside0.mk (Kd.R_below (ozR HO872) hb); replace HO875 := Aside0.mk (Kd.R_below (ozR HO875) hb); replace HO878 := Aside0.mk (Kd.R_below (ozR HO878) hb); replace HO881 := Aside0.mk (Kd.R_below (ozR HO881) hb); replace BK868 := Aside0.mk (blk_below (g := gb868) (o := .cells #[.slice A0_0 l0_0.length c0_0, .slice A0_1 l0_1.length c0_1] 25 (0, 0)) (kz BK868) hb); replace HB := Aside0.mk (below_step (bz1 HB GE868) hb); clear hb; have hcz43_0 : w42.cell? ⟨gb868, 0, none⟩ = some (.slice A0_0 l0_0.length c0_0) := (blk_cell BK868.out 0).trans rfl; have hcz43_1 : w42.cell? ⟨gb868, 1, none⟩ = some (.slice A0_1 l0_1.length c0_1) := (blk_cell BK868.out 1).trans rfl; have hfz43_0 := blk_frozen BK868.out 0; have hfz43_1 := blk_frozen BK868.out 1) | ((with_reducible refine gate_callee (f := 17) rfl ?_); refine goesL_ (some 32) rfl rfl Try.func17 (by kernel_rfl) rfl #[.agg #[.slice A0_0 l0_0.length c0_0, .slice A0_1 l0_1.length c0_1]] rfl az ?_; (with_reducible refine (laws_toSystem.calls k _ _ l0_0 _ _ l0_1 t883 t886 _ ?side1 HC0_0.out ?side3 HC0_1.out A17.out).mono ?_); (case side1 => exact cz HR0_0 HB); (case side3 => exact cz HR0_1 HB); rintro e w44 ⟨v884, v887, rfl, ho0, ho1, hb⟩; refine ⟨_, rfl, ?_⟩; have n0_ := Aside0.mk (Kd.R_elder' (ozR HO872) (Kd.R_base ho0) hb); have n1_ := Aside0.mk (Kd.R_elder' (ozR HO875) (Kd.R_base ho1) hb); have n2_ := Aside0.mk (Kd.R_below (ozR HO878) hb); have n3_ := Aside0.mk (Kd.R_below (ozR HO881) hb); have n4_ := Aside0.mk (Kd.R_lower (Kd.R_new' ho0 (Kd.R_lt (ozR HO872))) (below_size (bz1 HB GE868))); have n5_ := Aside0.mk (Kd.R_lower (Kd.R_new' (Kd.R_new' (Kd.R_new' ho1 (Kd.R_lt (ozR HO875))) (Kd.R_lt (ozR HO878))) (Kd.R_lt (ozR HO881))) (below_size (bz1 HB GE868))); have n6_ := Aside0.mk (blk_below (g := gb868) (o := .cells #[.slice A0_0 l0_0.length c0_0, .slice A0_1 l0_1.length c0_1] 25 (0, 0)) (kz BK868) hb); have n7_ := Aside0.mk (below_step (bz1 HB GE868) hb); clear HO872; clear HO875; clear HO878; clear HO881; clear BK868; clear HB; have HO872 := n0_; have HO875 := n1_; have HO878 := n2_; have HO881 := n3_; have HO885 := n4_; have HO888 := n5_; have BK868 := n6_; have HB := n7_; clear n0_ n1_ n2_ n3_ n4_ n5_ n6_ n7_; clear hb; (try clear ho0); (try clear ho1)) | ((with_reducible refine gate_dst (N := 9) rfl ?_); refine box_event ?hg (N := 9) ?hd (cs := #[.slice none 0 0, .slice none 0 0]) (t := 31) ?hr ?_; (case hd => rfl); (case hg => rfl); (case hr => first | (go_simp; done) | (go_simp; rfl)); intro gb889 hg w45 hbox hb; have n0_ := Aside0.mk (Kd.R_below (ozR HO872) hb); have n1_ := Aside0.mk (Kd.R_below (ozR HO875) hb); have n2_ := Aside0.mk (Kd.R_below (ozR HO878) hb); have n3_ := Aside0.mk (Kd.R_below (ozR HO881) hb); have n4_ := Aside0.mk (Kd.R_below (ozR HO885) hb); have n5_ := Aside0.mk (Kd.R_below (ozR HO888) hb); have n6_ := Aside0.mk (blk_below (g := gb868) (o := .cells #[.slice A0_0 l0_0.length c0_0, .slice A0_1 l0_1.length c0_1] 25 (0, 0)) (kz BK868) hb); have n7_ := Aside0.mk (below_step (bz1 HB GE868) hb); have n8_ := Aside0.mk (hbox); have n9_ := Aside0.mk ((by rw [hg]; exact (below_size (bz1 HB GE868)) : w.heap.size ≤ gb889)); have n10_ := Aside0.mk ((by rw [hg]; exact (below_size (bz1 HB GE868)) : w.heap.size ≤ gb889)); have n11_ := Aside0.mk ((by rw [hg]; exact Nat.ne_of_lt (blk_lt (g := gb868) (o := .cells #[.slice A0_0 l0_0.length c0_0, .slice A0_1 l0_1.length c0_1] 25 (0, 0)) (kz BK868)) : gb868 ≠ gb889)); have n12_ := Aside0.mk ((by rw [hg]; exact Nat.ne_of_gt (blk_lt (g := gb868) (o := .cells #[.slice A0_0 l0_0.length c0_0, .slice A0_1 l0_1.length c0_1] 25 (0, 0)) (kz BK868)) : gb889 ≠ gb868)); clear HO872; clear HO875; clear HO878; clear HO881; clear HO885; clear HO888; clear BK868; clear HB; have HO872 := n0_; have HO875 := n1_; have HO878 := n2_; have HO881 := n3_; have HO885 := n4_; have HO888 := n5_; have BK868 := n6_; have HB := n7_; have BK889 := n8_; have GW889 := n9_; have GE889 := n10_; have NB868_889 := n11_; have NB889_868 := n12_; clear n0_ n1_ n2_ n3_ n4_ n5_ n6_ n7_ n8_ n9_ n10_ n11_ n12_; clear hb hbox hg; obtain ⟨Ao46, co46, eo46⟩ := Kd.R_slice HO885.out; subst eo46; have hnb47 := NB889_868.out; have hnc47 := NB868_889.out; have hcz48_0 : w45.cell? ⟨gb889, 0, none⟩ = some (.slice none 0 0) := (blk_cell BK889.out 0).trans rfl; have hcz48_1 : w45.cell? ⟨gb889, 1, none⟩ = some (.slice none 0 0) := (blk_cell BK889.out 1).trans rfl; have hfz48_0 := blk_frozen BK889.out 0; have hfz48_1 := blk_frozen BK889.out 1; obtain ⟨Ao49, co49, eo49⟩ := Kd.R_slice HO888.out; subst eo49) | ((with_reducible refine gate_callee (f := 27) rfl ?_); refine goesL_ (some 34) rfl rfl Try.func27 (by kernel_rfl) rfl #[.slice A1 l1.length c1] rfl az ?_; (with_reducible refine (laws_toIntS.calls k _ _ l1 t890 _ ?side1 HC1.out A18.out).mono ?_); (case side1 => exact Kd.C_below HR1.out (bz2 HB GE868 GE889)); rintro e w50 ⟨v891, rfl, ho0, hb⟩; refine ⟨_, rfl, ?_⟩; have n0_ := Aside0.mk (Kd.R_below (by (with_reducible repeat (first | apply Kd.R_alloc | apply Kd.R_drewN | apply Kd.R_drew)); exact (Kd.R_mono (Kd.R_far (p := ⟨gb889, 1, none⟩) (Kd.R_far (p := ⟨gb889, 0, none⟩) (Kd.R_types HO872.out BK889.out (by decide)) (fun _ hk => hk.2) (.slice Ao46 t883.length co46)) (fun _ hk => hk.2) (.slice Ao49 t886.length co49)) (fun _ h_ => h_.1))) hb); have n1_ := Aside0.mk (Kd.R_elder' (by (with_reducible repeat (first | apply Kd.R_alloc | apply Kd.R_drewN | apply Kd.R_drew)); exact (Kd.R_mono (Kd.R_far (p := ⟨gb889, 1, none⟩) (Kd.R_far (p := ⟨gb889, 0, none⟩) (Kd.R_types HO875.out BK889.out (by decide)) (fun _ hk => hk.2) (.slice Ao46 t883.length co46)) (fun _ hk => hk.2) (.slice Ao49 t886.length co49)) (fun _ h_ => h_.1))) (Kd.R_base ho0) hb); have n2_ := Aside0.mk (Kd.R_elder' (by (with_reducible repeat (first | apply Kd.R_alloc | apply Kd.R_drewN | apply Kd.R_drew)); exact (Kd.R_mono (Kd.R_far (p := ⟨gb889, 1, none⟩) (Kd.R_far (p := ⟨gb889, 0, none⟩) (Kd.R_types HO878.out BK889.out (by decide)) (fun _ hk => hk.2) (.slice Ao46 t883.length co46)) (fun _ hk => hk.2) (.slice Ao49 t886.length co49)) (fun _ h_ => h_.1))) (Kd.R_base ho0) hb); have n3_ := Aside0.mk (Kd.R_elder' (by (with_reducible repeat (first | apply Kd.R_alloc | apply Kd.R_drewN | apply Kd.R_drew)); exact (Kd.R_mono (Kd.R_far (p := ⟨gb889, 1, none⟩) (Kd.R_far (p := ⟨gb889, 0, none⟩) (Kd.R_types HO881.out BK889.out (by decide)) (fun _ hk => hk.2) (.slice Ao46 t883.length co46)) (fun _ hk => hk.2) (.slice Ao49 t886.length co49)) (fun _ h_ => h_.1))) (Kd.R_base ho0) hb); have n4_ := Aside0.mk (Kd.R_below (by (with_reducible repeat (first | apply Kd.R_alloc | apply Kd.R_drewN | apply Kd.R_drew)); exact (Kd.R_mono (Kd.R_far (p := ⟨gb889, 1, none⟩) (Kd.R_far (p := ⟨gb889, 0, none⟩) (Kd.R_types HO885.out BK889.out (by decide)) (fun _ hk => hk.2) (.slice Ao46 t883.length co46)) (fun _ hk => hk.2) (.slice Ao49 t886.length co49)) (fun _ h_ => h_.1))) hb); have n5_ := Aside0.mk (Kd.R_elder' (by (with_reducible repeat (first | apply Kd.R_alloc | apply Kd.R_drewN | apply Kd.R_drew)); exact (Kd.R_mono (Kd.R_far (p := ⟨gb889, 1, none⟩) (Kd.R_far (p := ⟨gb889, 0, none⟩) (Kd.R_types HO888.out BK889.out (by decide)) (fun _ hk => hk.2) (.slice Ao46 t883.length co46)) (fun _ hk => hk.2) (.slice Ao49 t886.length co49)) (fun _ h_ => h_.1))) (Kd.R_base ho0) hb); have n6_ := Aside0.mk (Kd.R_lower (Kd.R_new' (Kd.R_new' ho0 (Kd.R_lt (by (with_reducible repeat (first | apply Kd.R_alloc | apply Kd.R_drewN | apply Kd.R_drew)); exact (Kd.R_mono (Kd.R_far (p := ⟨gb889, 1, none⟩) (Kd.R_far (p := ⟨gb889, 0, none⟩) (Kd.R_types HO878.out BK889.out (by decide)) (fun _ hk => hk.2) (.slice Ao46 t883.length co46)) (fun _ hk => hk.2) (.slice Ao49 t886.length co49)) (fun _ h_ => h_.1))))) (Kd.R_lt (by (with_reducible repeat (first | apply Kd.R_alloc | apply Kd.R_drewN | apply Kd.R_drew)); exact (Kd.R_mono (Kd.R_far (p := ⟨gb889, 1, none⟩) (Kd.R_far (p := ⟨gb889, 0, none⟩) (Kd.R_types HO881.out BK889.out (by decide)) (fun _ hk => hk.2) (.slice Ao46 t883.length co46)) (fun _ hk => hk.2) (.slice Ao49 t886.length co49)) (fun _ h_ => h_.1))))) (below_size (bz2 HB GE868 GE889))); have n7_ := Aside0.mk (blk_below (g := gb868) (o := .cells #[.slice A0_0 l0_0.length c0_0, .slice A0_1 l0_1.length c0_1] 25 (0, 0)) (by (with_reducible repeat (first | refine blk_drewN ?_ _ | refine blk_drew ?_ | refine blk_alloc ?_ _)); refine blk_far ?_ NB868_889.out _; (with_reducible repeat (first | refine blk_drewN ?_ _ | refine blk_drew ?_ | refine blk_alloc ?_ _)); refine blk_far ?_ NB868_889.out _; exact kz BK868) hb); have n8_ := Aside0.mk (blk_below (g := gb889) (o := .cells #[.slice Ao46 t883.length co46, .slice Ao49 t886.length co49] 31 (0, 0)) (by (with_reducible repeat (first | refine blk_drewN ?_ _ | refine blk_drew ?_ | refine blk_alloc ?_ _)); refine blk_put (cs := #[.slice Ao46 t883.length co46, .slice none 0 0]) ?_ 1 _ rfl; (with_reducible repeat (first | refine blk_drewN ?_ _ | refine blk_drew ?_ | refine blk_alloc ?_ _)); refine blk_put (cs := #[.slice none 0 0, .slice none 0 0]) ?_ 0 _ rfl; exact kz BK889) hb); have n9_ := Aside0.mk (below_step (bz2 HB GE868 GE889) hb); clear HO872; clear HO875; clear HO878; clear HO881; clear HO885; clear HO888; clear BK868; clear BK889; clear HB; have HO872 := n0_; have HO875 := n1_; have HO878 := n2_; have HO881 := n3_; have HO885 := n4_; have HO888 := n5_; have HO892 := n6_; have BK868 := n7_; have BK889 := n8_; have HB := n9_; clear n0_ n1_ n2_ n3_ n4_ n5_ n6_ n7_ n8_ n9_; clear hb; (try clear hk); (try clear ho0)) | ((with_reducible refine gate_callee (f := 27) rfl ?_); refine goesL_ (some 36) rfl rfl Try.func27 (by kernel_rfl) rfl #[.slice A2 l2.length c2] rfl az ?_; (with_reducible refine (laws_toIntS.calls k _ _ l2 t893 _ ?side1 HC2.out A19.out).mono ?_); (case side1 => exact cz HR2 HB); rintro e w51 ⟨v894, rfl, ho0, hb⟩; refine ⟨_, rfl, ?_⟩; have n0_ := Aside0.mk (Kd.R_below (ozR HO872) hb); have n1_ := Aside0.mk (Kd.R_elder' (ozR HO875) (Kd.R_base ho0) hb); have n2_ := Aside0.mk (Kd.R_elder' (ozR HO878) (Kd.R_base ho0) hb); have n3_ := Aside0.mk (Kd.R_elder' (ozR HO881) (Kd.R_base ho0) hb); have n4_ := Aside0.mk (Kd.R_below (ozR HO885) hb); have n5_ := Aside0.mk (Kd.R_elder' (ozR HO888) (Kd.R_base ho0) hb); have n6_ := Aside0.mk (Kd.R_elder' (ozR HO892) (Kd.R_base ho0) hb); have n7_ := Aside0.mk (Kd.R_lower (Kd.R_new' (Kd.R_new' (Kd.R_new' ho0 (Kd.R_lt (ozR HO878))) (Kd.R_lt (ozR HO881))) (Kd.R_lt (ozR HO892))) (below_size (bz2 HB GE868 GE889))); have n8_ := Aside0.mk (blk_below (g := gb868) (o := .cells #[.slice A0_0 l0_0.length c0_0, .slice A0_1 l0_1.length c0_1] 25 (0, 0)) (kz BK868) hb); have n9_ := Aside0.mk (blk_below (g := gb889) (o := .cells #[.slice Ao46 t883.length co46, .slice Ao49 t886.length co49] 31 (0, 0)) (kz BK889) hb); have n10_ := Aside0.mk (below_step (bz2 HB GE868 GE889) hb); clear HO872; clear HO875; clear HO878; clear HO881; clear HO885; clear HO888; clear HO892; clear BK868; clear BK889; clear HB; have HO872 := n0_; have HO875 := n1_; have HO878 := n2_; have HO881 := n3_; have HO885 := n4_; have HO888 := n5_; have HO892 := n6_; have HO895 := n7_; have BK868 := n8_; have BK889 := n9_; have HB := n10_; clear n0_ n1_ n2_ n3_ n4_ n5_ n6_ n7_ n8_ n9_ n10_; clear hb; (try clear ho0); have hcz52_0 : w51.cell? ⟨gb889, 0, none⟩ = some (.slice Ao46 t883.length co46) := (blk_cell BK889.out 0).trans rfl; have hcz52_1 : w51.cell? ⟨gb889, 1, none⟩ = some (.slice Ao49 t886.length co49) := (blk_cell BK889.out 1).trans rfl; have hfz52_0 := blk_frozen BK889.out 0; have hfz52_1 := blk_frozen BK889.out 1; obtain ⟨Ao53, co53, eo53⟩ := Kd.R_slice HO892.out; subst eo53; obtain ⟨Ao54, co54, eo54⟩ := Kd.R_slice HO895.out; subst eo54) | ((with_reducible refine gate_callee (f := 38) rfl ?_); refine goesL_ (some 40) rfl rfl Try.func38 (by kernel_rfl) rfl #[.agg #[.slice Ao46 t883.length co46, .slice Ao49 t886.length co49], .slice Ao53 t890.length co53, .slice Ao54 t893.length co54] rfl az ?_; (with_reducible refine (impl_RuleBetween.calls k _ _ t883 _ _ t886 _ _ t890 _ _ t893 t896 _ ?side1 ?side2 ?side3 ?side4 ?side5 ?side6 ?side7 ?side8 A20.out).mono ?_); (case side1 => exact cz1 (Kd.R_reads' HO885.out).2.2); (case side2 => exact (Kd.R_reads' HO885.out).2.1); (case side3 => exact cz1 (Kd.R_reads' HO888.out).2.2); (case side4 => exact (Kd.R_reads' HO888.out).2.1); (case side5 => exact cz1 (Kd.R_reads' HO892.out).2.2); (case side6 => exact (Kd.R_reads' HO892.out).2.1); (case side7 => exact cz1 (Kd.R_reads' HO895.out).2.2); (case side8 => exact (Kd.R_reads' HO895.out).2.1); rintro e w55 ⟨rfl, hb⟩; refine ⟨_, rfl, ?_⟩; replace HO872 := Aside0.mk (Kd.R_below (ozR HO872) hb); replace HO875 := Aside0.mk (Kd.R_below (ozR HO875) hb); replace HO878 := Aside0.mk (Kd.R_below (ozR HO878) hb); replace HO881 := Aside0.mk (Kd.R_below (ozR HO881) hb); replace HO885 := Aside0.mk (Kd.R_below (ozR HO885) hb); replace HO888 := Aside0.mk (Kd.R_below (ozR HO888) hb); replace HO892 := Aside0.mk (Kd.R_below (ozR HO892) hb); replace HO895 := Aside0.mk (Kd.R_below (ozR HO895) hb); replace BK868 := Aside0.mk (blk_below (g := gb868) (o := .cells #[.slice A0_0 l0_0.length c0_0, .slice A0_1 l0_1.length c0_1] 25 (0, 0)) (kz BK868) hb); replace BK889 := Aside0.mk (blk_below (g := gb889) (o := .cells #[.slice Ao46 t883.length co46, .slice Ao49 t886.length co49] 31 (0, 0)) (kz BK889) hb); replace HB := Aside0.mk (below_step (bz2 HB GE868 GE889) hb); clear hb))
 have n0_ := Aside0.mk (Kd.R_drew HO872.out)
 have n1_ := Aside0.mk (Kd.R_drew HO875.out)
 have n2_ := Aside0.mk (Kd.R_drew HO878.out)
 have n3_ := Aside0.mk (Kd.R_drew HO881.out)
 have n4_ := Aside0.mk (Kd.R_drew HO885.out)
 have n5_ := Aside0.mk (Kd.R_drew HO888.out)
 have n6_ := Aside0.mk (Kd.R_drew HO892.out)
 have n7_ := Aside0.mk (Kd.R_drew HO895.out)
 have n8_ := Aside0.mk (blk_drew BK868.out)
 have n9_ := Aside0.mk (blk_drew BK889.out)
 have n10_ := Aside0.mk (below_drew1 HB.out)
 clear HO872
 clear HO875
 clear HO878
 clear HO881
 clear HO885
 clear HO888
 clear HO892
 clear HO895
 clear BK868
 clear BK889
 clear HB
 have HO872 := n0_
 have HO875 := n1_
 have HO878 := n2_
 have HO881 := n3_
 have HO885 := n4_
 have HO888 := n5_
 have HO892 := n6_
 have HO895 := n7_
 have BK868 := n8_
 have BK889 := n9_
 have HB := n10_
 clear n0_ n1_ n2_ n3_ n4_ n5_ n6_ n7_ n8_ n9_ n10_
 refine start_ (n := 5) (S := fun w' => w'.cell? ⟨gb889, 0, none⟩ = some (.slice Ao46 t883.length co46) ∧ w'.cell? ⟨gb889, 1, none⟩ = some (.slice Ao49 t886.length co49) ∧ w'.cell? ⟨gb868, 0, none⟩ = some (.slice A0_0 l0_0.length c0_0) ∧ w'.cell? ⟨gb868, 1, none⟩ = some (.slice A0_1 l0_1.length c0_1)) (ds := []) #[false, false, false, false, false] (by kernel_rfl) rfl rfl ⟨(blk_cell BK889.out 0).trans rfl, (blk_cell BK889.out 1).trans rfl, (blk_cell BK868.out 0).trans rfl, (blk_cell BK868.out 1).trans rfl⟩ (fun hHeld => ?_)
 generalize w55.drew = w56 at HO872 HO875 HO878 HO881 HO885 HO888 HO892 HO895 BK868 BK889 HB hHeld ⊢
 refine take_ (i := 0) (N := some 44) (v := ?_) (a' := ?_) #[true, false, false, false, false] rfl rfl (by kernel_rfl) (fun _ _ _ h => h) (Or.inl ⟨by rfl, ?_⟩) hHeld ?_ ?_
 rotate_left
 ·
  rintro w' ⟨s0, s1, s2, s3⟩
  go_simp
  with_reducible rfl
 rotate_left
 ·
  simp only [Act.put, sb_, sc0_, sc1_, i64_w, i32_w]
  rfl
 refine take_ (i := 1) (N := some 45) (v := ?_) (a' := ?_) #[true, true, false, false, false] rfl rfl (by kernel_rfl) (fun _ _ _ h => h) (Or.inl ⟨by rfl, ?_⟩) hHeld ?_ ?_
 rotate_left
 ·
  rintro w' ⟨s0, s1, s2, s3⟩
  go_simp
  with_reducible rfl
 rotate_left
 ·
  simp only [Act.put, sb_, sc0_, sc1_, i64_w, i32_w]
  rfl
 refine one_ (i := 2) (N := some 46) #[true, true, true, false, false] rfl rfl (by kernel_rfl) (by decide) (fun K hK => ?_)
 refine goes_ Try.func17 (by kernel_rfl) rfl #[.agg #[.slice A0_0 l0_0.length c0_0, .slice A0_1 l0_1.length c0_1]] (by rfl) rfl rfl az ?_
 with_reducible refine (laws_toSystem.calls k _ _ l0_0 _ _ l0_1 t897 t900 _ ?side1 ?side2 ?side3 ?side4 A22.out).mono ?_
 (case side1 => exact cz HR0_0 HB)
 (case side2 => exact HC0_0.out)
 (case side3 => exact cz HR0_1 HB)
 (case side4 => exact HC0_1.out)
 rintro e w57 ⟨v898, v901, rfl, ho0, ho1, hb⟩
 refine ⟨_, rfl, ?_⟩
 have n0_ := Aside0.mk (Kd.R_elder' (ozR HO872) (Kd.R_base ho0) hb)
 have n1_ := Aside0.mk (Kd.R_elder' (ozR HO875) (Kd.R_base ho1) hb)
 have n2_ := Aside0.mk (Kd.R_below (ozR HO878) hb)
 have n3_ := Aside0.mk (Kd.R_below (ozR HO881) hb)
 have n4_ := Aside0.mk (Kd.R_elder' (ozR HO885) (Kd.R_base ho0) hb)
 have n5_ := Aside0.mk (Kd.R_elder' (ozR HO888) (Kd.R_base ho1) hb)
 have n6_ := Aside0.mk (Kd.R_below (ozR HO892) hb)
 have n7_ := Aside0.mk (Kd.R_below (ozR HO895) hb)
 have n8_ := Aside0.mk (Kd.R_lower (Kd.R_new' (Kd.R_new' ho0 (Kd.R_lt (ozR HO872))) (Kd.R_lt (ozR HO885))) (below_size (bz2 HB GE868 GE889)))
 have n9_ := Aside0.mk (Kd.R_lower (Kd.R_new' (Kd.R_new' (Kd.R_new' (Kd.R_new' (Kd.R_new' (Kd.R_new' ho1 (Kd.R_lt (ozR HO875))) (Kd.R_lt (ozR HO878))) (Kd.R_lt (ozR HO881))) (Kd.R_lt (ozR HO888))) (Kd.R_lt (ozR HO892))) (Kd.R_lt (ozR HO895))) (below_size (bz2 HB GE868 GE889)))
 have n10_ := Aside0.mk (blk_below (g := gb868) (o := .cells #[.slice A0_0 l0_0.length c0_0, .slice A0_1 l0_1.length c0_1] 25 (0, 0)) (kz BK868) hb)
 have n11_ := Aside0.mk (blk_below (g := gb889) (o := .cells #[.slice Ao46 t883.length co46, .slice Ao49 t886.length co49] 31 (0, 0)) (kz BK889) hb)
 have n12_ := Aside0.mk (below_step (bz2 HB GE868 GE889) hb)
 clear HO872
 clear HO875
 clear HO878
 clear HO881
 clear HO885
 clear HO888
 clear HO892
 clear HO895
 clear BK868
 clear BK889
 clear HB
 have HO872 := n0_
 have HO875 := n1_
 have HO878 := n2_
 have HO881 := n3_
 have HO885 := n4_
 have HO888 := n5_
 have HO892 := n6_
 have HO895 := n7_
 have HO899 := n8_
 have HO902 := n9_
 have BK868 := n10_
 have BK889 := n11_
 have HB := n12_
 clear n0_ n1_ n2_ n3_ n4_ n5_ n6_ n7_ n8_ n9_ n10_ n11_ n12_
 (try clear hb)
 (try clear hb2)
 (try clear hk)
 (try clear hi)
 (try clear ho0)
 (try clear ho1)
 obtain ⟨Ao58, co58, eo58⟩ := Kd.R_slice HO899.out
 (first | subst eo58 | (injection eo58 with f1_ f2_ f3_; have f4_ := f1_.symm; have f5_ := f3_.symm; clear f1_ f2_ f3_; subst f4_; subst f5_))
 obtain ⟨Ao59, co59, eo59⟩ := Kd.R_slice HO902.out
 (first | subst eo59 | (injection eo59 with f1_ f2_ f3_; have f4_ := f1_.symm; have f5_ := f3_.symm; clear f1_ f2_ f3_; subst f4_; subst f5_))
 refine hK.out _ _ ⟨(blk_cell BK889.out 0).trans rfl, (blk_cell BK889.out 1).trans rfl, (blk_cell BK868.out 0).trans rfl, (blk_cell BK868.out 1).trans rfl⟩ (fun hHeld => ?_)
 clear hK K
 refine norm_ (a' := ?_) ?_ ?_
 rotate_left
 ·
  show Act.put _ (some 46) _ = _
  simp only [Act.put, sb_, sc0_, sc1_, i64_w, i32_w]
  rfl
 refine one_ (i := 3) (N := some 47) #[true, true, true, true, false] rfl rfl (by kernel_rfl) (by decide) (fun K hK => ?_)
 refine goes_ Try.func19 (by kernel_rfl) rfl #[.agg #[.slice Ao46 t883.length co46, .slice Ao49 t886.length co49], .agg #[.slice Ao58 t897.length co58, .slice Ao59 t900.length co59]] (by rfl) rfl rfl az ?_
 with_reducible refine (laws_eqSystem.calls k _ _ t883 _ _ t886 _ _ t897 _ _ t900 true _ ?side1 ?side2 ?side3 ?side4 ?side5 ?side6 ?side7 ?side8 A23.out).mono ?_
 (case side1 => exact cz1 (Kd.R_reads' HO885.out).2.2)
 (case side2 => exact (Kd.R_reads' HO885.out).2.1)
 (case side3 => exact cz1 (Kd.R_reads' HO888.out).2.2)
 (case side4 => exact (Kd.R_reads' HO888.out).2.1)
 (case side5 => exact cz1 (Kd.R_reads' HO899.out).2.2)
 (case side6 => exact (Kd.R_reads' HO899.out).2.1)
 (case side7 => exact cz1 (Kd.R_reads' HO902.out).2.2)
 (case side8 => exact (Kd.R_reads' HO902.out).2.1)
 rintro e w60 ⟨rfl, hb⟩
 refine ⟨_, rfl, ?_⟩
 have n0_ := Aside0.mk (Kd.R_below (ozR HO872) hb)
 have n1_ := Aside0.mk (Kd.R_below (ozR HO875) hb)
 have n2_ := Aside0.mk (Kd.R_below (ozR HO878) hb)
 have n3_ := Aside0.mk (Kd.R_below (ozR HO881) hb)
 have n4_ := Aside0.mk (Kd.R_below (ozR HO885) hb)
 have n5_ := Aside0.mk (Kd.R_below (ozR HO888) hb)
 have n6_ := Aside0.mk (Kd.R_below (ozR HO892) hb)
 have n7_ := Aside0.mk (Kd.R_below (ozR HO895) hb)
 have n8_ := Aside0.mk (Kd.R_below (ozR HO899) hb)
 have n9_ := Aside0.mk (Kd.R_below (ozR HO902) hb)
 have n10_ := Aside0.mk (blk_below (g := gb868) (o := .cells #[.slice A0_0 l0_0.length c0_0, .slice A0_1 l0_1.length c0_1] 25 (0, 0)) (kz BK868) hb)
 have n11_ := Aside0.mk (blk_below (g := gb889) (o := .cells #[.slice Ao46 t883.length co46, .slice Ao49 t886.length co49] 31 (0, 0)) (kz BK889) hb)
 have n12_ := Aside0.mk (below_step (bz2 HB GE868 GE889) hb)
 clear HO872
 clear HO875
 clear HO878
 clear HO881
 clear HO885
 clear HO888
 clear HO892
 clear HO895
 clear HO899
 clear HO902
 clear BK868
 clear BK889
 clear HB
 have HO872 := n0_
 have HO875 := n1_
 have HO878 := n2_
 have HO881 := n3_
 have HO885 := n4_
 have HO888 := n5_
 have HO892 := n6_
 have HO895 := n7_
 have HO899 := n8_
 have HO902 := n9_
 have BK868 := n10_
 have BK889 := n11_
 have HB := n12_
 clear n0_ n1_ n2_ n3_ n4_ n5_ n6_ n7_ n8_ n9_ n10_ n11_ n12_
 (try clear hb)
 (try clear hb2)
 (try clear hk)
 (try clear hi)
 refine hK.out _ _ ⟨(blk_cell BK889.out 0).trans rfl, (blk_cell BK889.out 1).trans rfl, (blk_cell BK868.out 0).trans rfl, (blk_cell BK868.out 1).trans rfl⟩ (fun hHeld => ?_)
 clear hK K
 refine norm_ (a' := ?_) ?_ ?_
 rotate_left
 ·
  show Act.put _ (some 47) _ = _
  simp only [Act.put, sb_, sc0_, sc1_, i64_w, i32_w]
  rfl
 refine pure_ (i := 4) (N := some 48) (v := ?_) (a' := ?_) #[true, true, true, true, true] rfl rfl (by kernel_rfl) (fun _ _ _ h => h) (Or.inl ⟨by rfl, ?_⟩) ?_ ?_
 rotate_left
 ·
  intro w'
  go_simp
  with_reducible rfl
 rotate_left
 ·
  simp only [Act.put, sb_, sc0_, sc1_, i64_w, i32_w]
  rfl
 refine done_ (by kernel_rfl) ?_
 try go_wp2_with (first | ((with_reducible refine gate_callee (f := 27) rfl ?_); refine goesL_ (some 51) rfl rfl Try.func27 (by kernel_rfl) rfl #[.slice A1 l1.length c1] rfl az ?_; (with_reducible refine (laws_toIntS.calls k _ _ l1 t904 _ ?side1 HC1.out A25.out).mono ?_); (case side1 => exact cz HR1 HB); rintro e w61 ⟨v905, rfl, ho0, hb⟩; refine ⟨_, rfl, ?_⟩; have n0_ := Aside0.mk (Kd.R_below (ozR HO872) hb); have n1_ := Aside0.mk (Kd.R_elder' (ozR HO875) (Kd.R_base ho0) hb); have n2_ := Aside0.mk (Kd.R_elder' (ozR HO878) (Kd.R_base ho0) hb); have n3_ := Aside0.mk (Kd.R_elder' (ozR HO881) (Kd.R_base ho0) hb); have n4_ := Aside0.mk (Kd.R_below (ozR HO885) hb); have n5_ := Aside0.mk (Kd.R_elder' (ozR HO888) (Kd.R_base ho0) hb); have n6_ := Aside0.mk (Kd.R_elder' (ozR HO892) (Kd.R_base ho0) hb); have n7_ := Aside0.mk (Kd.R_elder' (ozR HO895) (Kd.R_base ho0) hb); have n8_ := Aside0.mk (Kd.R_below (ozR HO899) hb); have n9_ := Aside0.mk (Kd.R_elder' (ozR HO902) (Kd.R_base ho0) hb); have n10_ := Aside0.mk (Kd.R_lower (Kd.R_new' (Kd.R_new' (Kd.R_new' (Kd.R_new' ho0 (Kd.R_lt (ozR HO878))) (Kd.R_lt (ozR HO881))) (Kd.R_lt (ozR HO892))) (Kd.R_lt (ozR HO895))) (below_size (bz2 HB GE868 GE889))); have n11_ := Aside0.mk (blk_below (g := gb868) (o := .cells #[.slice A0_0 l0_0.length c0_0, .slice A0_1 l0_1.length c0_1] 25 (0, 0)) (kz BK868) hb); have n12_ := Aside0.mk (blk_below (g := gb889) (o := .cells #[.slice Ao46 t883.length co46, .slice Ao49 t886.length co49] 31 (0, 0)) (kz BK889) hb); have n13_ := Aside0.mk (below_step (bz2 HB GE868 GE889) hb); clear HO872; clear HO875; clear HO878; clear HO881; clear HO885; clear HO888; clear HO892; clear HO895; clear HO899; clear HO902; clear BK868; clear BK889; clear HB; have HO872 := n0_; have HO875 := n1_; have HO878 := n2_; have HO881 := n3_; have HO885 := n4_; have HO888 := n5_; have HO892 := n6_; have HO895 := n7_; have HO899 := n8_; have HO902 := n9_; have HO906 := n10_; have BK868 := n11_; have BK889 := n12_; have HB := n13_; clear n0_ n1_ n2_ n3_ n4_ n5_ n6_ n7_ n8_ n9_ n10_ n11_ n12_ n13_; clear hb; (try clear ho0); obtain ⟨Ao62, co62, eo62⟩ := Kd.R_slice HO906.out; subst eo62) | ((with_reducible refine gate_callee (f := 22) rfl ?_); refine goesL_ (some 52) rfl rfl Try.func22 (by kernel_rfl) rfl #[.slice Ao53 t890.length co53, .slice Ao62 t904.length co62] rfl az ?_; (with_reducible refine (laws_eqIntS.calls k _ _ t890 _ _ t904 true _ ?side1 ?side2 ?side3 ?side4 A26.out).mono ?_); (case side1 => exact cz1 (Kd.R_reads' HO892.out).2.2); (case side2 => exact (Kd.R_reads' HO892.out).2.1); (case side3 => exact cz1 (Kd.R_reads' HO906.out).2.2); (case side4 => exact (Kd.R_reads' HO906.out).2.1); rintro e w' ⟨rfl, ⟨nd, rfl⟩⟩; refine ⟨_, rfl, ?_⟩) | ((with_reducible refine gate_callee (f := 27) rfl ?_); refine goesL_ (some 56) rfl rfl Try.func27 (by kernel_rfl) rfl #[.slice A2 l2.length c2] rfl az ?_; (with_reducible refine (laws_toIntS.calls k _ _ l2 t908 _ ?side1 HC2.out A28.out).mono ?_); (case side1 => repeat (first | exact (Kd.C_below HR2.out (bz2 HB GE868 GE889)) | (with_reducible refine Kd.C_alloc ?_ _) | (with_reducible refine Kd.C_drewN ?_ _) | (with_reducible refine Kd.C_drew ?_))); rintro e w63 ⟨v909, rfl, ho0, hb⟩; refine ⟨_, rfl, ?_⟩; have n0_ := Aside0.mk (Kd.R_below (ozR HO872) hb); have n1_ := Aside0.mk (Kd.R_elder' (ozR HO875) (Kd.R_base ho0) hb); have n2_ := Aside0.mk (Kd.R_elder' (ozR HO878) (Kd.R_base ho0) hb); have n3_ := Aside0.mk (Kd.R_elder' (ozR HO881) (Kd.R_base ho0) hb); have n4_ := Aside0.mk (Kd.R_below (ozR HO885) hb); have n5_ := Aside0.mk (Kd.R_elder' (ozR HO888) (Kd.R_base ho0) hb); have n6_ := Aside0.mk (Kd.R_elder' (ozR HO892) (Kd.R_base ho0) hb); have n7_ := Aside0.mk (Kd.R_elder' (ozR HO895) (Kd.R_base ho0) hb); have n8_ := Aside0.mk (Kd.R_below (ozR HO899) hb); have n9_ := Aside0.mk (Kd.R_elder' (ozR HO902) (Kd.R_base ho0) hb); have n10_ := Aside0.mk (Kd.R_elder' (ozR HO906) (Kd.R_base ho0) hb); have n11_ := Aside0.mk (Kd.R_lower (Kd.R_new' (Kd.R_new' (Kd.R_new' (Kd.R_new' (Kd.R_new' ho0 (Kd.R_lt (ozR HO878))) (Kd.R_lt (ozR HO881))) (Kd.R_lt (ozR HO892))) (Kd.R_lt (ozR HO895))) (Kd.R_lt (ozR HO906))) (below_size (bz2 HB GE868 GE889))); have n12_ := Aside0.mk (blk_below (g := gb868) (o := .cells #[.slice A0_0 l0_0.length c0_0, .slice A0_1 l0_1.length c0_1] 25 (0, 0)) (kz BK868) hb); have n13_ := Aside0.mk (blk_below (g := gb889) (o := .cells #[.slice Ao46 t883.length co46, .slice Ao49 t886.length co49] 31 (0, 0)) (kz BK889) hb); have n14_ := Aside0.mk (below_step (bz2 HB GE868 GE889) hb); clear HO872; clear HO875; clear HO878; clear HO881; clear HO885; clear HO888; clear HO892; clear HO895; clear HO899; clear HO902; clear HO906; clear BK868; clear BK889; clear HB; have HO872 := n0_; have HO875 := n1_; have HO878 := n2_; have HO881 := n3_; have HO885 := n4_; have HO888 := n5_; have HO892 := n6_; have HO895 := n7_; have HO899 := n8_; have HO902 := n9_; have HO906 := n10_; have HO910 := n11_; have BK868 := n12_; have BK889 := n13_; have HB := n14_; clear n0_ n1_ n2_ n3_ n4_ n5_ n6_ n7_ n8_ n9_ n10_ n11_ n12_ n13_ n14_; clear hb; (try clear ho0); obtain ⟨Ao64, co64, eo64⟩ := Kd.R_slice HO910.out; subst eo64) | ((with_reducible refine gate_callee (f := 22) rfl ?_); refine goesL_ (some 57) rfl rfl Try.func22 (by kernel_rfl) rfl #[.slice Ao54 t893.length co54, .slice Ao64 t908.length co64] rfl az ?_; (with_reducible refine (laws_eqIntS.calls k _ _ t893 _ _ t908 true _ ?side1 ?side2 ?side3 ?side4 A29.out).mono ?_); (case side1 => exact cz1 (Kd.R_reads' HO895.out).2.2); (case side2 => exact (Kd.R_reads' HO895.out).2.1); (case side3 => exact cz1 (Kd.R_reads' HO910.out).2.2); (case side4 => exact (Kd.R_reads' HO910.out).2.1); rintro e w' ⟨rfl, ⟨nd, rfl⟩⟩; refine ⟨_, rfl, ?_⟩))
 go_ret
 exact ⟨rz, bz2 HB GE868 GE889⟩
end Go.Proofs.Ytoofhjflfpccdaa.PA
