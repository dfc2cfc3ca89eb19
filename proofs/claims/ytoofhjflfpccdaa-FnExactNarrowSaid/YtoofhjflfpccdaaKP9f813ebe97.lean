/- Walks of Go functions: each is shown to answer as the Lean function beside it tells, under the conditions that its theorem names. -/
import Derived.Test.YtoofhjflfpccdaaProg
import Derived.Below
import Derived.Deep.Draws
import Derived.Deep.AppendLies
import Derived.Maps.AppendAt
import Derived.OwnWalk
import Derived.Laws.BytesArg
import Derived.Laws.MakeOwn
import Derived.Laws.OwnMore
import Derived.Deep.OwnRows
import Derived.Tactics
import Derived.Lib.ConvBytes
import Derived.Laws.Slices
import Derived.WalkKit
import Derived.KernelRfl
import Derived.RowKit3
import Derived.Deep.LoopGhost
import Derived.Deep.QuietTactic
import Derived.BigQuiet
import Derived.WideLaws
import Derived.Deep.DeepCutAuto
import Derived.Deep.CutBlock
import Derived.Deep.RegionHeld3
import Derived.Laws.Rows
import Derived.Lib.AppendStr
import Derived.ArgAppend
import Derived.Laws.IdiomCopy
import Derived.OrdersHeld
import Derived.Laws.BitsLemmas
import Derived.RowKit
import Derived.Laws.StructEq
import Derived.Lib.SliceRun
import Derived.WalkSpells
import Derived.ChangeArms
import Derived.ChangeSlices
import Derived.Deep.Slices
import Derived.Test.YtoofhjflfpccdaaKP00c4ffdb54
import Derived.Test.YtoofhjflfpccdaaKP941e95800a
import Derived.Test.YtoofhjflfpccdaaKPc4fc1eba55
namespace Go.Proofs.Ytoofhjflfpccdaa.PA
open Go.RowKit Go.Proofs.YtoofhjflfpccdaaW.PrintWords Go.Proofs.YtoofhjflfpccdaaW.PrintLast Go.Proofs.YtoofhjflfpccdaaW.PrintMore
attribute [local go_sem] max2_int min2_int max_two min_two max_three min_three max_four min_four   -- for this text's walks alone
set_option linter.unusedVariables false
set_option linter.unusedSimpArgs false
set_option maxHeartbeats 8000000 in
set_option maxRecDepth 100000 in
theorem laws_FnExactNarrow.calls (k : Nat) (A0_0 : Option Addr) (c0_0 : Nat) (l0_0 : List (LVar)) (A0_1 : Option Addr) (c0_1 : Nat) (l0_1 : List (LRule)) (r : Bool) (w : World) (hr0_0 : Kd.C k84 w A0_0 l0_0.length l0_0) (hc0_0 : l0_0.length ≤ c0_0) (hr0_1 : Kd.C k75 w A0_1 l0_1.length l0_1) (hc0_1 : l0_1.length ≤ c0_1) (h : laws_FnExactNarrow.f k l0_0 l0_1 = some r) (hr_ : r = true) :
  Calls Try.prog 3 #[.agg #[.slice A0_0 l0_0.length c0_0, .slice A0_1 l0_1.length c0_1]] w fun e w' => e = .returned (.bool r) ∧ Below w.heap.size w w' := by
 have HR_ := Aside0.mk hr_
 clear hr_
 have hu25 := Try.underlying25
 have hu31 := Try.underlying31
 have HR0_0 := Aside0.mk hr0_0
 have HC0_0 := Aside0.mk hc0_0
 clear hr0_0 hc0_0
 have HR0_1 := Aside0.mk hr0_1
 have HC0_1 := Aside0.mk hc0_1
 clear hr0_1 hc0_1
 have HB := Aside0.mk (Below.refl w.heap.size w)
 have H : ((laws_szSystem.f k l0_0 l0_1 1048576).bind fun t346 => (if t346 < 0 then (some true) else ((laws_toSystem.f k l0_0 l0_1).bind fun bt347 => ((spec_Narrow.f k bt347.1 bt347.2).bind fun t353 => ((laws_toSystem.f k l0_0 l0_1).bind fun bt354 => ((impl_Narrow.f k bt354.1 bt354.2).bind fun t361 => (if (t361 != t353) = true then (some false) else ((laws_toSystem.f k l0_0 l0_1).bind fun bt362 => ((laws_eqSystem.f k bt354.1 bt354.2 bt362.1 bt362.2).bind fun t368 => (if t368 = true then (some true) else (some false))))))))))) = some r := h
 clear h
 replace H := Option.bind_eq_some_iff.mp H
 obtain ⟨t346, A20, H⟩ := H
 have A2 := Aside0.mk A20
 clear A20
 by_cases c3 : t346 < 0
 ·
  rw [if_pos c3] at H
  have c3b0 : decide (t346 < 0) = true := decide_eq_true c3
  clear c3
  obtain rfl := Option.some.inj H
  go_enter Try.func3, Try.ntmps3
  go_wp2_with (first | ((with_reducible refine gate_dst (N := 1) rfl ?_); refine box_event ?hg (N := 1) ?hd (cs := #[.slice A0_0 l0_0.length c0_0, .slice A0_1 l0_1.length c0_1]) (t := 25) ?hr ?_; (case hd => rfl); (case hg => rfl); (case hr => first | (go_simp; done) | (go_simp; rfl)); intro gb345 hg w4 hbox hb; have n0_ := Aside0.mk (below_step (bz HB) hb); have n1_ := Aside0.mk (hbox); have n2_ := Aside0.mk ((by rw [hg]; exact (below_size (bz HB)) : w.heap.size ≤ gb345)); have n3_ := Aside0.mk ((by rw [hg]; exact (below_size (bz HB)) : w.heap.size ≤ gb345)); clear HB; have HB := n0_; have BK345 := n1_; have GW345 := n2_; have GE345 := n3_; clear n0_ n1_ n2_ n3_; clear hb hbox hg; have hcz5_0 : w4.cell? ⟨gb345, 0, none⟩ = some (.slice A0_0 l0_0.length c0_0) := (blk_cell BK345.out 0).trans rfl; have hcz5_1 : w4.cell? ⟨gb345, 1, none⟩ = some (.slice A0_1 l0_1.length c0_1) := (blk_cell BK345.out 1).trans rfl; have hfz5_0 := blk_frozen BK345.out 0; have hfz5_1 := blk_frozen BK345.out 1) | ((with_reducible refine gate_callee (f := 15) rfl ?_); refine goesL_ (some 9) rfl rfl Try.func15 (by kernel_rfl) rfl #[.agg #[.slice A0_0 l0_0.length c0_0, .slice A0_1 l0_1.length c0_1], .int .i64 1048576] rfl az ?_; (with_reducible refine (laws_szSystem.calls k _ _ l0_0 _ _ l0_1 1048576 t346 _ ?side1 HC0_0.out ?side3 HC0_1.out A2.out).mono ?_); (case side1 => exact cz HR0_0 HB); (case side3 => exact cz HR0_1 HB); rintro e w6 ⟨rfl, hb⟩; refine ⟨_, rfl, ?_⟩; replace BK345 := Aside0.mk (blk_below (g := gb345) (o := .cells #[.slice A0_0 l0_0.length c0_0, .slice A0_1 l0_1.length c0_1] 25 (0, 0)) (kz BK345) hb); replace HB := Aside0.mk (below_step (bz1 HB GE345) hb); clear hb))
  go_ret
  exact ⟨rz, bz1 HB GE345⟩
 ·
  rw [if_neg c3] at H
  have c3b0 : decide (t346 < 0) = false := decide_eq_false c3
  clear c3
  replace H := Option.bind_eq_some_iff.mp H
  obtain ⟨⟨t347, t350⟩, A70, H⟩ := H
  dsimp only at H
  have A7 := Aside0.mk A70
  clear A70
  replace H := Option.bind_eq_some_iff.mp H
  obtain ⟨t353, A80, H⟩ := H
  have A8 := Aside0.mk A80
  clear A80
  replace H := Option.bind_eq_some_iff.mp H
  obtain ⟨⟨t354, t357⟩, A90, H⟩ := H
  dsimp only at H
  have A9 := Aside0.mk A90
  clear A90
  replace H := Option.bind_eq_some_iff.mp H
  obtain ⟨t361, A100, H⟩ := H
  have A10 := Aside0.mk A100
  clear A100
  by_cases c11 : (t361 != t353) = true
  ·
   rw [if_pos c11] at H
   have c11b0 : (t361 != t353) = true := c11
   (try (have c11b1 : decide (t361 = t353) = false := by simpa using c11))
   (try (have c11b2 : (t361 == t353) = false := by simpa using c11))
   (try (have c11b3 : ¬ (t361 = t353) := by simpa using c11))
   clear c11
   exact absurd ((Option.some.inj H).trans HR_.out) (by decide)
  ·
   rw [if_neg c11] at H
   have c11b0 : (t361 != t353) = false := by simpa using c11
   (try (have c11b1 : decide (t361 = t353) = true := by simpa using c11))
   (try (have c11b2 : (t361 == t353) = true := by simpa using c11))
   clear c11
   replace H := Option.bind_eq_some_iff.mp H
   obtain ⟨⟨t362, t365⟩, A120, H⟩ := H
   dsimp only at H
   have A12 := Aside0.mk A120
   clear A120
   replace H := Option.bind_eq_some_iff.mp H
   obtain ⟨t368, A130, H⟩ := H
   have A13 := Aside0.mk A130
   clear A130
   by_cases c14 : t368 = true
   ·
    subst c14
    rw [if_pos rfl] at H
    obtain rfl := Option.some.inj H
    go_enter Try.func3, Try.ntmps3
    try go_wp2_with (first | ((with_reducible refine gate_dst (N := 1) rfl ?_); refine box_event ?hg (N := 1) ?hd (cs := #[.slice A0_0 l0_0.length c0_0, .slice A0_1 l0_1.length c0_1]) (t := 25) ?hr ?_; (case hd => rfl); (case hg => rfl); (case hr => first | (go_simp; done) | (go_simp; rfl)); intro gb345 hg w15 hbox hb; have n0_ := Aside0.mk (below_step (bz HB) hb); have n1_ := Aside0.mk (hbox); have n2_ := Aside0.mk ((by rw [hg]; exact (below_size (bz HB)) : w.heap.size ≤ gb345)); have n3_ := Aside0.mk ((by rw [hg]; exact (below_size (bz HB)) : w.heap.size ≤ gb345)); clear HB; have HB := n0_; have BK345 := n1_; have GW345 := n2_; have GE345 := n3_; clear n0_ n1_ n2_ n3_; clear hb hbox hg; have hcz16_0 : w15.cell? ⟨gb345, 0, none⟩ = some (.slice A0_0 l0_0.length c0_0) := (blk_cell BK345.out 0).trans rfl; have hcz16_1 : w15.cell? ⟨gb345, 1, none⟩ = some (.slice A0_1 l0_1.length c0_1) := (blk_cell BK345.out 1).trans rfl; have hfz16_0 := blk_frozen BK345.out 0; have hfz16_1 := blk_frozen BK345.out 1) | ((with_reducible refine gate_callee (f := 15) rfl ?_); refine goesL_ (some 9) rfl rfl Try.func15 (by kernel_rfl) rfl #[.agg #[.slice A0_0 l0_0.length c0_0, .slice A0_1 l0_1.length c0_1], .int .i64 1048576] rfl az ?_; (with_reducible refine (laws_szSystem.calls k _ _ l0_0 _ _ l0_1 1048576 t346 _ ?side1 HC0_0.out ?side3 HC0_1.out A2.out).mono ?_); (case side1 => exact cz HR0_0 HB); (case side3 => exact cz HR0_1 HB); rintro e w17 ⟨rfl, hb⟩; refine ⟨_, rfl, ?_⟩; replace BK345 := Aside0.mk (blk_below (g := gb345) (o := .cells #[.slice A0_0 l0_0.length c0_0, .slice A0_1 l0_1.length c0_1] 25 (0, 0)) (kz BK345) hb); replace HB := Aside0.mk (below_step (bz1 HB GE345) hb); clear hb; have hcz18_0 : w17.cell? ⟨gb345, 0, none⟩ = some (.slice A0_0 l0_0.length c0_0) := (blk_cell BK345.out 0).trans rfl; have hcz18_1 : w17.cell? ⟨gb345, 1, none⟩ = some (.slice A0_1 l0_1.length c0_1) := (blk_cell BK345.out 1).trans rfl; have hfz18_0 := blk_frozen BK345.out 0; have hfz18_1 := blk_frozen BK345.out 1) | ((with_reducible refine gate_callee (f := 17) rfl ?_); refine goesL_ (some 13) rfl rfl Try.func17 (by kernel_rfl) rfl #[.agg #[.slice A0_0 l0_0.length c0_0, .slice A0_1 l0_1.length c0_1]] rfl az ?_; (with_reducible refine (laws_toSystem.calls k _ _ l0_0 _ _ l0_1 t347 t350 _ ?side1 HC0_0.out ?side3 HC0_1.out A7.out).mono ?_); (case side1 => exact cz HR0_0 HB); (case side3 => exact cz HR0_1 HB); rintro e w19 ⟨v348, v351, rfl, ho0, ho1, hb⟩; refine ⟨_, rfl, ?_⟩; have HO349 := Aside0.mk (Kd.R_lower ho0 (below_size (bz1 HB GE345))); have HO352 := Aside0.mk (Kd.R_lower ho1 (below_size (bz1 HB GE345))); replace BK345 := Aside0.mk (blk_below (g := gb345) (o := .cells #[.slice A0_0 l0_0.length c0_0, .slice A0_1 l0_1.length c0_1] 25 (0, 0)) (kz BK345) hb); replace HB := Aside0.mk (below_step (bz1 HB GE345) hb); clear hb; (try clear ho0); (try clear ho1); obtain ⟨Ao20, co20, eo20⟩ := Kd.R_slice HO349.out; subst eo20; obtain ⟨Ao21, co21, eo21⟩ := Kd.R_slice HO352.out; subst eo21) | ((with_reducible refine gate_callee (f := 16) rfl ?_); refine goesL_ (some 14) rfl rfl Try.func16 (by kernel_rfl) rfl #[.agg #[.slice Ao20 t347.length co20, .slice Ao21 t350.length co21]] rfl az ?_; (with_reducible refine (spec_Narrow.calls k _ _ t347 _ _ t350 t353 _ ?side1 ?side2 ?side3 ?side4 A8.out).mono ?_); (case side1 => exact cz1 (Kd.R_reads' HO349.out).2.2); (case side2 => exact (Kd.R_reads' HO349.out).2.1); (case side3 => exact cz1 (Kd.R_reads' HO352.out).2.2); (case side4 => exact (Kd.R_reads' HO352.out).2.1); rintro e w22 ⟨rfl, hb⟩; refine ⟨_, rfl, ?_⟩; replace HO349 := Aside0.mk (Kd.R_below (ozR HO349) hb); replace HO352 := Aside0.mk (Kd.R_below (ozR HO352) hb); replace BK345 := Aside0.mk (blk_below (g := gb345) (o := .cells #[.slice A0_0 l0_0.length c0_0, .slice A0_1 l0_1.length c0_1] 25 (0, 0)) (kz BK345) hb); replace HB := Aside0.mk (below_step (bz1 HB GE345) hb); clear hb; have hcz23_0 : w22.cell? ⟨gb345, 0, none⟩ = some (.slice A0_0 l0_0.length c0_0) := (blk_cell BK345.out 0).trans rfl; have hcz23_1 : w22.cell? ⟨gb345, 1, none⟩ = some (.slice A0_1 l0_1.length c0_1) := (blk_cell BK345.out 1).trans rfl; have hfz23_0 := blk_frozen BK345.out 0; have hfz23_1 := blk_frozen BK345.out 1) | ((with_reducible refine gate_callee (f := 17) rfl ?_); refine goesL_ (some 16) rfl rfl Try.func17 (by kernel_rfl) rfl #[.agg #[.slice A0_0 l0_0.length c0_0, .slice A0_1 l0_1.length c0_1]] rfl az ?_; (with_reducible refine (laws_toSystem.calls k _ _ l0_0 _ _ l0_1 t354 t357 _ ?side1 HC0_0.out ?side3 HC0_1.out A9.out).mono ?_); (case side1 => exact cz HR0_0 HB); (case side3 => exact cz HR0_1 HB); rintro e w24 ⟨v355, v358, rfl, ho0, ho1, hb⟩; refine ⟨_, rfl, ?_⟩; have n0_ := Aside0.mk (Kd.R_elder' (ozR HO349) (Kd.R_base ho0) hb); have n1_ := Aside0.mk (Kd.R_elder' (ozR HO352) (Kd.R_base ho1) hb); have n2_ := Aside0.mk (Kd.R_lower (Kd.R_new' ho0 (Kd.R_lt (ozR HO349))) (below_size (bz1 HB GE345))); have n3_ := Aside0.mk (Kd.R_lower (Kd.R_new' ho1 (Kd.R_lt (ozR HO352))) (below_size (bz1 HB GE345))); have n4_ := Aside0.mk (blk_below (g := gb345) (o := .cells #[.slice A0_0 l0_0.length c0_0, .slice A0_1 l0_1.length c0_1] 25 (0, 0)) (kz BK345) hb); have n5_ := Aside0.mk (below_step (bz1 HB GE345) hb); clear HO349; clear HO352; clear BK345; clear HB; have HO349 := n0_; have HO352 := n1_; have HO356 := n2_; have HO359 := n3_; have BK345 := n4_; have HB := n5_; clear n0_ n1_ n2_ n3_ n4_ n5_; clear hb; (try clear ho0); (try clear ho1)) | ((with_reducible refine gate_dst (N := 5) rfl ?_); refine box_event ?hg (N := 5) ?hd (cs := #[.slice none 0 0, .slice none 0 0]) (t := 31) ?hr ?_; (case hd => rfl); (case hg => rfl); (case hr => first | (go_simp; done) | (go_simp; rfl)); intro gb360 hg w25 hbox hb; have n0_ := Aside0.mk (Kd.R_below (ozR HO349) hb); have n1_ := Aside0.mk (Kd.R_below (ozR HO352) hb); have n2_ := Aside0.mk (Kd.R_below (ozR HO356) hb); have n3_ := Aside0.mk (Kd.R_below (ozR HO359) hb); have n4_ := Aside0.mk (blk_below (g := gb345) (o := .cells #[.slice A0_0 l0_0.length c0_0, .slice A0_1 l0_1.length c0_1] 25 (0, 0)) (kz BK345) hb); have n5_ := Aside0.mk (below_step (bz1 HB GE345) hb); have n6_ := Aside0.mk (hbox); have n7_ := Aside0.mk ((by rw [hg]; exact (below_size (bz1 HB GE345)) : w.heap.size ≤ gb360)); have n8_ := Aside0.mk ((by rw [hg]; exact (below_size (bz1 HB GE345)) : w.heap.size ≤ gb360)); have n9_ := Aside0.mk ((by rw [hg]; exact Nat.ne_of_lt (blk_lt (g := gb345) (o := .cells #[.slice A0_0 l0_0.length c0_0, .slice A0_1 l0_1.length c0_1] 25 (0, 0)) (kz BK345)) : gb345 ≠ gb360)); have n10_ := Aside0.mk ((by rw [hg]; exact Nat.ne_of_gt (blk_lt (g := gb345) (o := .cells #[.slice A0_0 l0_0.length c0_0, .slice A0_1 l0_1.length c0_1] 25 (0, 0)) (kz BK345)) : gb360 ≠ gb345)); clear HO349; clear HO352; clear HO356; clear HO359; clear BK345; clear HB; have HO349 := n0_; have HO352 := n1_; have HO356 := n2_; have HO359 := n3_; have BK345 := n4_; have HB := n5_; have BK360 := n6_; have GW360 := n7_; have GE360 := n8_; have NB345_360 := n9_; have NB360_345 := n10_; clear n0_ n1_ n2_ n3_ n4_ n5_ n6_ n7_ n8_ n9_ n10_; clear hb hbox hg; obtain ⟨Ao26, co26, eo26⟩ := Kd.R_slice HO356.out; subst eo26; have hnb27 := NB360_345.out; have hnc27 := NB345_360.out; have hcz28_0 : w25.cell? ⟨gb360, 0, none⟩ = some (.slice none 0 0) := (blk_cell BK360.out 0).trans rfl; have hcz28_1 : w25.cell? ⟨gb360, 1, none⟩ = some (.slice none 0 0) := (blk_cell BK360.out 1).trans rfl; have hfz28_0 := blk_frozen BK360.out 0; have hfz28_1 := blk_frozen BK360.out 1; obtain ⟨Ao29, co29, eo29⟩ := Kd.R_slice HO359.out; subst eo29) | ((with_reducible refine gate_callee (f := 18) rfl ?_); refine goesL_ (some 18) rfl rfl Try.func18 (by kernel_rfl) rfl #[.agg #[.slice Ao26 t354.length co26, .slice Ao29 t357.length co29]] rfl az ?_; (with_reducible refine (impl_Narrow.calls k _ _ t354 _ _ t357 t361 _ ?side1 ?side2 ?side3 ?side4 A10.out).mono ?_); (case side1 => refine (Kd.R_reads' (e := 62) (base := w.heap.size) (ok := fun k_ => (True ∧ some k_ ≠ (.slice Ao20 t347.length co20 : Value).ownBlock)) (n := t354.length) (c := co26) ?_).2.2; exact (by (with_reducible repeat (first | apply Kd.R_alloc | apply Kd.R_drewN | apply Kd.R_drew)); exact (Kd.R_mono (Kd.R_far (p := ⟨gb360, 1, none⟩) (Kd.R_far (p := ⟨gb360, 0, none⟩) (Kd.R_types HO356.out BK360.out (by decide)) (fun _ hk => hk.2) (.slice Ao26 t354.length co26)) (fun _ hk => hk.2) (.slice Ao29 t357.length co29)) (fun _ h_ => h_.1)))); (case side2 => exact (Kd.R_reads' HO356.out).2.1); (case side3 => refine (Kd.R_reads' (e := 81) (base := w.heap.size) (ok := fun k_ => (True ∧ some k_ ≠ (.slice Ao21 t350.length co21 : Value).ownBlock)) (n := t357.length) (c := co29) ?_).2.2; exact (by (with_reducible repeat (first | apply Kd.R_alloc | apply Kd.R_drewN | apply Kd.R_drew)); exact (Kd.R_mono (Kd.R_far (p := ⟨gb360, 1, none⟩) (Kd.R_far (p := ⟨gb360, 0, none⟩) (Kd.R_types HO359.out BK360.out (by decide)) (fun _ hk => hk.2) (.slice Ao26 t354.length co26)) (fun _ hk => hk.2) (.slice Ao29 t357.length co29)) (fun _ h_ => h_.1)))); (case side4 => exact (Kd.R_reads' HO359.out).2.1); rintro e w30 ⟨rfl, hb⟩; refine ⟨_, rfl, ?_⟩; replace HO349 := Aside0.mk (Kd.R_below (by (with_reducible repeat (first | apply Kd.R_alloc | apply Kd.R_drewN | apply Kd.R_drew)); exact (Kd.R_mono (Kd.R_far (p := ⟨gb360, 1, none⟩) (Kd.R_far (p := ⟨gb360, 0, none⟩) (Kd.R_types HO349.out BK360.out (by decide)) (fun _ hk => hk.2) (.slice Ao26 t354.length co26)) (fun _ hk => hk.2) (.slice Ao29 t357.length co29)) (fun _ h_ => h_.1))) hb); replace HO352 := Aside0.mk (Kd.R_below (by (with_reducible repeat (first | apply Kd.R_alloc | apply Kd.R_drewN | apply Kd.R_drew)); exact (Kd.R_mono (Kd.R_far (p := ⟨gb360, 1, none⟩) (Kd.R_far (p := ⟨gb360, 0, none⟩) (Kd.R_types HO352.out BK360.out (by decide)) (fun _ hk => hk.2) (.slice Ao26 t354.length co26)) (fun _ hk => hk.2) (.slice Ao29 t357.length co29)) (fun _ h_ => h_.1))) hb); replace HO356 := Aside0.mk (Kd.R_below (by (with_reducible repeat (first | apply Kd.R_alloc | apply Kd.R_drewN | apply Kd.R_drew)); exact (Kd.R_mono (Kd.R_far (p := ⟨gb360, 1, none⟩) (Kd.R_far (p := ⟨gb360, 0, none⟩) (Kd.R_types HO356.out BK360.out (by decide)) (fun _ hk => hk.2) (.slice Ao26 t354.length co26)) (fun _ hk => hk.2) (.slice Ao29 t357.length co29)) (fun _ h_ => h_.1))) hb); replace HO359 := Aside0.mk (Kd.R_below (by (with_reducible repeat (first | apply Kd.R_alloc | apply Kd.R_drewN | apply Kd.R_drew)); exact (Kd.R_mono (Kd.R_far (p := ⟨gb360, 1, none⟩) (Kd.R_far (p := ⟨gb360, 0, none⟩) (Kd.R_types HO359.out BK360.out (by decide)) (fun _ hk => hk.2) (.slice Ao26 t354.length co26)) (fun _ hk => hk.2) (.slice Ao29 t357.length co29)) (fun _ h_ => h_.1))) hb); replace BK345 := Aside0.mk (blk_below (g := gb345) (o := .cells #[.slice A0_0 l0_0.length c0_0, .slice A0_1 l0_1.length c0_1] 25 (0, 0)) (by (with_reducible repeat (first | refine blk_drewN ?_ _ | refine blk_drew ?_ | refine blk_alloc ?_ _)); refine blk_far ?_ NB345_360.out _; (with_reducible repeat (first | refine blk_drewN ?_ _ | refine blk_drew ?_ | refine blk_alloc ?_ _)); refine blk_far ?_ NB345_360.out _; exact kz BK345) hb); replace BK360 := Aside0.mk (blk_below (g := gb360) (o := .cells #[.slice Ao26 t354.length co26, .slice Ao29 t357.length co29] 31 (0, 0)) (by (with_reducible repeat (first | refine blk_drewN ?_ _ | refine blk_drew ?_ | refine blk_alloc ?_ _)); refine blk_put (cs := #[.slice Ao26 t354.length co26, .slice none 0 0]) ?_ 1 _ rfl; (with_reducible repeat (first | refine blk_drewN ?_ _ | refine blk_drew ?_ | refine blk_alloc ?_ _)); refine blk_put (cs := #[.slice none 0 0, .slice none 0 0]) ?_ 0 _ rfl; exact kz BK360) hb); replace HB := Aside0.mk (below_step (bz2 HB GE345 GE360) hb); clear hb; (try clear hk)))
    have n0_ := Aside0.mk (Kd.R_drew HO349.out)
    have n1_ := Aside0.mk (Kd.R_drew HO352.out)
    have n2_ := Aside0.mk (Kd.R_drew HO356.out)
    have n3_ := Aside0.mk (Kd.R_drew HO359.out)
    have n4_ := Aside0.mk (blk_drew BK345.out)
    have n5_ := Aside0.mk (blk_drew BK360.out)
    have n6_ := Aside0.mk (below_drew1 HB.out)
    clear HO349
    clear HO352
    clear HO356
    clear HO359
    clear BK345
    clear BK360
    clear HB
    have HO349 := n0_
    have HO352 := n1_
    have HO356 := n2_
    have HO359 := n3_
    have BK345 := n4_
    have BK360 := n5_
    have HB := n6_
    clear n0_ n1_ n2_ n3_ n4_ n5_ n6_
    refine start_ (n := 5) (S := fun w' => w'.cell? ⟨gb360, 0, none⟩ = some (.slice Ao26 t354.length co26) ∧ w'.cell? ⟨gb360, 1, none⟩ = some (.slice Ao29 t357.length co29) ∧ w'.cell? ⟨gb345, 0, none⟩ = some (.slice A0_0 l0_0.length c0_0) ∧ w'.cell? ⟨gb345, 1, none⟩ = some (.slice A0_1 l0_1.length c0_1)) (ds := []) #[false, false, false, false, false] (by kernel_rfl) rfl rfl ⟨(blk_cell BK360.out 0).trans rfl, (blk_cell BK360.out 1).trans rfl, (blk_cell BK345.out 0).trans rfl, (blk_cell BK345.out 1).trans rfl⟩ (fun hHeld => ?_)
    generalize w30.drew = w31 at HO349 HO352 HO356 HO359 BK345 BK360 HB hHeld ⊢
    refine take_ (i := 0) (N := some 22) (v := ?_) (a' := ?_) #[true, false, false, false, false] rfl rfl (by kernel_rfl) (fun _ _ _ h => h) (Or.inl ⟨by rfl, ?_⟩) hHeld ?_ ?_
    rotate_left
    ·
     rintro w' ⟨s0, s1, s2, s3⟩
     go_simp
     with_reducible rfl
    rotate_left
    ·
     simp only [Act.put, sb_, sc0_, sc1_, i64_w, i32_w]
     rfl
    refine take_ (i := 1) (N := some 23) (v := ?_) (a' := ?_) #[true, true, false, false, false] rfl rfl (by kernel_rfl) (fun _ _ _ h => h) (Or.inl ⟨by rfl, ?_⟩) hHeld ?_ ?_
    rotate_left
    ·
     rintro w' ⟨s0, s1, s2, s3⟩
     go_simp
     with_reducible rfl
    rotate_left
    ·
     simp only [Act.put, sb_, sc0_, sc1_, i64_w, i32_w]
     rfl
    refine one_ (i := 2) (N := some 24) #[true, true, true, false, false] rfl rfl (by kernel_rfl) (by decide) (fun K hK => ?_)
    refine goes_ Try.func17 (by kernel_rfl) rfl #[.agg #[.slice A0_0 l0_0.length c0_0, .slice A0_1 l0_1.length c0_1]] (by rfl) rfl rfl az ?_
    with_reducible refine (laws_toSystem.calls k _ _ l0_0 _ _ l0_1 t362 t365 _ ?side1 ?side2 ?side3 ?side4 A12.out).mono ?_
    (case side1 => exact cz HR0_0 HB)
    (case side2 => exact HC0_0.out)
    (case side3 => exact cz HR0_1 HB)
    (case side4 => exact HC0_1.out)
    rintro e w32 ⟨v363, v366, rfl, ho0, ho1, hb⟩
    refine ⟨_, rfl, ?_⟩
    have n0_ := Aside0.mk (Kd.R_elder' (ozR HO349) (Kd.R_base ho0) hb)
    have n1_ := Aside0.mk (Kd.R_elder' (ozR HO352) (Kd.R_base ho1) hb)
    have n2_ := Aside0.mk (Kd.R_elder' (ozR HO356) (Kd.R_base ho0) hb)
    have n3_ := Aside0.mk (Kd.R_elder' (ozR HO359) (Kd.R_base ho1) hb)
    have n4_ := Aside0.mk (Kd.R_lower (Kd.R_new' (Kd.R_new' ho0 (Kd.R_lt (ozR HO349))) (Kd.R_lt (ozR HO356))) (below_size (bz2 HB GE345 GE360)))
    have n5_ := Aside0.mk (Kd.R_lower (Kd.R_new' (Kd.R_new' ho1 (Kd.R_lt (ozR HO352))) (Kd.R_lt (ozR HO359))) (below_size (bz2 HB GE345 GE360)))
    have n6_ := Aside0.mk (blk_below (g := gb345) (o := .cells #[.slice A0_0 l0_0.length c0_0, .slice A0_1 l0_1.length c0_1] 25 (0, 0)) (kz BK345) hb)
    have n7_ := Aside0.mk (blk_below (g := gb360) (o := .cells #[.slice Ao26 t354.length co26, .slice Ao29 t357.length co29] 31 (0, 0)) (kz BK360) hb)
    have n8_ := Aside0.mk (below_step (bz2 HB GE345 GE360) hb)
    clear HO349
    clear HO352
    clear HO356
    clear HO359
    clear BK345
    clear BK360
    clear HB
    have HO349 := n0_
    have HO352 := n1_
    have HO356 := n2_
    have HO359 := n3_
    have HO364 := n4_
    have HO367 := n5_
    have BK345 := n6_
    have BK360 := n7_
    have HB := n8_
    clear n0_ n1_ n2_ n3_ n4_ n5_ n6_ n7_ n8_
    (try clear hb)
    (try clear hb2)
    (try clear hk)
    (try clear hi)
    (try clear ho0)
    (try clear ho1)
    obtain ⟨Ao33, co33, eo33⟩ := Kd.R_slice HO364.out
    (first | subst eo33 | (injection eo33 with f1_ f2_ f3_; have f4_ := f1_.symm; have f5_ := f3_.symm; clear f1_ f2_ f3_; subst f4_; subst f5_))
    obtain ⟨Ao34, co34, eo34⟩ := Kd.R_slice HO367.out
    (first | subst eo34 | (injection eo34 with f1_ f2_ f3_; have f4_ := f1_.symm; have f5_ := f3_.symm; clear f1_ f2_ f3_; subst f4_; subst f5_))
    refine hK.out _ _ ⟨(blk_cell BK360.out 0).trans rfl, (blk_cell BK360.out 1).trans rfl, (blk_cell BK345.out 0).trans rfl, (blk_cell BK345.out 1).trans rfl⟩ (fun hHeld => ?_)
    clear hK K
    refine norm_ (a' := ?_) ?_ ?_
    rotate_left
    ·
     show Act.put _ (some 24) _ = _
     simp only [Act.put, sb_, sc0_, sc1_, i64_w, i32_w]
     rfl
    refine one_ (i := 3) (N := some 25) #[true, true, true, true, false] rfl rfl (by kernel_rfl) (by decide) (fun K hK => ?_)
    refine goes_ Try.func19 (by kernel_rfl) rfl #[.agg #[.slice Ao26 t354.length co26, .slice Ao29 t357.length co29], .agg #[.slice Ao33 t362.length co33, .slice Ao34 t365.length co34]] (by rfl) rfl rfl az ?_
    with_reducible refine (laws_eqSystem.calls k _ _ t354 _ _ t357 _ _ t362 _ _ t365 true _ ?side1 ?side2 ?side3 ?side4 ?side5 ?side6 ?side7 ?side8 A13.out).mono ?_
    (case side1 => exact cz1 (Kd.R_reads' HO356.out).2.2)
    (case side2 => exact (Kd.R_reads' HO356.out).2.1)
    (case side3 => exact cz1 (Kd.R_reads' HO359.out).2.2)
    (case side4 => exact (Kd.R_reads' HO359.out).2.1)
    (case side5 => exact cz1 (Kd.R_reads' HO364.out).2.2)
    (case side6 => exact (Kd.R_reads' HO364.out).2.1)
    (case side7 => exact cz1 (Kd.R_reads' HO367.out).2.2)
    (case side8 => exact (Kd.R_reads' HO367.out).2.1)
    rintro e w35 ⟨rfl, hb⟩
    refine ⟨_, rfl, ?_⟩
    have n0_ := Aside0.mk (Kd.R_below (ozR HO349) hb)
    have n1_ := Aside0.mk (Kd.R_below (ozR HO352) hb)
    have n2_ := Aside0.mk (Kd.R_below (ozR HO356) hb)
    have n3_ := Aside0.mk (Kd.R_below (ozR HO359) hb)
    have n4_ := Aside0.mk (Kd.R_below (ozR HO364) hb)
    have n5_ := Aside0.mk (Kd.R_below (ozR HO367) hb)
    have n6_ := Aside0.mk (blk_below (g := gb345) (o := .cells #[.slice A0_0 l0_0.length c0_0, .slice A0_1 l0_1.length c0_1] 25 (0, 0)) (kz BK345) hb)
    have n7_ := Aside0.mk (blk_below (g := gb360) (o := .cells #[.slice Ao26 t354.length co26, .slice Ao29 t357.length co29] 31 (0, 0)) (kz BK360) hb)
    have n8_ := Aside0.mk (below_step (bz2 HB GE345 GE360) hb)
    clear HO349
    clear HO352
    clear HO356
    clear HO359
    clear HO364
    clear HO367
    clear BK345
    clear BK360
    clear HB
    have HO349 := n0_
    have HO352 := n1_
    have HO356 := n2_
    have HO359 := n3_
    have HO364 := n4_
    have HO367 := n5_
    have BK345 := n6_
    have BK360 := n7_
    have HB := n8_
    clear n0_ n1_ n2_ n3_ n4_ n5_ n6_ n7_ n8_
    (try clear hb)
    (try clear hb2)
    (try clear hk)
    (try clear hi)
    refine hK.out _ _ ⟨(blk_cell BK360.out 0).trans rfl, (blk_cell BK360.out 1).trans rfl, (blk_cell BK345.out 0).trans rfl, (blk_cell BK345.out 1).trans rfl⟩ (fun hHeld => ?_)
    clear hK K
    refine norm_ (a' := ?_) ?_ ?_
    rotate_left
    ·
     show Act.put _ (some 25) _ = _
     simp only [Act.put, sb_, sc0_, sc1_, i64_w, i32_w]
     rfl
    refine pure_ (i := 4) (N := some 26) (v := ?_) (a' := ?_) #[true, true, true, true, true] rfl rfl (by kernel_rfl) (fun _ _ _ h => h) (Or.inl ⟨by rfl, ?_⟩) ?_ ?_
    rotate_left
    ·
     intro w'
     go_simp
     with_reducible rfl
    rotate_left
    ·
     simp only [Act.put, sb_, sc0_, sc1_, i64_w, i32_w]
     rfl
    refine done_ (by kernel_rfl) ?_
    try go_wp2
    go_ret
    exact ⟨rz, bz2 HB GE345 GE360⟩
   ·
    replace c14 := Bool.eq_false_iff.mpr c14
    subst c14
    rw [if_neg nt_] at H
    exact absurd ((Option.some.inj H).trans HR_.out) (by decide)
end Go.Proofs.Ytoofhjflfpccdaa.PA
