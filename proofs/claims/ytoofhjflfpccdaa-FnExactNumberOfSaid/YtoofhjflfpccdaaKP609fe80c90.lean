/- Walks of Go functions: each is shown to answer as the Lean function beside it tells, under the conditions that its theorem names. -/
import Derived.Test.YtoofhjflfpccdaaProg
import Derived.Below
import Derived.Deep.Draws
import Derived.Deep.AppendLies
import Derived.Maps.AppendAt
import Derived.OwnWalk
import Derived.Laws.BytesArg
import Derived.Laws.MakeOwn
import Derived.Laws.OwnMore
import Derived.Deep.OwnRows
import Derived.Tactics
import Derived.Lib.ConvBytes
import Derived.Laws.Slices
import Derived.WalkKit
import Derived.KernelRfl
import Derived.RowKit3
import Derived.Deep.LoopGhost
import Derived.Deep.QuietTactic
import Derived.BigQuiet
import Derived.WideLaws
import Derived.Deep.DeepCutAuto
import Derived.Deep.CutBlock
import Derived.Deep.RegionHeld3
import Derived.Laws.Rows
import Derived.Lib.AppendStr
import Derived.ArgAppend
import Derived.Laws.IdiomCopy
import Derived.OrdersHeld
import Derived.Laws.BitsLemmas
import Derived.RowKit
import Derived.Laws.StructEq
import Derived.Lib.SliceRun
import Derived.WalkSpells
import Derived.ChangeArms
import Derived.ChangeSlices
import Derived.Deep.Slices
import Derived.Test.YtoofhjflfpccdaaKP8ce67fc5dd
import Derived.Test.YtoofhjflfpccdaaKP2c578f3cc3
import Derived.Test.YtoofhjflfpccdaaKP14a0f4c454
namespace Go.Proofs.Ytoofhjflfpccdaa.PA
open Go.RowKit Go.Proofs.YtoofhjflfpccdaaW.PrintWords Go.Proofs.YtoofhjflfpccdaaW.PrintLast Go.Proofs.YtoofhjflfpccdaaW.PrintMore
attribute [local go_sem] max2_int min2_int max_two min_two max_three min_three max_four min_four   -- for this text's walks alone
set_option linter.unusedVariables false
set_option linter.unusedSimpArgs false
set_option maxHeartbeats 8000000 in
set_option maxRecDepth 100000 in
theorem laws_FnExactNumberOf.calls (k : Nat) (A0_0 : Option Addr) (c0_0 : Nat) (l0_0 : List (LVar)) (A0_1 : Option Addr) (c0_1 : Nat) (l0_1 : List (LRule)) (A1 : Option Addr) (c1 : Nat) (l1 : List Int) (r : Bool) (w : World) (hr0_0 : Kd.C k84 w A0_0 l0_0.length l0_0) (hc0_0 : l0_0.length ≤ c0_0) (hr0_1 : Kd.C k75 w A0_1 l0_1.length l0_1) (hc0_1 : l0_1.length ≤ c0_1) (hr1 : Kd.C (Kd.int .i64) w A1 l1.length l1) (hc1 : l1.length ≤ c1) (h : laws_FnExactNumberOf.f k l0_0 l0_1 l1 = some r) (hr_ : r = true) :
  Calls Try.prog 5 #[.agg #[.slice A0_0 l0_0.length c0_0, .slice A0_1 l0_1.length c0_1], .slice A1 l1.length c1] w fun e w' => e = .returned (.bool r) ∧ Below w.heap.size w w' := by
 have HR_ := Aside0.mk hr_
 clear hr_
 have hu25 := Try.underlying25
 have hu31 := Try.underlying31
 have HR0_0 := Aside0.mk hr0_0
 have HC0_0 := Aside0.mk hc0_0
 clear hr0_0 hc0_0
 have HR0_1 := Aside0.mk hr0_1
 have HC0_1 := Aside0.mk hc0_1
 clear hr0_1 hc0_1
 have HR1 := Aside0.mk hr1
 have HC1 := Aside0.mk hc1
 clear hr1 hc1
 have HB := Aside0.mk (Below.refl w.heap.size w)
 have H : (if (l1.length : Int) > 1048576 then (some true) else ((laws_szSystem.f k l0_0 l0_1 1048576).bind fun t467 => (if t467 < 0 then (some true) else ((laws_toSystem.f k l0_0 l0_1).bind fun bt468 => ((laws_toIntS.f k l1).bind fun t474 => ((spec_NumberOf.f k bt468.1 bt468.2 t474).bind fun t477 => ((laws_toSystem.f k l0_0 l0_1).bind fun bt478 => ((laws_toIntS.f k l1).bind fun t485 => ((impl_NumberOf.f k bt478.1 bt478.2 t485).bind fun t488 => (if t488 = t477 then ((laws_toSystem.f k l0_0 l0_1).bind fun bt489 => ((laws_eqSystem.f k bt478.1 bt478.2 bt489.1 bt489.2).bind fun t495 => (if t495 = true then ((laws_toIntS.f k l1).bind fun t496 => ((laws_eqIntS.f k t485 t496).bind fun t499 => (if t499 = true then (some true) else (some false)))) else (some false)))) else (some false))))))))))) = some r := h
 clear h
 by_cases c3 : (l1.length : Int) > 1048576
 ·
  rw [if_pos c3] at H
  have c3b0 : decide (1048576 < (l1.length : Int)) = true := decide_eq_true c3
  have c3b1 : decide (1048576 < l1.length) = true := decide_eq_true (by omega)
  clear c3
  obtain rfl := Option.some.inj H
  go_enter Try.func5, Try.ntmps5
  go_wp2_with (first | ((with_reducible refine gate_dst (N := 2) rfl ?_); refine box_event ?hg (N := 2) ?hd (cs := #[.slice A0_0 l0_0.length c0_0, .slice A0_1 l0_1.length c0_1]) (t := 25) ?hr ?_; (case hd => rfl); (case hg => rfl); (case hr => first | (go_simp; done) | (go_simp; rfl)); intro gb466 hg w4 hbox hb; have n0_ := Aside0.mk (below_step (bz HB) hb); have n1_ := Aside0.mk (hbox); have n2_ := Aside0.mk ((by rw [hg]; exact (below_size (bz HB)) : w.heap.size ≤ gb466)); have n3_ := Aside0.mk ((by rw [hg]; exact (below_size (bz HB)) : w.heap.size ≤ gb466)); clear HB; have HB := n0_; have BK466 := n1_; have GW466 := n2_; have GE466 := n3_; clear n0_ n1_ n2_ n3_; clear hb hbox hg))
  go_ret
  exact ⟨rz, bz1 HB GE466⟩
 ·
  rw [if_neg c3] at H
  have c3b0 : decide (1048576 < (l1.length : Int)) = false := decide_eq_false c3
  have c3b1 : decide (1048576 < l1.length) = false := decide_eq_false (by omega)
  clear c3
  replace H := Option.bind_eq_some_iff.mp H
  obtain ⟨t467, A50, H⟩ := H
  have A5 := Aside0.mk A50
  clear A50
  by_cases c6 : t467 < 0
  ·
   rw [if_pos c6] at H
   have c6b0 : decide (t467 < 0) = true := decide_eq_true c6
   clear c6
   obtain rfl := Option.some.inj H
   go_enter Try.func5, Try.ntmps5
   go_wp2_with (first | ((with_reducible refine gate_dst (N := 2) rfl ?_); refine box_event ?hg (N := 2) ?hd (cs := #[.slice A0_0 l0_0.length c0_0, .slice A0_1 l0_1.length c0_1]) (t := 25) ?hr ?_; (case hd => rfl); (case hg => rfl); (case hr => first | (go_simp; done) | (go_simp; rfl)); intro gb466 hg w7 hbox hb; have n0_ := Aside0.mk (below_step (bz HB) hb); have n1_ := Aside0.mk (hbox); have n2_ := Aside0.mk ((by rw [hg]; exact (below_size (bz HB)) : w.heap.size ≤ gb466)); have n3_ := Aside0.mk ((by rw [hg]; exact (below_size (bz HB)) : w.heap.size ≤ gb466)); clear HB; have HB := n0_; have BK466 := n1_; have GW466 := n2_; have GE466 := n3_; clear n0_ n1_ n2_ n3_; clear hb hbox hg; have hcz8_0 : w7.cell? ⟨gb466, 0, none⟩ = some (.slice A0_0 l0_0.length c0_0) := (blk_cell BK466.out 0).trans rfl; have hcz8_1 : w7.cell? ⟨gb466, 1, none⟩ = some (.slice A0_1 l0_1.length c0_1) := (blk_cell BK466.out 1).trans rfl; have hfz8_0 := blk_frozen BK466.out 0; have hfz8_1 := blk_frozen BK466.out 1) | ((with_reducible refine gate_callee (f := 15) rfl ?_); refine goesL_ (some 15) rfl rfl Try.func15 (by kernel_rfl) rfl #[.agg #[.slice A0_0 l0_0.length c0_0, .slice A0_1 l0_1.length c0_1], .int .i64 1048576] rfl az ?_; (with_reducible refine (laws_szSystem.calls k _ _ l0_0 _ _ l0_1 1048576 t467 _ ?side1 HC0_0.out ?side3 HC0_1.out A5.out).mono ?_); (case side1 => exact cz HR0_0 HB); (case side3 => exact cz HR0_1 HB); rintro e w9 ⟨rfl, hb⟩; refine ⟨_, rfl, ?_⟩; replace BK466 := Aside0.mk (blk_below (g := gb466) (o := .cells #[.slice A0_0 l0_0.length c0_0, .slice A0_1 l0_1.length c0_1] 25 (0, 0)) (kz BK466) hb); replace HB := Aside0.mk (below_step (bz1 HB GE466) hb); clear hb))
   go_ret
   exact ⟨rz, bz1 HB GE466⟩
  ·
   rw [if_neg c6] at H
   have c6b0 : decide (t467 < 0) = false := decide_eq_false c6
   clear c6
   replace H := Option.bind_eq_some_iff.mp H
   obtain ⟨⟨t468, t471⟩, A100, H⟩ := H
   dsimp only at H
   have A10 := Aside0.mk A100
   clear A100
   replace H := Option.bind_eq_some_iff.mp H
   obtain ⟨t474, A110, H⟩ := H
   have A11 := Aside0.mk A110
   clear A110
   replace H := Option.bind_eq_some_iff.mp H
   obtain ⟨t477, A120, H⟩ := H
   have A12 := Aside0.mk A120
   clear A120
   replace H := Option.bind_eq_some_iff.mp H
   obtain ⟨⟨t478, t481⟩, A130, H⟩ := H
   dsimp only at H
   have A13 := Aside0.mk A130
   clear A130
   replace H := Option.bind_eq_some_iff.mp H
   obtain ⟨t485, A140, H⟩ := H
   have A14 := Aside0.mk A140
   clear A140
   replace H := Option.bind_eq_some_iff.mp H
   obtain ⟨t488, A150, H⟩ := H
   have A15 := Aside0.mk A150
   clear A150
   by_cases c16 : t488 = t477
   ·
    rw [if_pos c16] at H
    have c16b0 : (t488 == t477) = true := beq_iff_eq.mpr c16
    have c16b1 : (t488 != t477) = false := bne_eq_false_iff_eq.mpr c16
    clear c16
    replace H := Option.bind_eq_some_iff.mp H
    obtain ⟨⟨t489, t492⟩, A170, H⟩ := H
    dsimp only at H
    have A17 := Aside0.mk A170
    clear A170
    replace H := Option.bind_eq_some_iff.mp H
    obtain ⟨t495, A180, H⟩ := H
    have A18 := Aside0.mk A180
    clear A180
    by_cases c19 : t495 = true
    ·
     subst c19
     rw [if_pos rfl] at H
     replace H := Option.bind_eq_some_iff.mp H
     obtain ⟨t496, A200, H⟩ := H
     have A20 := Aside0.mk A200
     clear A200
     replace H := Option.bind_eq_some_iff.mp H
     obtain ⟨t499, A210, H⟩ := H
     have A21 := Aside0.mk A210
     clear A210
     by_cases c22 : t499 = true
     ·
      subst c22
      rw [if_pos rfl] at H
      obtain rfl := Option.some.inj H
      go_enter Try.func5, Try.ntmps5
      try go_wp2_with (first | ((with_reducible refine gate_dst (N := 2) rfl ?_); refine box_event ?hg (N := 2) ?hd (cs := #[.slice A0_0 l0_0.length c0_0, .slice A0_1 l0_1.length c0_1]) (t := 25) ?hr ?_; (case hd => rfl); (case hg => rfl); (case hr => first | (go_simp; done) | (go_simp; rfl)); intro gb466 hg w23 hbox hb; have n0_ := Aside0.mk (below_step (bz HB) hb); have n1_ := Aside0.mk (hbox); have n2_ := Aside0.mk ((by rw [hg]; exact (below_size (bz HB)) : w.heap.size ≤ gb466)); have n3_ := Aside0.mk ((by rw [hg]; exact (below_size (bz HB)) : w.heap.size ≤ gb466)); clear HB; have HB := n0_; have BK466 := n1_; have GW466 := n2_; have GE466 := n3_; clear n0_ n1_ n2_ n3_; clear hb hbox hg; have hcz24_0 : w23.cell? ⟨gb466, 0, none⟩ = some (.slice A0_0 l0_0.length c0_0) := (blk_cell BK466.out 0).trans rfl; have hcz24_1 : w23.cell? ⟨gb466, 1, none⟩ = some (.slice A0_1 l0_1.length c0_1) := (blk_cell BK466.out 1).trans rfl; have hfz24_0 := blk_frozen BK466.out 0; have hfz24_1 := blk_frozen BK466.out 1) | ((with_reducible refine gate_callee (f := 15) rfl ?_); refine goesL_ (some 15) rfl rfl Try.func15 (by kernel_rfl) rfl #[.agg #[.slice A0_0 l0_0.length c0_0, .slice A0_1 l0_1.length c0_1], .int .i64 1048576] rfl az ?_; (with_reducible refine (laws_szSystem.calls k _ _ l0_0 _ _ l0_1 1048576 t467 _ ?side1 HC0_0.out ?side3 HC0_1.out A5.out).mono ?_); (case side1 => exact cz HR0_0 HB); (case side3 => exact cz HR0_1 HB); rintro e w25 ⟨rfl, hb⟩; refine ⟨_, rfl, ?_⟩; replace BK466 := Aside0.mk (blk_below (g := gb466) (o := .cells #[.slice A0_0 l0_0.length c0_0, .slice A0_1 l0_1.length c0_1] 25 (0, 0)) (kz BK466) hb); replace HB := Aside0.mk (below_step (bz1 HB GE466) hb); clear hb; have hcz26_0 : w25.cell? ⟨gb466, 0, none⟩ = some (.slice A0_0 l0_0.length c0_0) := (blk_cell BK466.out 0).trans rfl; have hcz26_1 : w25.cell? ⟨gb466, 1, none⟩ = some (.slice A0_1 l0_1.length c0_1) := (blk_cell BK466.out 1).trans rfl; have hfz26_0 := blk_frozen BK466.out 0; have hfz26_1 := blk_frozen BK466.out 1) | ((with_reducible refine gate_callee (f := 17) rfl ?_); refine goesL_ (some 19) rfl rfl Try.func17 (by kernel_rfl) rfl #[.agg #[.slice A0_0 l0_0.length c0_0, .slice A0_1 l0_1.length c0_1]] rfl az ?_; (with_reducible refine (laws_toSystem.calls k _ _ l0_0 _ _ l0_1 t468 t471 _ ?side1 HC0_0.out ?side3 HC0_1.out A10.out).mono ?_); (case side1 => exact cz HR0_0 HB); (case side3 => exact cz HR0_1 HB); rintro e w27 ⟨v469, v472, rfl, ho0, ho1, hb⟩; refine ⟨_, rfl, ?_⟩; have HO470 := Aside0.mk (Kd.R_lower ho0 (below_size (bz1 HB GE466))); have HO473 := Aside0.mk (Kd.R_lower ho1 (below_size (bz1 HB GE466))); replace BK466 := Aside0.mk (blk_below (g := gb466) (o := .cells #[.slice A0_0 l0_0.length c0_0, .slice A0_1 l0_1.length c0_1] 25 (0, 0)) (kz BK466) hb); replace HB := Aside0.mk (below_step (bz1 HB GE466) hb); clear hb; (try clear ho0); (try clear ho1)) | ((with_reducible refine gate_callee (f := 27) rfl ?_); refine goesL_ (some 21) rfl rfl Try.func27 (by kernel_rfl) rfl #[.slice A1 l1.length c1] rfl az ?_; (with_reducible refine (laws_toIntS.calls k _ _ l1 t474 _ ?side1 HC1.out A11.out).mono ?_); (case side1 => exact cz HR1 HB); rintro e w28 ⟨v475, rfl, ho0, hb⟩; refine ⟨_, rfl, ?_⟩; replace HO470 := Aside0.mk (Kd.R_below (ozR HO470) hb); replace HO473 := Aside0.mk (Kd.R_elder' (ozR HO473) (Kd.R_base ho0) hb); have HO476 := Aside0.mk (Kd.R_lower ho0 (below_size (bz1 HB GE466))); replace BK466 := Aside0.mk (blk_below (g := gb466) (o := .cells #[.slice A0_0 l0_0.length c0_0, .slice A0_1 l0_1.length c0_1] 25 (0, 0)) (kz BK466) hb); replace HB := Aside0.mk (below_step (bz1 HB GE466) hb); clear hb; (try clear ho0); obtain ⟨Ao29, co29, eo29⟩ := Kd.R_slice HO470.out; subst eo29; obtain ⟨Ao30, co30, eo30⟩ := Kd.R_slice HO473.out; subst eo30; obtain ⟨Ao31, co31, eo31⟩ := Kd.R_slice HO476.out; subst eo31) | ((with_reducible refine gate_callee (f := 26) rfl ?_); refine goesL_ (some 22) rfl rfl Try.func26 (by kernel_rfl) rfl #[.agg #[.slice Ao29 t468.length co29, .slice Ao30 t471.length co30], .slice Ao31 t474.length co31] rfl az ?_; (with_reducible refine (spec_NumberOf.calls k _ _ t468 _ _ t471 _ _ t474 t477 _ ?side1 ?side2 ?side3 ?side4 ?side5 ?side6 A12.out).mono ?_); (case side1 => exact cz1 (Kd.R_reads' HO470.out).2.2); (case side2 => exact (Kd.R_reads' HO470.out).2.1); (case side3 => exact cz1 (Kd.R_reads' HO473.out).2.2); (case side4 => exact (Kd.R_reads' HO473.out).2.1); (case side5 => exact cz1 (Kd.R_reads' HO476.out).2.2); (case side6 => exact (Kd.R_reads' HO476.out).2.1); rintro e w32 ⟨rfl, hb⟩; refine ⟨_, rfl, ?_⟩; replace HO470 := Aside0.mk (Kd.R_below (ozR HO470) hb); replace HO473 := Aside0.mk (Kd.R_below (ozR HO473) hb); replace HO476 := Aside0.mk (Kd.R_below (ozR HO476) hb); replace BK466 := Aside0.mk (blk_below (g := gb466) (o := .cells #[.slice A0_0 l0_0.length c0_0, .slice A0_1 l0_1.length c0_1] 25 (0, 0)) (kz BK466) hb); replace HB := Aside0.mk (below_step (bz1 HB GE466) hb); clear hb; have hcz33_0 : w32.cell? ⟨gb466, 0, none⟩ = some (.slice A0_0 l0_0.length c0_0) := (blk_cell BK466.out 0).trans rfl; have hcz33_1 : w32.cell? ⟨gb466, 1, none⟩ = some (.slice A0_1 l0_1.length c0_1) := (blk_cell BK466.out 1).trans rfl; have hfz33_0 := blk_frozen BK466.out 0; have hfz33_1 := blk_frozen BK466.out 1) | ((with_reducible refine gate_callee (f := 17) rfl ?_); refine goesL_ (some 24) rfl rfl Try.func17 (by kernel_rfl) rfl #[.agg #[.slice A0_0 l0_0.length c0_0, .slice A0_1 l0_1.length c0_1]] rfl az ?_; (with_reducible refine (laws_toSystem.calls k _ _ l0_0 _ _ l0_1 t478 t481 _ ?side1 HC0_0.out ?side3 HC0_1.out A13.out).mono ?_); (case side1 => exact cz HR0_0 HB); (case side3 => exact cz HR0_1 HB); rintro e w34 ⟨v479, v482, rfl, ho0, ho1, hb⟩; refine ⟨_, rfl, ?_⟩; have n0_ := Aside0.mk (Kd.R_elder' (ozR HO470) (Kd.R_base ho0) hb); have n1_ := Aside0.mk (Kd.R_elder' (ozR HO473) (Kd.R_base ho1) hb); have n2_ := Aside0.mk (Kd.R_below (ozR HO476) hb); have n3_ := Aside0.mk (Kd.R_lower (Kd.R_new' ho0 (Kd.R_lt (ozR HO470))) (below_size (bz1 HB GE466))); have n4_ := Aside0.mk (Kd.R_lower (Kd.R_new' (Kd.R_new' ho1 (Kd.R_lt (ozR HO473))) (Kd.R_lt (ozR HO476))) (below_size (bz1 HB GE466))); have n5_ := Aside0.mk (blk_below (g := gb466) (o := .cells #[.slice A0_0 l0_0.length c0_0, .slice A0_1 l0_1.length c0_1] 25 (0, 0)) (kz BK466) hb); have n6_ := Aside0.mk (below_step (bz1 HB GE466) hb); clear HO470; clear HO473; clear HO476; clear BK466; clear HB; have HO470 := n0_; have HO473 := n1_; have HO476 := n2_; have HO480 := n3_; have HO483 := n4_; have BK466 := n5_; have HB := n6_; clear n0_ n1_ n2_ n3_ n4_ n5_ n6_; clear hb; (try clear ho0); (try clear ho1)) | ((with_reducible refine gate_dst (N := 7) rfl ?_); refine box_event ?hg (N := 7) ?hd (cs := #[.slice none 0 0, .slice none 0 0]) (t := 31) ?hr ?_; (case hd => rfl); (case hg => rfl); (case hr => first | (go_simp; done) | (go_simp; rfl)); intro gb484 hg w35 hbox hb; have n0_ := Aside0.mk (Kd.R_below (ozR HO470) hb); have n1_ := Aside0.mk (Kd.R_below (ozR HO473) hb); have n2_ := Aside0.mk (Kd.R_below (ozR HO476) hb); have n3_ := Aside0.mk (Kd.R_below (ozR HO480) hb); have n4_ := Aside0.mk (Kd.R_below (ozR HO483) hb); have n5_ := Aside0.mk (blk_below (g := gb466) (o := .cells #[.slice A0_0 l0_0.length c0_0, .slice A0_1 l0_1.length c0_1] 25 (0, 0)) (kz BK466) hb); have n6_ := Aside0.mk (below_step (bz1 HB GE466) hb); have n7_ := Aside0.mk (hbox); have n8_ := Aside0.mk ((by rw [hg]; exact (below_size (bz1 HB GE466)) : w.heap.size ≤ gb484)); have n9_ := Aside0.mk ((by rw [hg]; exact (below_size (bz1 HB GE466)) : w.heap.size ≤ gb484)); have n10_ := Aside0.mk ((by rw [hg]; exact Nat.ne_of_lt (blk_lt (g := gb466) (o := .cells #[.slice A0_0 l0_0.length c0_0, .slice A0_1 l0_1.length c0_1] 25 (0, 0)) (kz BK466)) : gb466 ≠ gb484)); have n11_ := Aside0.mk ((by rw [hg]; exact Nat.ne_of_gt (blk_lt (g := gb466) (o := .cells #[.slice A0_0 l0_0.length c0_0, .slice A0_1 l0_1.length c0_1] 25 (0, 0)) (kz BK466)) : gb484 ≠ gb466)); clear HO470; clear HO473; clear HO476; clear HO480; clear HO483; clear BK466; clear HB; have HO470 := n0_; have HO473 := n1_; have HO476 := n2_; have HO480 := n3_; have HO483 := n4_; have BK466 := n5_; have HB := n6_; have BK484 := n7_; have GW484 := n8_; have GE484 := n9_; have NB466_484 := n10_; have NB484_466 := n11_; clear n0_ n1_ n2_ n3_ n4_ n5_ n6_ n7_ n8_ n9_ n10_ n11_; clear hb hbox hg; obtain ⟨Ao36, co36, eo36⟩ := Kd.R_slice HO480.out; subst eo36; have hnb37 := NB484_466.out; have hnc37 := NB466_484.out; have hcz38_0 : w35.cell? ⟨gb484, 0, none⟩ = some (.slice none 0 0) := (blk_cell BK484.out 0).trans rfl; have hcz38_1 : w35.cell? ⟨gb484, 1, none⟩ = some (.slice none 0 0) := (blk_cell BK484.out 1).trans rfl; have hfz38_0 := blk_frozen BK484.out 0; have hfz38_1 := blk_frozen BK484.out 1; obtain ⟨Ao39, co39, eo39⟩ := Kd.R_slice HO483.out; subst eo39) | ((with_reducible refine gate_callee (f := 27) rfl ?_); refine goesL_ (some 26) rfl rfl Try.func27 (by kernel_rfl) rfl #[.slice A1 l1.length c1] rfl az ?_; (with_reducible refine (laws_toIntS.calls k _ _ l1 t485 _ ?side1 HC1.out A14.out).mono ?_); (case side1 => exact Kd.C_below HR1.out (bz2 HB GE466 GE484)); rintro e w40 ⟨v486, rfl, ho0, hb⟩; refine ⟨_, rfl, ?_⟩; have n0_ := Aside0.mk (Kd.R_below (by (with_reducible repeat (first | apply Kd.R_alloc | apply Kd.R_drewN | apply Kd.R_drew)); exact (Kd.R_mono (Kd.R_far (p := ⟨gb484, 1, none⟩) (Kd.R_far (p := ⟨gb484, 0, none⟩) (Kd.R_types HO470.out BK484.out (by decide)) (fun _ hk => hk.2) (.slice Ao36 t478.length co36)) (fun _ hk => hk.2) (.slice Ao39 t481.length co39)) (fun _ h_ => h_.1))) hb); have n1_ := Aside0.mk (Kd.R_elder' (by (with_reducible repeat (first | apply Kd.R_alloc | apply Kd.R_drewN | apply Kd.R_drew)); exact (Kd.R_mono (Kd.R_far (p := ⟨gb484, 1, none⟩) (Kd.R_far (p := ⟨gb484, 0, none⟩) (Kd.R_types HO473.out BK484.out (by decide)) (fun _ hk => hk.2) (.slice Ao36 t478.length co36)) (fun _ hk => hk.2) (.slice Ao39 t481.length co39)) (fun _ h_ => h_.1))) (Kd.R_base ho0) hb); have n2_ := Aside0.mk (Kd.R_elder' (by (with_reducible repeat (first | apply Kd.R_alloc | apply Kd.R_drewN | apply Kd.R_drew)); exact (Kd.R_mono (Kd.R_far (p := ⟨gb484, 1, none⟩) (Kd.R_far (p := ⟨gb484, 0, none⟩) (Kd.R_types HO476.out BK484.out (by decide)) (fun _ hk => hk.2) (.slice Ao36 t478.length co36)) (fun _ hk => hk.2) (.slice Ao39 t481.length co39)) (fun _ h_ => h_.1))) (Kd.R_base ho0) hb); have n3_ := Aside0.mk (Kd.R_below (by (with_reducible repeat (first | apply Kd.R_alloc | apply Kd.R_drewN | apply Kd.R_drew)); exact (Kd.R_mono (Kd.R_far (p := ⟨gb484, 1, none⟩) (Kd.R_far (p := ⟨gb484, 0, none⟩) (Kd.R_types HO480.out BK484.out (by decide)) (fun _ hk => hk.2) (.slice Ao36 t478.length co36)) (fun _ hk => hk.2) (.slice Ao39 t481.length co39)) (fun _ h_ => h_.1))) hb); have n4_ := Aside0.mk (Kd.R_elder' (by (with_reducible repeat (first | apply Kd.R_alloc | apply Kd.R_drewN | apply Kd.R_drew)); exact (Kd.R_mono (Kd.R_far (p := ⟨gb484, 1, none⟩) (Kd.R_far (p := ⟨gb484, 0, none⟩) (Kd.R_types HO483.out BK484.out (by decide)) (fun _ hk => hk.2) (.slice Ao36 t478.length co36)) (fun _ hk => hk.2) (.slice Ao39 t481.length co39)) (fun _ h_ => h_.1))) (Kd.R_base ho0) hb); have n5_ := Aside0.mk (Kd.R_lower (Kd.R_new' ho0 (Kd.R_lt (by (with_reducible repeat (first | apply Kd.R_alloc | apply Kd.R_drewN | apply Kd.R_drew)); exact (Kd.R_mono (Kd.R_far (p := ⟨gb484, 1, none⟩) (Kd.R_far (p := ⟨gb484, 0, none⟩) (Kd.R_types HO476.out BK484.out (by decide)) (fun _ hk => hk.2) (.slice Ao36 t478.length co36)) (fun _ hk => hk.2) (.slice Ao39 t481.length co39)) (fun _ h_ => h_.1))))) (below_size (bz2 HB GE466 GE484))); have n6_ := Aside0.mk (blk_below (g := gb466) (o := .cells #[.slice A0_0 l0_0.length c0_0, .slice A0_1 l0_1.length c0_1] 25 (0, 0)) (by (with_reducible repeat (first | refine blk_drewN ?_ _ | refine blk_drew ?_ | refine blk_alloc ?_ _)); refine blk_far ?_ NB466_484.out _; (with_reducible repeat (first | refine blk_drewN ?_ _ | refine blk_drew ?_ | refine blk_alloc ?_ _)); refine blk_far ?_ NB466_484.out _; exact kz BK466) hb); have n7_ := Aside0.mk (blk_below (g := gb484) (o := .cells #[.slice Ao36 t478.length co36, .slice Ao39 t481.length co39] 31 (0, 0)) (by (with_reducible repeat (first | refine blk_drewN ?_ _ | refine blk_drew ?_ | refine blk_alloc ?_ _)); refine blk_put (cs := #[.slice Ao36 t478.length co36, .slice none 0 0]) ?_ 1 _ rfl; (with_reducible repeat (first | refine blk_drewN ?_ _ | refine blk_drew ?_ | refine blk_alloc ?_ _)); refine blk_put (cs := #[.slice none 0 0, .slice none 0 0]) ?_ 0 _ rfl; exact kz BK484) hb); have n8_ := Aside0.mk (below_step (bz2 HB GE466 GE484) hb); clear HO470; clear HO473; clear HO476; clear HO480; clear HO483; clear BK466; clear BK484; clear HB; have HO470 := n0_; have HO473 := n1_; have HO476 := n2_; have HO480 := n3_; have HO483 := n4_; have HO487 := n5_; have BK466 := n6_; have BK484 := n7_; have HB := n8_; clear n0_ n1_ n2_ n3_ n4_ n5_ n6_ n7_ n8_; clear hb; (try clear hk); (try clear ho0); have hcz41_0 : w40.cell? ⟨gb484, 0, none⟩ = some (.slice Ao36 t478.length co36) := (blk_cell BK484.out 0).trans rfl; have hcz41_1 : w40.cell? ⟨gb484, 1, none⟩ = some (.slice Ao39 t481.length co39) := (blk_cell BK484.out 1).trans rfl; have hfz41_0 := blk_frozen BK484.out 0; have hfz41_1 := blk_frozen BK484.out 1; obtain ⟨Ao42, co42, eo42⟩ := Kd.R_slice HO487.out; subst eo42) | ((with_reducible refine gate_callee (f := 28) rfl ?_); refine goesL_ (some 29) rfl rfl Try.func28 (by kernel_rfl) rfl #[.agg #[.slice Ao36 t478.length co36, .slice Ao39 t481.length co39], .slice Ao42 t485.length co42] rfl az ?_; (with_reducible refine (impl_NumberOf.calls k _ _ t478 _ _ t481 _ _ t485 t488 _ ?side1 ?side2 ?side3 ?side4 ?side5 ?side6 A15.out).mono ?_); (case side1 => exact cz1 (Kd.R_reads' HO480.out).2.2); (case side2 => exact (Kd.R_reads' HO480.out).2.1); (case side3 => exact cz1 (Kd.R_reads' HO483.out).2.2); (case side4 => exact (Kd.R_reads' HO483.out).2.1); (case side5 => exact cz1 (Kd.R_reads' HO487.out).2.2); (case side6 => exact (Kd.R_reads' HO487.out).2.1); rintro e w43 ⟨rfl, hb⟩; refine ⟨_, rfl, ?_⟩; replace HO470 := Aside0.mk (Kd.R_below (ozR HO470) hb); replace HO473 := Aside0.mk (Kd.R_below (ozR HO473) hb); replace HO476 := Aside0.mk (Kd.R_below (ozR HO476) hb); replace HO480 := Aside0.mk (Kd.R_below (ozR HO480) hb); replace HO483 := Aside0.mk (Kd.R_below (ozR HO483) hb); replace HO487 := Aside0.mk (Kd.R_below (ozR HO487) hb); replace BK466 := Aside0.mk (blk_below (g := gb466) (o := .cells #[.slice A0_0 l0_0.length c0_0, .slice A0_1 l0_1.length c0_1] 25 (0, 0)) (kz BK466) hb); replace BK484 := Aside0.mk (blk_below (g := gb484) (o := .cells #[.slice Ao36 t478.length co36, .slice Ao39 t481.length co39] 31 (0, 0)) (kz BK484) hb); replace HB := Aside0.mk (below_step (bz2 HB GE466 GE484) hb); clear hb))
      have n0_ := Aside0.mk (Kd.R_drew HO470.out)
      have n1_ := Aside0.mk (Kd.R_drew HO473.out)
      have n2_ := Aside0.mk (Kd.R_drew HO476.out)
      have n3_ := Aside0.mk (Kd.R_drew HO480.out)
      have n4_ := Aside0.mk (Kd.R_drew HO483.out)
      have n5_ := Aside0.mk (Kd.R_drew HO487.out)
      have n6_ := Aside0.mk (blk_drew BK466.out)
      have n7_ := Aside0.mk (blk_drew BK484.out)
      have n8_ := Aside0.mk (below_drew1 HB.out)
      clear HO470
      clear HO473
      clear HO476
      clear HO480
      clear HO483
      clear HO487
      clear BK466
      clear BK484
      clear HB
      have HO470 := n0_
      have HO473 := n1_
      have HO476 := n2_
      have HO480 := n3_
      have HO483 := n4_
      have HO487 := n5_
      have BK466 := n6_
      have BK484 := n7_
      have HB := n8_
      clear n0_ n1_ n2_ n3_ n4_ n5_ n6_ n7_ n8_
      refine start_ (n := 5) (S := fun w' => w'.cell? ⟨gb484, 0, none⟩ = some (.slice Ao36 t478.length co36) ∧ w'.cell? ⟨gb484, 1, none⟩ = some (.slice Ao39 t481.length co39) ∧ w'.cell? ⟨gb466, 0, none⟩ = some (.slice A0_0 l0_0.length c0_0) ∧ w'.cell? ⟨gb466, 1, none⟩ = some (.slice A0_1 l0_1.length c0_1)) (ds := []) #[false, false, false, false, false] (by kernel_rfl) rfl rfl ⟨(blk_cell BK484.out 0).trans rfl, (blk_cell BK484.out 1).trans rfl, (blk_cell BK466.out 0).trans rfl, (blk_cell BK466.out 1).trans rfl⟩ (fun hHeld => ?_)
      generalize w43.drew = w44 at HO470 HO473 HO476 HO480 HO483 HO487 BK466 BK484 HB hHeld ⊢
      refine take_ (i := 0) (N := some 33) (v := ?_) (a' := ?_) #[true, false, false, false, false] rfl rfl (by kernel_rfl) (fun _ _ _ h => h) (Or.inl ⟨by rfl, ?_⟩) hHeld ?_ ?_
      rotate_left
      ·
       rintro w' ⟨s0, s1, s2, s3⟩
       go_simp
       with_reducible rfl
      rotate_left
      ·
       simp only [Act.put, sb_, sc0_, sc1_, i64_w, i32_w]
       rfl
      refine take_ (i := 1) (N := some 34) (v := ?_) (a' := ?_) #[true, true, false, false, false] rfl rfl (by kernel_rfl) (fun _ _ _ h => h) (Or.inl ⟨by rfl, ?_⟩) hHeld ?_ ?_
      rotate_left
      ·
       rintro w' ⟨s0, s1, s2, s3⟩
       go_simp
       with_reducible rfl
      rotate_left
      ·
       simp only [Act.put, sb_, sc0_, sc1_, i64_w, i32_w]
       rfl
      refine one_ (i := 2) (N := some 35) #[true, true, true, false, false] rfl rfl (by kernel_rfl) (by decide) (fun K hK => ?_)
      refine goes_ Try.func17 (by kernel_rfl) rfl #[.agg #[.slice A0_0 l0_0.length c0_0, .slice A0_1 l0_1.length c0_1]] (by rfl) rfl rfl az ?_
      with_reducible refine (laws_toSystem.calls k _ _ l0_0 _ _ l0_1 t489 t492 _ ?side1 ?side2 ?side3 ?side4 A17.out).mono ?_
      (case side1 => exact cz HR0_0 HB)
      (case side2 => exact HC0_0.out)
      (case side3 => exact cz HR0_1 HB)
      (case side4 => exact HC0_1.out)
      rintro e w45 ⟨v490, v493, rfl, ho0, ho1, hb⟩
      refine ⟨_, rfl, ?_⟩
      have n0_ := Aside0.mk (Kd.R_elder' (ozR HO470) (Kd.R_base ho0) hb)
      have n1_ := Aside0.mk (Kd.R_elder' (ozR HO473) (Kd.R_base ho1) hb)
      have n2_ := Aside0.mk (Kd.R_below (ozR HO476) hb)
      have n3_ := Aside0.mk (Kd.R_elder' (ozR HO480) (Kd.R_base ho0) hb)
      have n4_ := Aside0.mk (Kd.R_elder' (ozR HO483) (Kd.R_base ho1) hb)
      have n5_ := Aside0.mk (Kd.R_below (ozR HO487) hb)
      have n6_ := Aside0.mk (Kd.R_lower (Kd.R_new' (Kd.R_new' ho0 (Kd.R_lt (ozR HO470))) (Kd.R_lt (ozR HO480))) (below_size (bz2 HB GE466 GE484)))
      have n7_ := Aside0.mk (Kd.R_lower (Kd.R_new' (Kd.R_new' (Kd.R_new' (Kd.R_new' ho1 (Kd.R_lt (ozR HO473))) (Kd.R_lt (ozR HO476))) (Kd.R_lt (ozR HO483))) (Kd.R_lt (ozR HO487))) (below_size (bz2 HB GE466 GE484)))
      have n8_ := Aside0.mk (blk_below (g := gb466) (o := .cells #[.slice A0_0 l0_0.length c0_0, .slice A0_1 l0_1.length c0_1] 25 (0, 0)) (kz BK466) hb)
      have n9_ := Aside0.mk (blk_below (g := gb484) (o := .cells #[.slice Ao36 t478.length co36, .slice Ao39 t481.length co39] 31 (0, 0)) (kz BK484) hb)
      have n10_ := Aside0.mk (below_step (bz2 HB GE466 GE484) hb)
      clear HO470
      clear HO473
      clear HO476
      clear HO480
      clear HO483
      clear HO487
      clear BK466
      clear BK484
      clear HB
      have HO470 := n0_
      have HO473 := n1_
      have HO476 := n2_
      have HO480 := n3_
      have HO483 := n4_
      have HO487 := n5_
      have HO491 := n6_
      have HO494 := n7_
      have BK466 := n8_
      have BK484 := n9_
      have HB := n10_
      clear n0_ n1_ n2_ n3_ n4_ n5_ n6_ n7_ n8_ n9_ n10_
      (try clear hb)
      (try clear hb2)
      (try clear hk)
      (try clear hi)
      (try clear ho0)
      (try clear ho1)
      obtain ⟨Ao46, co46, eo46⟩ := Kd.R_slice HO491.out
      (first | subst eo46 | (injection eo46 with f1_ f2_ f3_; have f4_ := f1_.symm; have f5_ := f3_.symm; clear f1_ f2_ f3_; subst f4_; subst f5_))
      obtain ⟨Ao47, co47, eo47⟩ := Kd.R_slice HO494.out
      (first | subst eo47 | (injection eo47 with f1_ f2_ f3_; have f4_ := f1_.symm; have f5_ := f3_.symm; clear f1_ f2_ f3_; subst f4_; subst f5_))
      refine hK.out _ _ ⟨(blk_cell BK484.out 0).trans rfl, (blk_cell BK484.out 1).trans rfl, (blk_cell BK466.out 0).trans rfl, (blk_cell BK466.out 1).trans rfl⟩ (fun hHeld => ?_)
      clear hK K
      refine norm_ (a' := ?_) ?_ ?_
      rotate_left
      ·
       show Act.put _ (some 35) _ = _
       simp only [Act.put, sb_, sc0_, sc1_, i64_w, i32_w]
       rfl
      refine one_ (i := 3) (N := some 36) #[true, true, true, true, false] rfl rfl (by kernel_rfl) (by decide) (fun K hK => ?_)
      refine goes_ Try.func19 (by kernel_rfl) rfl #[.agg #[.slice Ao36 t478.length co36, .slice Ao39 t481.length co39], .agg #[.slice Ao46 t489.length co46, .slice Ao47 t492.length co47]] (by rfl) rfl rfl az ?_
      with_reducible refine (laws_eqSystem.calls k _ _ t478 _ _ t481 _ _ t489 _ _ t492 true _ ?side1 ?side2 ?side3 ?side4 ?side5 ?side6 ?side7 ?side8 A18.out).mono ?_
      (case side1 => exact cz1 (Kd.R_reads' HO480.out).2.2)
      (case side2 => exact (Kd.R_reads' HO480.out).2.1)
      (case side3 => exact cz1 (Kd.R_reads' HO483.out).2.2)
      (case side4 => exact (Kd.R_reads' HO483.out).2.1)
      (case side5 => exact cz1 (Kd.R_reads' HO491.out).2.2)
      (case side6 => exact (Kd.R_reads' HO491.out).2.1)
      (case side7 => exact cz1 (Kd.R_reads' HO494.out).2.2)
      (case side8 => exact (Kd.R_reads' HO494.out).2.1)
      rintro e w48 ⟨rfl, hb⟩
      refine ⟨_, rfl, ?_⟩
      have n0_ := Aside0.mk (Kd.R_below (ozR HO470) hb)
      have n1_ := Aside0.mk (Kd.R_below (ozR HO473) hb)
      have n2_ := Aside0.mk (Kd.R_below (ozR HO476) hb)
      have n3_ := Aside0.mk (Kd.R_below (ozR HO480) hb)
      have n4_ := Aside0.mk (Kd.R_below (ozR HO483) hb)
      have n5_ := Aside0.mk (Kd.R_below (ozR HO487) hb)
      have n6_ := Aside0.mk (Kd.R_below (ozR HO491) hb)
      have n7_ := Aside0.mk (Kd.R_below (ozR HO494) hb)
      have n8_ := Aside0.mk (blk_below (g := gb466) (o := .cells #[.slice A0_0 l0_0.length c0_0, .slice A0_1 l0_1.length c0_1] 25 (0, 0)) (kz BK466) hb)
      have n9_ := Aside0.mk (blk_below (g := gb484) (o := .cells #[.slice Ao36 t478.length co36, .slice Ao39 t481.length co39] 31 (0, 0)) (kz BK484) hb)
      have n10_ := Aside0.mk (below_step (bz2 HB GE466 GE484) hb)
      clear HO470
      clear HO473
      clear HO476
      clear HO480
      clear HO483
      clear HO487
      clear HO491
      clear HO494
      clear BK466
      clear BK484
      clear HB
      have HO470 := n0_
      have HO473 := n1_
      have HO476 := n2_
      have HO480 := n3_
      have HO483 := n4_
      have HO487 := n5_
      have HO491 := n6_
      have HO494 := n7_
      have BK466 := n8_
      have BK484 := n9_
      have HB := n10_
      clear n0_ n1_ n2_ n3_ n4_ n5_ n6_ n7_ n8_ n9_ n10_
      (try clear hb)
      (try clear hb2)
      (try clear hk)
      (try clear hi)
      refine hK.out _ _ ⟨(blk_cell BK484.out 0).trans rfl, (blk_cell BK484.out 1).trans rfl, (blk_cell BK466.out 0).trans rfl, (blk_cell BK466.out 1).trans rfl⟩ (fun hHeld => ?_)
      clear hK K
      refine norm_ (a' := ?_) ?_ ?_
      rotate_left
      ·
       show Act.put _ (some 36) _ = _
       simp only [Act.put, sb_, sc0_, sc1_, i64_w, i32_w]
       rfl
      refine pure_ (i := 4) (N := some 37) (v := ?_) (a' := ?_) #[true, true, true, true, true] rfl rfl (by kernel_rfl) (fun _ _ _ h => h) (Or.inl ⟨by rfl, ?_⟩) ?_ ?_
      rotate_left
      ·
       intro w'
       go_simp
       with_reducible rfl
      rotate_left
      ·
       simp only [Act.put, sb_, sc0_, sc1_, i64_w, i32_w]
       rfl
      refine done_ (by kernel_rfl) ?_
      try go_wp2_with (first | ((with_reducible refine gate_callee (f := 27) rfl ?_); refine goesL_ (some 40) rfl rfl Try.func27 (by kernel_rfl) rfl #[.slice A1 l1.length c1] rfl az ?_; (with_reducible refine (laws_toIntS.calls k _ _ l1 t496 _ ?side1 HC1.out A20.out).mono ?_); (case side1 => exact cz HR1 HB); rintro e w49 ⟨v497, rfl, ho0, hb⟩; refine ⟨_, rfl, ?_⟩; have n0_ := Aside0.mk (Kd.R_below (ozR HO470) hb); have n1_ := Aside0.mk (Kd.R_elder' (ozR HO473) (Kd.R_base ho0) hb); have n2_ := Aside0.mk (Kd.R_elder' (ozR HO476) (Kd.R_base ho0) hb); have n3_ := Aside0.mk (Kd.R_below (ozR HO480) hb); have n4_ := Aside0.mk (Kd.R_elder' (ozR HO483) (Kd.R_base ho0) hb); have n5_ := Aside0.mk (Kd.R_elder' (ozR HO487) (Kd.R_base ho0) hb); have n6_ := Aside0.mk (Kd.R_below (ozR HO491) hb); have n7_ := Aside0.mk (Kd.R_elder' (ozR HO494) (Kd.R_base ho0) hb); have n8_ := Aside0.mk (Kd.R_lower (Kd.R_new' (Kd.R_new' ho0 (Kd.R_lt (ozR HO476))) (Kd.R_lt (ozR HO487))) (below_size (bz2 HB GE466 GE484))); have n9_ := Aside0.mk (blk_below (g := gb466) (o := .cells #[.slice A0_0 l0_0.length c0_0, .slice A0_1 l0_1.length c0_1] 25 (0, 0)) (kz BK466) hb); have n10_ := Aside0.mk (blk_below (g := gb484) (o := .cells #[.slice Ao36 t478.length co36, .slice Ao39 t481.length co39] 31 (0, 0)) (kz BK484) hb); have n11_ := Aside0.mk (below_step (bz2 HB GE466 GE484) hb); clear HO470; clear HO473; clear HO476; clear HO480; clear HO483; clear HO487; clear HO491; clear HO494; clear BK466; clear BK484; clear HB; have HO470 := n0_; have HO473 := n1_; have HO476 := n2_; have HO480 := n3_; have HO483 := n4_; have HO487 := n5_; have HO491 := n6_; have HO494 := n7_; have HO498 := n8_; have BK466 := n9_; have BK484 := n10_; have HB := n11_; clear n0_ n1_ n2_ n3_ n4_ n5_ n6_ n7_ n8_ n9_ n10_ n11_; clear hb; (try clear ho0); obtain ⟨Ao50, co50, eo50⟩ := Kd.R_slice HO498.out; subst eo50) | ((with_reducible refine gate_callee (f := 22) rfl ?_); refine goesL_ (some 41) rfl rfl Try.func22 (by kernel_rfl) rfl #[.slice Ao42 t485.length co42, .slice Ao50 t496.length co50] rfl az ?_; (with_reducible refine (laws_eqIntS.calls k _ _ t485 _ _ t496 true _ ?side1 ?side2 ?side3 ?side4 A21.out).mono ?_); (case side1 => exact cz1 (Kd.R_reads' HO487.out).2.2); (case side2 => exact (Kd.R_reads' HO487.out).2.1); (case side3 => exact cz1 (Kd.R_reads' HO498.out).2.2); (case side4 => exact (Kd.R_reads' HO498.out).2.1); rintro e w' ⟨rfl, ⟨nd, rfl⟩⟩; refine ⟨_, rfl, ?_⟩))
      go_ret
      exact ⟨rz, bz2 HB GE466 GE484⟩
     ·
      replace c22 := Bool.eq_false_iff.mpr c22
      subst c22
      rw [if_neg nt_] at H
      exact absurd ((Option.some.inj H).trans HR_.out) (by decide)
    ·
     replace c19 := Bool.eq_false_iff.mpr c19
     subst c19
     rw [if_neg nt_] at H
     exact absurd ((Option.some.inj H).trans HR_.out) (by decide)
   ·
    rw [if_neg c16] at H
    have c16b0 : (t488 == t477) = false := beq_eq_false_iff_ne.mpr c16
    have c16b1 : (t488 != t477) = true := bne_iff_ne.mpr c16
    exact absurd ((Option.some.inj H).trans HR_.out) (by decide)
end Go.Proofs.Ytoofhjflfpccdaa.PA
