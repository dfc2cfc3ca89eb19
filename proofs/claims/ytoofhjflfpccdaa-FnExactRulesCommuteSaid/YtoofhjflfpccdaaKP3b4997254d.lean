/- Walks of Go functions: each is shown to answer as the Lean function beside it tells, under the conditions that its theorem names. -/
import Derived.Test.YtoofhjflfpccdaaProg
import Derived.Below
import Derived.Deep.Draws
import Derived.Deep.AppendLies
import Derived.Maps.AppendAt
import Derived.OwnWalk
import Derived.Laws.BytesArg
import Derived.Laws.MakeOwn
import Derived.Laws.OwnMore
import Derived.Deep.OwnRows
import Derived.Tactics
import Derived.Lib.ConvBytes
import Derived.Laws.Slices
import Derived.WalkKit
import Derived.KernelRfl
import Derived.RowKit3
import Derived.Deep.LoopGhost
import Derived.Deep.QuietTactic
import Derived.BigQuiet
import Derived.WideLaws
import Derived.Deep.DeepCutAuto
import Derived.Deep.CutBlock
import Derived.Deep.RegionHeld3
import Derived.Laws.Rows
import Derived.Lib.AppendStr
import Derived.ArgAppend
import Derived.Laws.IdiomCopy
import Derived.OrdersHeld
import Derived.Laws.BitsLemmas
import Derived.RowKit
import Derived.Laws.StructEq
import Derived.Lib.SliceRun
import Derived.WalkSpells
import Derived.ChangeArms
import Derived.ChangeSlices
import Derived.Deep.Slices
import Derived.Test.YtoofhjflfpccdaaKP53ed3ab6b9
import Derived.Test.YtoofhjflfpccdaaKP76c3e3a335
import Derived.Test.YtoofhjflfpccdaaKP428dfaf9fb
namespace Go.Proofs.Ytoofhjflfpccdaa.PA
open Go.RowKit Go.Proofs.YtoofhjflfpccdaaW.PrintWords Go.Proofs.YtoofhjflfpccdaaW.PrintLast Go.Proofs.YtoofhjflfpccdaaW.PrintMore
attribute [local go_sem] max2_int min2_int max_two min_two max_three min_three max_four min_four   -- for this text's walks alone
set_option linter.unusedVariables false
set_option linter.unusedSimpArgs false
set_option maxHeartbeats 8000000 in
set_option maxRecDepth 100000 in
theorem laws_FnExactRulesCommute.calls (k : Nat) (A0_0 : Option Addr) (c0_0 : Nat) (l0_0 : List (LVar)) (A0_1 : Option Addr) (c0_1 : Nat) (l0_1 : List (LRule)) (A1 : Option Addr) (c1 : Nat) (l1 : List Int) (a2 : Int) (a3 : Int) (r : Bool) (w : World) (hr0_0 : Kd.C k84 w A0_0 l0_0.length l0_0) (hc0_0 : l0_0.length ≤ c0_0) (hr0_1 : Kd.C k75 w A0_1 l0_1.length l0_1) (hc0_1 : l0_1.length ≤ c0_1) (hr1 : Kd.C (Kd.int .i64) w A1 l1.length l1) (hc1 : l1.length ≤ c1) (h : laws_FnExactRulesCommute.f k l0_0 l0_1 l1 a2 a3 = some r) (hr_ : r = true) :
  Calls Try.prog 14 #[.agg #[.slice A0_0 l0_0.length c0_0, .slice A0_1 l0_1.length c0_1], .slice A1 l1.length c1, .int .i64 a2, .int .i64 a3] w fun e w' => e = .returned (.bool r) ∧ Below w.heap.size w w' := by
 have HR_ := Aside0.mk hr_
 clear hr_
 have hu25 := Try.underlying25
 have hu31 := Try.underlying31
 have HR0_0 := Aside0.mk hr0_0
 have HC0_0 := Aside0.mk hc0_0
 clear hr0_0 hc0_0
 have HR0_1 := Aside0.mk hr0_1
 have HC0_1 := Aside0.mk hc0_1
 clear hr0_1 hc0_1
 have HR1 := Aside0.mk hr1
 have HC1 := Aside0.mk hc1
 clear hr1 hc1
 have HB := Aside0.mk (Below.refl w.heap.size w)
 have H : (if (l1.length : Int) > 1048576 then (some true) else ((laws_szSystem.f k l0_0 l0_1 1048576).bind fun t1153 => (if t1153 < 0 then (some true) else ((laws_toSystem.f k l0_0 l0_1).bind fun bt1154 => ((laws_toIntS.f k l1).bind fun t1160 => ((spec_RulesCommute.f k bt1154.1 bt1154.2 t1160 a2 a3).bind fun t1163 => ((laws_toSystem.f k l0_0 l0_1).bind fun bt1164 => ((laws_toIntS.f k l1).bind fun t1171 => ((impl_RulesCommute.f k bt1164.1 bt1164.2 t1171 a2 a3).bind fun t1174 => (if (t1174 != t1163) = true then (some false) else ((laws_toSystem.f k l0_0 l0_1).bind fun bt1175 => ((laws_eqSystem.f k bt1164.1 bt1164.2 bt1175.1 bt1175.2).bind fun t1181 => (if t1181 = true then ((laws_toIntS.f k l1).bind fun t1182 => ((laws_eqIntS.f k t1171 t1182).bind fun t1185 => (if t1185 = true then (some true) else (some false)))) else (some false)))))))))))))) = some r := h
 clear h
 by_cases c5 : (l1.length : Int) > 1048576
 case pos =>
  rw [if_pos c5] at H
  have c5b0 : decide (1048576 < (l1.length : Int)) = true := decide_eq_true c5
  have c5b1 : decide (1048576 < l1.length) = true := decide_eq_true (by omega)
  clear c5
  obtain rfl := Option.some.inj H
  go_enter Try.func14, Try.ntmps14
  go_wp2_with (first | ((with_reducible refine gate_dst (N := 4) rfl ?_); refine box_event ?hg (N := 4) ?hd (cs := #[.slice A0_0 l0_0.length c0_0, .slice A0_1 l0_1.length c0_1]) (t := 25) ?hr ?_; (case hd => rfl); (case hg => rfl); (case hr => first | (go_simp; done) | (go_simp; rfl)); intro gb1152 hg w6 hbox hb; have n0_ := Aside0.mk (below_step (bz HB) hb); have n1_ := Aside0.mk (hbox); have n2_ := Aside0.mk ((by rw [hg]; exact (below_size (bz HB)) : w.heap.size ≤ gb1152)); have n3_ := Aside0.mk ((by rw [hg]; exact (below_size (bz HB)) : w.heap.size ≤ gb1152)); clear HB; have HB := n0_; have BK1152 := n1_; have GW1152 := n2_; have GE1152 := n3_; clear n0_ n1_ n2_ n3_; clear hb hbox hg))
  go_ret
  exact ⟨rz, bz1 HB GE1152⟩
 rw [if_neg c5] at H
 have c5b0 : decide (1048576 < (l1.length : Int)) = false := decide_eq_false c5
 have c5b1 : decide (1048576 < l1.length) = false := decide_eq_false (by omega)
 clear c5
 replace H := Option.bind_eq_some_iff.mp H
 obtain ⟨t1153, A70, H⟩ := H
 have A7 := Aside0.mk A70
 clear A70
 by_cases c8 : t1153 < 0
 case pos =>
  rw [if_pos c8] at H
  have c8b0 : decide (t1153 < 0) = true := decide_eq_true c8
  clear c8
  obtain rfl := Option.some.inj H
  go_enter Try.func14, Try.ntmps14
  go_wp2_with (first | ((with_reducible refine gate_dst (N := 4) rfl ?_); refine box_event ?hg (N := 4) ?hd (cs := #[.slice A0_0 l0_0.length c0_0, .slice A0_1 l0_1.length c0_1]) (t := 25) ?hr ?_; (case hd => rfl); (case hg => rfl); (case hr => first | (go_simp; done) | (go_simp; rfl)); intro gb1152 hg w9 hbox hb; have n0_ := Aside0.mk (below_step (bz HB) hb); have n1_ := Aside0.mk (hbox); have n2_ := Aside0.mk ((by rw [hg]; exact (below_size (bz HB)) : w.heap.size ≤ gb1152)); have n3_ := Aside0.mk ((by rw [hg]; exact (below_size (bz HB)) : w.heap.size ≤ gb1152)); clear HB; have HB := n0_; have BK1152 := n1_; have GW1152 := n2_; have GE1152 := n3_; clear n0_ n1_ n2_ n3_; clear hb hbox hg; have hcz10_0 : w9.cell? ⟨gb1152, 0, none⟩ = some (.slice A0_0 l0_0.length c0_0) := (blk_cell BK1152.out 0).trans rfl; have hcz10_1 : w9.cell? ⟨gb1152, 1, none⟩ = some (.slice A0_1 l0_1.length c0_1) := (blk_cell BK1152.out 1).trans rfl; have hfz10_0 := blk_frozen BK1152.out 0; have hfz10_1 := blk_frozen BK1152.out 1) | ((with_reducible refine gate_callee (f := 15) rfl ?_); refine goesL_ (some 19) rfl rfl Try.func15 (by kernel_rfl) rfl #[.agg #[.slice A0_0 l0_0.length c0_0, .slice A0_1 l0_1.length c0_1], .int .i64 1048576] rfl az ?_; (with_reducible refine (laws_szSystem.calls k _ _ l0_0 _ _ l0_1 1048576 t1153 _ ?side1 HC0_0.out ?side3 HC0_1.out A7.out).mono ?_); (case side1 => exact cz HR0_0 HB); (case side3 => exact cz HR0_1 HB); rintro e w11 ⟨rfl, hb⟩; refine ⟨_, rfl, ?_⟩; replace BK1152 := Aside0.mk (blk_below (g := gb1152) (o := .cells #[.slice A0_0 l0_0.length c0_0, .slice A0_1 l0_1.length c0_1] 25 (0, 0)) (kz BK1152) hb); replace HB := Aside0.mk (below_step (bz1 HB GE1152) hb); clear hb))
  go_ret
  exact ⟨rz, bz1 HB GE1152⟩
 rw [if_neg c8] at H
 have c8b0 : decide (t1153 < 0) = false := decide_eq_false c8
 clear c8
 replace H := Option.bind_eq_some_iff.mp H
 obtain ⟨⟨t1154, t1157⟩, A120, H⟩ := H
 dsimp only at H
 have A12 := Aside0.mk A120
 clear A120
 replace H := Option.bind_eq_some_iff.mp H
 obtain ⟨t1160, A130, H⟩ := H
 have A13 := Aside0.mk A130
 clear A130
 replace H := Option.bind_eq_some_iff.mp H
 obtain ⟨t1163, A140, H⟩ := H
 have A14 := Aside0.mk A140
 clear A140
 replace H := Option.bind_eq_some_iff.mp H
 obtain ⟨⟨t1164, t1167⟩, A150, H⟩ := H
 dsimp only at H
 have A15 := Aside0.mk A150
 clear A150
 replace H := Option.bind_eq_some_iff.mp H
 obtain ⟨t1171, A160, H⟩ := H
 have A16 := Aside0.mk A160
 clear A160
 replace H := Option.bind_eq_some_iff.mp H
 obtain ⟨t1174, A170, H⟩ := H
 have A17 := Aside0.mk A170
 clear A170
 by_cases c18 : (t1174 != t1163) = true
 case pos =>
  rw [if_pos c18] at H
  have c18b0 : (t1174 != t1163) = true := c18
  (try (have c18b1 : decide (t1174 = t1163) = false := by simpa using c18))
  (try (have c18b2 : (t1174 == t1163) = false := by simpa using c18))
  (try (have c18b3 : ¬ (t1174 = t1163) := by simpa using c18))
  clear c18
  exact absurd ((Option.some.inj H).trans HR_.out) (by decide)
 rw [if_neg c18] at H
 have c18b0 : (t1174 != t1163) = false := by simpa using c18
 (try (have c18b1 : decide (t1174 = t1163) = true := by simpa using c18))
 (try (have c18b2 : (t1174 == t1163) = true := by simpa using c18))
 clear c18
 replace H := Option.bind_eq_some_iff.mp H
 obtain ⟨⟨t1175, t1178⟩, A190, H⟩ := H
 dsimp only at H
 have A19 := Aside0.mk A190
 clear A190
 replace H := Option.bind_eq_some_iff.mp H
 obtain ⟨t1181, A200, H⟩ := H
 have A20 := Aside0.mk A200
 clear A200
 by_cases c21 : t1181 = true
 case neg =>
  replace c21 := Bool.eq_false_iff.mpr c21
  subst c21
  rw [if_neg nt_] at H
  exact absurd ((Option.some.inj H).trans HR_.out) (by decide)
 subst c21
 rw [if_pos rfl] at H
 replace H := Option.bind_eq_some_iff.mp H
 obtain ⟨t1182, A220, H⟩ := H
 have A22 := Aside0.mk A220
 clear A220
 replace H := Option.bind_eq_some_iff.mp H
 obtain ⟨t1185, A230, H⟩ := H
 have A23 := Aside0.mk A230
 clear A230
 by_cases c24 : t1185 = true
 case neg =>
  replace c24 := Bool.eq_false_iff.mpr c24
  subst c24
  rw [if_neg nt_] at H
  exact absurd ((Option.some.inj H).trans HR_.out) (by decide)
 subst c24
 rw [if_pos rfl] at H
 obtain rfl := Option.some.inj H
 go_enter Try.func14, Try.ntmps14
 try go_wp2_with (first | ((with_reducible refine gate_dst (N := 4) rfl ?_); refine box_event ?hg (N := 4) ?hd (cs := #[.slice A0_0 l0_0.length c0_0, .slice A0_1 l0_1.length c0_1]) (t := 25) ?hr ?_; (case hd => rfl); (case hg => rfl); (case hr => first | (go_simp; done) | (go_simp; rfl)); intro gb1152 hg w25 hbox hb; have n0_ := Aside0.mk (below_step (bz HB) hb); have n1_ := Aside0.mk (hbox); have n2_ := Aside0.mk ((by rw [hg]; exact (below_size (bz HB)) : w.heap.size ≤ gb1152)); have n3_ := Aside0.mk ((by rw [hg]; exact (below_size (bz HB)) : w.heap.size ≤ gb1152)); clear HB; have HB := n0_; have BK1152 := n1_; have GW1152 := n2_; have GE1152 := n3_; clear n0_ n1_ n2_ n3_; clear hb hbox hg; have hcz26_0 : w25.cell? ⟨gb1152, 0, none⟩ = some (.slice A0_0 l0_0.length c0_0) := (blk_cell BK1152.out 0).trans rfl; have hcz26_1 : w25.cell? ⟨gb1152, 1, none⟩ = some (.slice A0_1 l0_1.length c0_1) := (blk_cell BK1152.out 1).trans rfl; have hfz26_0 := blk_frozen BK1152.out 0; have hfz26_1 := blk_frozen BK1152.out 1) | ((with_reducible refine gate_callee (f := 15) rfl ?_); refine goesL_ (some 19) rfl rfl Try.func15 (by kernel_rfl) rfl #[.agg #[.slice A0_0 l0_0.length c0_0, .slice A0_1 l0_1.length c0_1], .int .i64 1048576] rfl az ?_; (with_reducible refine (laws_szSystem.calls k _ _ l0_0 _ _ l0_1 1048576 t1153 _ ?side1 HC0_0.out ?side3 HC0_1.out A7.out).mono ?_); (case side1 => exact cz HR0_0 HB); (case side3 => exact cz HR0_1 HB); rintro e w27 ⟨rfl, hb⟩; refine ⟨_, rfl, ?_⟩; replace BK1152 := Aside0.mk (blk_below (g := gb1152) (o := .cells #[.slice A0_0 l0_0.length c0_0, .slice A0_1 l0_1.length c0_1] 25 (0, 0)) (kz BK1152) hb); replace HB := Aside0.mk (below_step (bz1 HB GE1152) hb); clear hb; have hcz28_0 : w27.cell? ⟨gb1152, 0, none⟩ = some (.slice A0_0 l0_0.length c0_0) := (blk_cell BK1152.out 0).trans rfl; have hcz28_1 : w27.cell? ⟨gb1152, 1, none⟩ = some (.slice A0_1 l0_1.length c0_1) := (blk_cell BK1152.out 1).trans rfl; have hfz28_0 := blk_frozen BK1152.out 0; have hfz28_1 := blk_frozen BK1152.out 1) | ((with_reducible refine gate_callee (f := 17) rfl ?_); refine goesL_ (some 23) rfl rfl Try.func17 (by kernel_rfl) rfl #[.agg #[.slice A0_0 l0_0.length c0_0, .slice A0_1 l0_1.length c0_1]] rfl az ?_; (with_reducible refine (laws_toSystem.calls k _ _ l0_0 _ _ l0_1 t1154 t1157 _ ?side1 HC0_0.out ?side3 HC0_1.out A12.out).mono ?_); (case side1 => exact cz HR0_0 HB); (case side3 => exact cz HR0_1 HB); rintro e w29 ⟨v1155, v1158, rfl, ho0, ho1, hb⟩; refine ⟨_, rfl, ?_⟩; have HO1156 := Aside0.mk (Kd.R_lower ho0 (below_size (bz1 HB GE1152))); have HO1159 := Aside0.mk (Kd.R_lower ho1 (below_size (bz1 HB GE1152))); replace BK1152 := Aside0.mk (blk_below (g := gb1152) (o := .cells #[.slice A0_0 l0_0.length c0_0, .slice A0_1 l0_1.length c0_1] 25 (0, 0)) (kz BK1152) hb); replace HB := Aside0.mk (below_step (bz1 HB GE1152) hb); clear hb; (try clear ho0); (try clear ho1)) | ((with_reducible refine gate_callee (f := 27) rfl ?_); refine goesL_ (some 25) rfl rfl Try.func27 (by kernel_rfl) rfl #[.slice A1 l1.length c1] rfl az ?_; (with_reducible refine (laws_toIntS.calls k _ _ l1 t1160 _ ?side1 HC1.out A13.out).mono ?_); (case side1 => exact cz HR1 HB); rintro e w30 ⟨v1161, rfl, ho0, hb⟩; refine ⟨_, rfl, ?_⟩; replace HO1156 := Aside0.mk (Kd.R_below (ozR HO1156) hb); replace HO1159 := Aside0.mk (Kd.R_elder' (ozR HO1159) (Kd.R_base ho0) hb); have HO1162 := Aside0.mk (Kd.R_lower ho0 (below_size (bz1 HB GE1152))); replace BK1152 := Aside0.mk (blk_below (g := gb1152) (o := .cells #[.slice A0_0 l0_0.length c0_0, .slice A0_1 l0_1.length c0_1] 25 (0, 0)) (kz BK1152) hb); replace HB := Aside0.mk (below_step (bz1 HB GE1152) hb); clear hb; (try clear ho0); obtain ⟨Ao31, co31, eo31⟩ := Kd.R_slice HO1156.out; subst eo31; obtain ⟨Ao32, co32, eo32⟩ := Kd.R_slice HO1159.out; subst eo32; obtain ⟨Ao33, co33, eo33⟩ := Kd.R_slice HO1162.out; subst eo33) | ((with_reducible refine gate_callee (f := 45) rfl ?_); refine goesL_ (some 28) rfl rfl Try.func45 (by kernel_rfl) rfl #[.agg #[.slice Ao31 t1154.length co31, .slice Ao32 t1157.length co32], .slice Ao33 t1160.length co33, .int .i64 a2, .int .i64 a3] rfl az ?_; (with_reducible refine (spec_RulesCommute.calls k _ _ t1154 _ _ t1157 _ _ t1160 a2 a3 t1163 _ ?side1 ?side2 ?side3 ?side4 ?side5 ?side6 A14.out).mono ?_); (case side1 => exact cz1 (Kd.R_reads' HO1156.out).2.2); (case side2 => exact (Kd.R_reads' HO1156.out).2.1); (case side3 => exact cz1 (Kd.R_reads' HO1159.out).2.2); (case side4 => exact (Kd.R_reads' HO1159.out).2.1); (case side5 => exact cz1 (Kd.R_reads' HO1162.out).2.2); (case side6 => exact (Kd.R_reads' HO1162.out).2.1); rintro e w34 ⟨rfl, hb⟩; refine ⟨_, rfl, ?_⟩; replace HO1156 := Aside0.mk (Kd.R_below (ozR HO1156) hb); replace HO1159 := Aside0.mk (Kd.R_below (ozR HO1159) hb); replace HO1162 := Aside0.mk (Kd.R_below (ozR HO1162) hb); replace BK1152 := Aside0.mk (blk_below (g := gb1152) (o := .cells #[.slice A0_0 l0_0.length c0_0, .slice A0_1 l0_1.length c0_1] 25 (0, 0)) (kz BK1152) hb); replace HB := Aside0.mk (below_step (bz1 HB GE1152) hb); clear hb; have hcz35_0 : w34.cell? ⟨gb1152, 0, none⟩ = some (.slice A0_0 l0_0.length c0_0) := (blk_cell BK1152.out 0).trans rfl; have hcz35_1 : w34.cell? ⟨gb1152, 1, none⟩ = some (.slice A0_1 l0_1.length c0_1) := (blk_cell BK1152.out 1).trans rfl; have hfz35_0 := blk_frozen BK1152.out 0; have hfz35_1 := blk_frozen BK1152.out 1) | ((with_reducible refine gate_callee (f := 17) rfl ?_); refine goesL_ (some 30) rfl rfl Try.func17 (by kernel_rfl) rfl #[.agg #[.slice A0_0 l0_0.length c0_0, .slice A0_1 l0_1.length c0_1]] rfl az ?_; (with_reducible refine (laws_toSystem.calls k _ _ l0_0 _ _ l0_1 t1164 t1167 _ ?side1 HC0_0.out ?side3 HC0_1.out A15.out).mono ?_); (case side1 => exact cz HR0_0 HB); (case side3 => exact cz HR0_1 HB); rintro e w36 ⟨v1165, v1168, rfl, ho0, ho1, hb⟩; refine ⟨_, rfl, ?_⟩; have n0_ := Aside0.mk (Kd.R_elder' (ozR HO1156) (Kd.R_base ho0) hb); have n1_ := Aside0.mk (Kd.R_elder' (ozR HO1159) (Kd.R_base ho1) hb); have n2_ := Aside0.mk (Kd.R_below (ozR HO1162) hb); have n3_ := Aside0.mk (Kd.R_lower (Kd.R_new' ho0 (Kd.R_lt (ozR HO1156))) (below_size (bz1 HB GE1152))); have n4_ := Aside0.mk (Kd.R_lower (Kd.R_new' (Kd.R_new' ho1 (Kd.R_lt (ozR HO1159))) (Kd.R_lt (ozR HO1162))) (below_size (bz1 HB GE1152))); have n5_ := Aside0.mk (blk_below (g := gb1152) (o := .cells #[.slice A0_0 l0_0.length c0_0, .slice A0_1 l0_1.length c0_1] 25 (0, 0)) (kz BK1152) hb); have n6_ := Aside0.mk (below_step (bz1 HB GE1152) hb); clear HO1156; clear HO1159; clear HO1162; clear BK1152; clear HB; have HO1156 := n0_; have HO1159 := n1_; have HO1162 := n2_; have HO1166 := n3_; have HO1169 := n4_; have BK1152 := n5_; have HB := n6_; clear n0_ n1_ n2_ n3_ n4_ n5_ n6_; clear hb; (try clear ho0); (try clear ho1)) | ((with_reducible refine gate_dst (N := 11) rfl ?_); refine box_event ?hg (N := 11) ?hd (cs := #[.slice none 0 0, .slice none 0 0]) (t := 31) ?hr ?_; (case hd => rfl); (case hg => rfl); (case hr => first | (go_simp; done) | (go_simp; rfl)); intro gb1170 hg w37 hbox hb; have n0_ := Aside0.mk (Kd.R_below (ozR HO1156) hb); have n1_ := Aside0.mk (Kd.R_below (ozR HO1159) hb); have n2_ := Aside0.mk (Kd.R_below (ozR HO1162) hb); have n3_ := Aside0.mk (Kd.R_below (ozR HO1166) hb); have n4_ := Aside0.mk (Kd.R_below (ozR HO1169) hb); have n5_ := Aside0.mk (blk_below (g := gb1152) (o := .cells #[.slice A0_0 l0_0.length c0_0, .slice A0_1 l0_1.length c0_1] 25 (0, 0)) (kz BK1152) hb); have n6_ := Aside0.mk (below_step (bz1 HB GE1152) hb); have n7_ := Aside0.mk (hbox); have n8_ := Aside0.mk ((by rw [hg]; exact (below_size (bz1 HB GE1152)) : w.heap.size ≤ gb1170)); have n9_ := Aside0.mk ((by rw [hg]; exact (below_size (bz1 HB GE1152)) : w.heap.size ≤ gb1170)); have n10_ := Aside0.mk ((by rw [hg]; exact Nat.ne_of_lt (blk_lt (g := gb1152) (o := .cells #[.slice A0_0 l0_0.length c0_0, .slice A0_1 l0_1.length c0_1] 25 (0, 0)) (kz BK1152)) : gb1152 ≠ gb1170)); have n11_ := Aside0.mk ((by rw [hg]; exact Nat.ne_of_gt (blk_lt (g := gb1152) (o := .cells #[.slice A0_0 l0_0.length c0_0, .slice A0_1 l0_1.length c0_1] 25 (0, 0)) (kz BK1152)) : gb1170 ≠ gb1152)); clear HO1156; clear HO1159; clear HO1162; clear HO1166; clear HO1169; clear BK1152; clear HB; have HO1156 := n0_; have HO1159 := n1_; have HO1162 := n2_; have HO1166 := n3_; have HO1169 := n4_; have BK1152 := n5_; have HB := n6_; have BK1170 := n7_; have GW1170 := n8_; have GE1170 := n9_; have NB1152_1170 := n10_; have NB1170_1152 := n11_; clear n0_ n1_ n2_ n3_ n4_ n5_ n6_ n7_ n8_ n9_ n10_ n11_; clear hb hbox hg; obtain ⟨Ao38, co38, eo38⟩ := Kd.R_slice HO1166.out; subst eo38; have hnb39 := NB1170_1152.out; have hnc39 := NB1152_1170.out; have hcz40_0 : w37.cell? ⟨gb1170, 0, none⟩ = some (.slice none 0 0) := (blk_cell BK1170.out 0).trans rfl; have hcz40_1 : w37.cell? ⟨gb1170, 1, none⟩ = some (.slice none 0 0) := (blk_cell BK1170.out 1).trans rfl; have hfz40_0 := blk_frozen BK1170.out 0; have hfz40_1 := blk_frozen BK1170.out 1; obtain ⟨Ao41, co41, eo41⟩ := Kd.R_slice HO1169.out; subst eo41) | ((with_reducible refine gate_callee (f := 27) rfl ?_); refine goesL_ (some 32) rfl rfl Try.func27 (by kernel_rfl) rfl #[.slice A1 l1.length c1] rfl az ?_; (with_reducible refine (laws_toIntS.calls k _ _ l1 t1171 _ ?side1 HC1.out A16.out).mono ?_); (case side1 => exact Kd.C_below HR1.out (bz2 HB GE1152 GE1170)); rintro e w42 ⟨v1172, rfl, ho0, hb⟩; refine ⟨_, rfl, ?_⟩; have n0_ := Aside0.mk (Kd.R_below (by (with_reducible repeat (first | apply Kd.R_alloc | apply Kd.R_drewN | apply Kd.R_drew)); exact (Kd.R_mono (Kd.R_far (p := ⟨gb1170, 1, none⟩) (Kd.R_far (p := ⟨gb1170, 0, none⟩) (Kd.R_types HO1156.out BK1170.out (by decide)) (fun _ hk => hk.2) (.slice Ao38 t1164.length co38)) (fun _ hk => hk.2) (.slice Ao41 t1167.length co41)) (fun _ h_ => h_.1))) hb); have n1_ := Aside0.mk (Kd.R_elder' (by (with_reducible repeat (first | apply Kd.R_alloc | apply Kd.R_drewN | apply Kd.R_drew)); exact (Kd.R_mono (Kd.R_far (p := ⟨gb1170, 1, none⟩) (Kd.R_far (p := ⟨gb1170, 0, none⟩) (Kd.R_types HO1159.out BK1170.out (by decide)) (fun _ hk => hk.2) (.slice Ao38 t1164.length co38)) (fun _ hk => hk.2) (.slice Ao41 t1167.length co41)) (fun _ h_ => h_.1))) (Kd.R_base ho0) hb); have n2_ := Aside0.mk (Kd.R_elder' (by (with_reducible repeat (first | apply Kd.R_alloc | apply Kd.R_drewN | apply Kd.R_drew)); exact (Kd.R_mono (Kd.R_far (p := ⟨gb1170, 1, none⟩) (Kd.R_far (p := ⟨gb1170, 0, none⟩) (Kd.R_types HO1162.out BK1170.out (by decide)) (fun _ hk => hk.2) (.slice Ao38 t1164.length co38)) (fun _ hk => hk.2) (.slice Ao41 t1167.length co41)) (fun _ h_ => h_.1))) (Kd.R_base ho0) hb); have n3_ := Aside0.mk (Kd.R_below (by (with_reducible repeat (first | apply Kd.R_alloc | apply Kd.R_drewN | apply Kd.R_drew)); exact (Kd.R_mono (Kd.R_far (p := ⟨gb1170, 1, none⟩) (Kd.R_far (p := ⟨gb1170, 0, none⟩) (Kd.R_types HO1166.out BK1170.out (by decide)) (fun _ hk => hk.2) (.slice Ao38 t1164.length co38)) (fun _ hk => hk.2) (.slice Ao41 t1167.length co41)) (fun _ h_ => h_.1))) hb); have n4_ := Aside0.mk (Kd.R_elder' (by (with_reducible repeat (first | apply Kd.R_alloc | apply Kd.R_drewN | apply Kd.R_drew)); exact (Kd.R_mono (Kd.R_far (p := ⟨gb1170, 1, none⟩) (Kd.R_far (p := ⟨gb1170, 0, none⟩) (Kd.R_types HO1169.out BK1170.out (by decide)) (fun _ hk => hk.2) (.slice Ao38 t1164.length co38)) (fun _ hk => hk.2) (.slice Ao41 t1167.length co41)) (fun _ h_ => h_.1))) (Kd.R_base ho0) hb); have n5_ := Aside0.mk (Kd.R_lower (Kd.R_new' ho0 (Kd.R_lt (by (with_reducible repeat (first | apply Kd.R_alloc | apply Kd.R_drewN | apply Kd.R_drew)); exact (Kd.R_mono (Kd.R_far (p := ⟨gb1170, 1, none⟩) (Kd.R_far (p := ⟨gb1170, 0, none⟩) (Kd.R_types HO1162.out BK1170.out (by decide)) (fun _ hk => hk.2) (.slice Ao38 t1164.length co38)) (fun _ hk => hk.2) (.slice Ao41 t1167.length co41)) (fun _ h_ => h_.1))))) (below_size (bz2 HB GE1152 GE1170))); have n6_ := Aside0.mk (blk_below (g := gb1152) (o := .cells #[.slice A0_0 l0_0.length c0_0, .slice A0_1 l0_1.length c0_1] 25 (0, 0)) (by (with_reducible repeat (first | refine blk_drewN ?_ _ | refine blk_drew ?_ | refine blk_alloc ?_ _)); refine blk_far ?_ NB1152_1170.out _; (with_reducible repeat (first | refine blk_drewN ?_ _ | refine blk_drew ?_ | refine blk_alloc ?_ _)); refine blk_far ?_ NB1152_1170.out _; exact kz BK1152) hb); have n7_ := Aside0.mk (blk_below (g := gb1170) (o := .cells #[.slice Ao38 t1164.length co38, .slice Ao41 t1167.length co41] 31 (0, 0)) (by (with_reducible repeat (first | refine blk_drewN ?_ _ | refine blk_drew ?_ | refine blk_alloc ?_ _)); refine blk_put (cs := #[.slice Ao38 t1164.length co38, .slice none 0 0]) ?_ 1 _ rfl; (with_reducible repeat (first | refine blk_drewN ?_ _ | refine blk_drew ?_ | refine blk_alloc ?_ _)); refine blk_put (cs := #[.slice none 0 0, .slice none 0 0]) ?_ 0 _ rfl; exact kz BK1170) hb); have n8_ := Aside0.mk (below_step (bz2 HB GE1152 GE1170) hb); clear HO1156; clear HO1159; clear HO1162; clear HO1166; clear HO1169; clear BK1152; clear BK1170; clear HB; have HO1156 := n0_; have HO1159 := n1_; have HO1162 := n2_; have HO1166 := n3_; have HO1169 := n4_; have HO1173 := n5_; have BK1152 := n6_; have BK1170 := n7_; have HB := n8_; clear n0_ n1_ n2_ n3_ n4_ n5_ n6_ n7_ n8_; clear hb; (try clear hk); (try clear ho0); have hcz43_0 : w42.cell? ⟨gb1170, 0, none⟩ = some (.slice Ao38 t1164.length co38) := (blk_cell BK1170.out 0).trans rfl; have hcz43_1 : w42.cell? ⟨gb1170, 1, none⟩ = some (.slice Ao41 t1167.length co41) := (blk_cell BK1170.out 1).trans rfl; have hfz43_0 := blk_frozen BK1170.out 0; have hfz43_1 := blk_frozen BK1170.out 1; obtain ⟨Ao44, co44, eo44⟩ := Kd.R_slice HO1173.out; subst eo44) | ((with_reducible refine gate_callee (f := 46) rfl ?_); refine goesL_ (some 37) rfl rfl Try.func46 (by kernel_rfl) rfl #[.agg #[.slice Ao38 t1164.length co38, .slice Ao41 t1167.length co41], .slice Ao44 t1171.length co44, .int .i64 a2, .int .i64 a3] rfl az ?_; (with_reducible refine (impl_RulesCommute.calls k _ _ t1164 _ _ t1167 _ _ t1171 a2 a3 t1174 _ ?side1 ?side2 ?side3 ?side4 ?side5 ?side6 A17.out).mono ?_); (case side1 => exact cz1 (Kd.R_reads' HO1166.out).2.2); (case side2 => exact (Kd.R_reads' HO1166.out).2.1); (case side3 => exact cz1 (Kd.R_reads' HO1169.out).2.2); (case side4 => exact (Kd.R_reads' HO1169.out).2.1); (case side5 => exact cz1 (Kd.R_reads' HO1173.out).2.2); (case side6 => exact (Kd.R_reads' HO1173.out).2.1); rintro e w45 ⟨rfl, hb⟩; refine ⟨_, rfl, ?_⟩; replace HO1156 := Aside0.mk (Kd.R_below (ozR HO1156) hb); replace HO1159 := Aside0.mk (Kd.R_below (ozR HO1159) hb); replace HO1162 := Aside0.mk (Kd.R_below (ozR HO1162) hb); replace HO1166 := Aside0.mk (Kd.R_below (ozR HO1166) hb); replace HO1169 := Aside0.mk (Kd.R_below (ozR HO1169) hb); replace HO1173 := Aside0.mk (Kd.R_below (ozR HO1173) hb); replace BK1152 := Aside0.mk (blk_below (g := gb1152) (o := .cells #[.slice A0_0 l0_0.length c0_0, .slice A0_1 l0_1.length c0_1] 25 (0, 0)) (kz BK1152) hb); replace BK1170 := Aside0.mk (blk_below (g := gb1170) (o := .cells #[.slice Ao38 t1164.length co38, .slice Ao41 t1167.length co41] 31 (0, 0)) (kz BK1170) hb); replace HB := Aside0.mk (below_step (bz2 HB GE1152 GE1170) hb); clear hb))
 have n0_ := Aside0.mk (Kd.R_drew HO1156.out)
 have n1_ := Aside0.mk (Kd.R_drew HO1159.out)
 have n2_ := Aside0.mk (Kd.R_drew HO1162.out)
 have n3_ := Aside0.mk (Kd.R_drew HO1166.out)
 have n4_ := Aside0.mk (Kd.R_drew HO1169.out)
 have n5_ := Aside0.mk (Kd.R_drew HO1173.out)
 have n6_ := Aside0.mk (blk_drew BK1152.out)
 have n7_ := Aside0.mk (blk_drew BK1170.out)
 have n8_ := Aside0.mk (below_drew1 HB.out)
 clear HO1156
 clear HO1159
 clear HO1162
 clear HO1166
 clear HO1169
 clear HO1173
 clear BK1152
 clear BK1170
 clear HB
 have HO1156 := n0_
 have HO1159 := n1_
 have HO1162 := n2_
 have HO1166 := n3_
 have HO1169 := n4_
 have HO1173 := n5_
 have BK1152 := n6_
 have BK1170 := n7_
 have HB := n8_
 clear n0_ n1_ n2_ n3_ n4_ n5_ n6_ n7_ n8_
 refine start_ (n := 5) (S := fun w' => w'.cell? ⟨gb1170, 0, none⟩ = some (.slice Ao38 t1164.length co38) ∧ w'.cell? ⟨gb1170, 1, none⟩ = some (.slice Ao41 t1167.length co41) ∧ w'.cell? ⟨gb1152, 0, none⟩ = some (.slice A0_0 l0_0.length c0_0) ∧ w'.cell? ⟨gb1152, 1, none⟩ = some (.slice A0_1 l0_1.length c0_1)) (ds := []) #[false, false, false, false, false] (by kernel_rfl) rfl rfl ⟨(blk_cell BK1170.out 0).trans rfl, (blk_cell BK1170.out 1).trans rfl, (blk_cell BK1152.out 0).trans rfl, (blk_cell BK1152.out 1).trans rfl⟩ (fun hHeld => ?_)
 generalize w45.drew = w46 at HO1156 HO1159 HO1162 HO1166 HO1169 HO1173 BK1152 BK1170 HB hHeld ⊢
 refine take_ (i := 0) (N := some 41) (v := ?_) (a' := ?_) #[true, false, false, false, false] rfl rfl (by kernel_rfl) (fun _ _ _ h => h) (Or.inl ⟨by rfl, ?_⟩) hHeld ?_ ?_
 rotate_left
 ·
  rintro w' ⟨s0, s1, s2, s3⟩
  go_simp
  with_reducible rfl
 rotate_left
 ·
  simp only [Act.put, sb_, sc0_, sc1_, i64_w, i32_w]
  rfl
 refine take_ (i := 1) (N := some 42) (v := ?_) (a' := ?_) #[true, true, false, false, false] rfl rfl (by kernel_rfl) (fun _ _ _ h => h) (Or.inl ⟨by rfl, ?_⟩) hHeld ?_ ?_
 rotate_left
 ·
  rintro w' ⟨s0, s1, s2, s3⟩
  go_simp
  with_reducible rfl
 rotate_left
 ·
  simp only [Act.put, sb_, sc0_, sc1_, i64_w, i32_w]
  rfl
 refine one_ (i := 2) (N := some 43) #[true, true, true, false, false] rfl rfl (by kernel_rfl) (by decide) (fun K hK => ?_)
 refine goes_ Try.func17 (by kernel_rfl) rfl #[.agg #[.slice A0_0 l0_0.length c0_0, .slice A0_1 l0_1.length c0_1]] (by rfl) rfl rfl az ?_
 with_reducible refine (laws_toSystem.calls k _ _ l0_0 _ _ l0_1 t1175 t1178 _ ?side1 ?side2 ?side3 ?side4 A19.out).mono ?_
 (case side1 => exact cz HR0_0 HB)
 (case side2 => exact HC0_0.out)
 (case side3 => exact cz HR0_1 HB)
 (case side4 => exact HC0_1.out)
 rintro e w47 ⟨v1176, v1179, rfl, ho0, ho1, hb⟩
 refine ⟨_, rfl, ?_⟩
 have n0_ := Aside0.mk (Kd.R_elder' (ozR HO1156) (Kd.R_base ho0) hb)
 have n1_ := Aside0.mk (Kd.R_elder' (ozR HO1159) (Kd.R_base ho1) hb)
 have n2_ := Aside0.mk (Kd.R_below (ozR HO1162) hb)
 have n3_ := Aside0.mk (Kd.R_elder' (ozR HO1166) (Kd.R_base ho0) hb)
 have n4_ := Aside0.mk (Kd.R_elder' (ozR HO1169) (Kd.R_base ho1) hb)
 have n5_ := Aside0.mk (Kd.R_below (ozR HO1173) hb)
 have n6_ := Aside0.mk (Kd.R_lower (Kd.R_new' (Kd.R_new' ho0 (Kd.R_lt (ozR HO1156))) (Kd.R_lt (ozR HO1166))) (below_size (bz2 HB GE1152 GE1170)))
 have n7_ := Aside0.mk (Kd.R_lower (Kd.R_new' (Kd.R_new' (Kd.R_new' (Kd.R_new' ho1 (Kd.R_lt (ozR HO1159))) (Kd.R_lt (ozR HO1162))) (Kd.R_lt (ozR HO1169))) (Kd.R_lt (ozR HO1173))) (below_size (bz2 HB GE1152 GE1170)))
 have n8_ := Aside0.mk (blk_below (g := gb1152) (o := .cells #[.slice A0_0 l0_0.length c0_0, .slice A0_1 l0_1.length c0_1] 25 (0, 0)) (kz BK1152) hb)
 have n9_ := Aside0.mk (blk_below (g := gb1170) (o := .cells #[.slice Ao38 t1164.length co38, .slice Ao41 t1167.length co41] 31 (0, 0)) (kz BK1170) hb)
 have n10_ := Aside0.mk (below_step (bz2 HB GE1152 GE1170) hb)
 clear HO1156
 clear HO1159
 clear HO1162
 clear HO1166
 clear HO1169
 clear HO1173
 clear BK1152
 clear BK1170
 clear HB
 have HO1156 := n0_
 have HO1159 := n1_
 have HO1162 := n2_
 have HO1166 := n3_
 have HO1169 := n4_
 have HO1173 := n5_
 have HO1177 := n6_
 have HO1180 := n7_
 have BK1152 := n8_
 have BK1170 := n9_
 have HB := n10_
 clear n0_ n1_ n2_ n3_ n4_ n5_ n6_ n7_ n8_ n9_ n10_
 (try clear hb)
 (try clear hb2)
 (try clear hk)
 (try clear hi)
 (try clear ho0)
 (try clear ho1)
 obtain ⟨Ao48, co48, eo48⟩ := Kd.R_slice HO1177.out
 (first | subst eo48 | (injection eo48 with f1_ f2_ f3_; have f4_ := f1_.symm; have f5_ := f3_.symm; clear f1_ f2_ f3_; subst f4_; subst f5_))
 obtain ⟨Ao49, co49, eo49⟩ := Kd.R_slice HO1180.out
 (first | subst eo49 | (injection eo49 with f1_ f2_ f3_; have f4_ := f1_.symm; have f5_ := f3_.symm; clear f1_ f2_ f3_; subst f4_; subst f5_))
 refine hK.out _ _ ⟨(blk_cell BK1170.out 0).trans rfl, (blk_cell BK1170.out 1).trans rfl, (blk_cell BK1152.out 0).trans rfl, (blk_cell BK1152.out 1).trans rfl⟩ (fun hHeld => ?_)
 clear hK K
 refine norm_ (a' := ?_) ?_ ?_
 rotate_left
 ·
  show Act.put _ (some 43) _ = _
  simp only [Act.put, sb_, sc0_, sc1_, i64_w, i32_w]
  rfl
 refine one_ (i := 3) (N := some 44) #[true, true, true, true, false] rfl rfl (by kernel_rfl) (by decide) (fun K hK => ?_)
 refine goes_ Try.func19 (by kernel_rfl) rfl #[.agg #[.slice Ao38 t1164.length co38, .slice Ao41 t1167.length co41], .agg #[.slice Ao48 t1175.length co48, .slice Ao49 t1178.length co49]] (by rfl) rfl rfl az ?_
 with_reducible refine (laws_eqSystem.calls k _ _ t1164 _ _ t1167 _ _ t1175 _ _ t1178 true _ ?side1 ?side2 ?side3 ?side4 ?side5 ?side6 ?side7 ?side8 A20.out).mono ?_
 (case side1 => exact cz1 (Kd.R_reads' HO1166.out).2.2)
 (case side2 => exact (Kd.R_reads' HO1166.out).2.1)
 (case side3 => exact cz1 (Kd.R_reads' HO1169.out).2.2)
 (case side4 => exact (Kd.R_reads' HO1169.out).2.1)
 (case side5 => exact cz1 (Kd.R_reads' HO1177.out).2.2)
 (case side6 => exact (Kd.R_reads' HO1177.out).2.1)
 (case side7 => exact cz1 (Kd.R_reads' HO1180.out).2.2)
 (case side8 => exact (Kd.R_reads' HO1180.out).2.1)
 rintro e w50 ⟨rfl, hb⟩
 refine ⟨_, rfl, ?_⟩
 have n0_ := Aside0.mk (Kd.R_below (ozR HO1156) hb)
 have n1_ := Aside0.mk (Kd.R_below (ozR HO1159) hb)
 have n2_ := Aside0.mk (Kd.R_below (ozR HO1162) hb)
 have n3_ := Aside0.mk (Kd.R_below (ozR HO1166) hb)
 have n4_ := Aside0.mk (Kd.R_below (ozR HO1169) hb)
 have n5_ := Aside0.mk (Kd.R_below (ozR HO1173) hb)
 have n6_ := Aside0.mk (Kd.R_below (ozR HO1177) hb)
 have n7_ := Aside0.mk (Kd.R_below (ozR HO1180) hb)
 have n8_ := Aside0.mk (blk_below (g := gb1152) (o := .cells #[.slice A0_0 l0_0.length c0_0, .slice A0_1 l0_1.length c0_1] 25 (0, 0)) (kz BK1152) hb)
 have n9_ := Aside0.mk (blk_below (g := gb1170) (o := .cells #[.slice Ao38 t1164.length co38, .slice Ao41 t1167.length co41] 31 (0, 0)) (kz BK1170) hb)
 have n10_ := Aside0.mk (below_step (bz2 HB GE1152 GE1170) hb)
 clear HO1156
 clear HO1159
 clear HO1162
 clear HO1166
 clear HO1169
 clear HO1173
 clear HO1177
 clear HO1180
 clear BK1152
 clear BK1170
 clear HB
 have HO1156 := n0_
 have HO1159 := n1_
 have HO1162 := n2_
 have HO1166 := n3_
 have HO1169 := n4_
 have HO1173 := n5_
 have HO1177 := n6_
 have HO1180 := n7_
 have BK1152 := n8_
 have BK1170 := n9_
 have HB := n10_
 clear n0_ n1_ n2_ n3_ n4_ n5_ n6_ n7_ n8_ n9_ n10_
 (try clear hb)
 (try clear hb2)
 (try clear hk)
 (try clear hi)
 refine hK.out _ _ ⟨(blk_cell BK1170.out 0).trans rfl, (blk_cell BK1170.out 1).trans rfl, (blk_cell BK1152.out 0).trans rfl, (blk_cell BK1152.out 1).trans rfl⟩ (fun hHeld => ?_)
 clear hK K
 refine norm_ (a' := ?_) ?_ ?_
 rotate_left
 ·
  show Act.put _ (some 44) _ = _
  simp only [Act.put, sb_, sc0_, sc1_, i64_w, i32_w]
  rfl
 refine pure_ (i := 4) (N := some 45) (v := ?_) (a' := ?_) #[true, true, true, true, true] rfl rfl (by kernel_rfl) (fun _ _ _ h => h) (Or.inl ⟨by rfl, ?_⟩) ?_ ?_
 rotate_left
 ·
  intro w'
  go_simp
  with_reducible rfl
 rotate_left
 ·
  simp only [Act.put, sb_, sc0_, sc1_, i64_w, i32_w]
  rfl
 refine done_ (by kernel_rfl) ?_
 try go_wp2_with (first | ((with_reducible refine gate_callee (f := 27) rfl ?_); refine goesL_ (some 48) rfl rfl Try.func27 (by kernel_rfl) rfl #[.slice A1 l1.length c1] rfl az ?_; (with_reducible refine (laws_toIntS.calls k _ _ l1 t1182 _ ?side1 HC1.out A22.out).mono ?_); (case side1 => exact cz HR1 HB); rintro e w51 ⟨v1183, rfl, ho0, hb⟩; refine ⟨_, rfl, ?_⟩; have n0_ := Aside0.mk (Kd.R_below (ozR HO1156) hb); have n1_ := Aside0.mk (Kd.R_elder' (ozR HO1159) (Kd.R_base ho0) hb); have n2_ := Aside0.mk (Kd.R_elder' (ozR HO1162) (Kd.R_base ho0) hb); have n3_ := Aside0.mk (Kd.R_below (ozR HO1166) hb); have n4_ := Aside0.mk (Kd.R_elder' (ozR HO1169) (Kd.R_base ho0) hb); have n5_ := Aside0.mk (Kd.R_elder' (ozR HO1173) (Kd.R_base ho0) hb); have n6_ := Aside0.mk (Kd.R_below (ozR HO1177) hb); have n7_ := Aside0.mk (Kd.R_elder' (ozR HO1180) (Kd.R_base ho0) hb); have n8_ := Aside0.mk (Kd.R_lower (Kd.R_new' (Kd.R_new' ho0 (Kd.R_lt (ozR HO1162))) (Kd.R_lt (ozR HO1173))) (below_size (bz2 HB GE1152 GE1170))); have n9_ := Aside0.mk (blk_below (g := gb1152) (o := .cells #[.slice A0_0 l0_0.length c0_0, .slice A0_1 l0_1.length c0_1] 25 (0, 0)) (kz BK1152) hb); have n10_ := Aside0.mk (blk_below (g := gb1170) (o := .cells #[.slice Ao38 t1164.length co38, .slice Ao41 t1167.length co41] 31 (0, 0)) (kz BK1170) hb); have n11_ := Aside0.mk (below_step (bz2 HB GE1152 GE1170) hb); clear HO1156; clear HO1159; clear HO1162; clear HO1166; clear HO1169; clear HO1173; clear HO1177; clear HO1180; clear BK1152; clear BK1170; clear HB; have HO1156 := n0_; have HO1159 := n1_; have HO1162 := n2_; have HO1166 := n3_; have HO1169 := n4_; have HO1173 := n5_; have HO1177 := n6_; have HO1180 := n7_; have HO1184 := n8_; have BK1152 := n9_; have BK1170 := n10_; have HB := n11_; clear n0_ n1_ n2_ n3_ n4_ n5_ n6_ n7_ n8_ n9_ n10_ n11_; clear hb; (try clear ho0); obtain ⟨Ao52, co52, eo52⟩ := Kd.R_slice HO1184.out; subst eo52) | ((with_reducible refine gate_callee (f := 22) rfl ?_); refine goesL_ (some 49) rfl rfl Try.func22 (by kernel_rfl) rfl #[.slice Ao44 t1171.length co44, .slice Ao52 t1182.length co52] rfl az ?_; (with_reducible refine (laws_eqIntS.calls k _ _ t1171 _ _ t1182 true _ ?side1 ?side2 ?side3 ?side4 A23.out).mono ?_); (case side1 => exact cz1 (Kd.R_reads' HO1173.out).2.2); (case side2 => exact (Kd.R_reads' HO1173.out).2.1); (case side3 => exact cz1 (Kd.R_reads' HO1184.out).2.2); (case side4 => exact (Kd.R_reads' HO1184.out).2.1); rintro e w' ⟨rfl, ⟨nd, rfl⟩⟩; refine ⟨_, rfl, ?_⟩))
 go_ret
 exact ⟨rz, bz2 HB GE1152 GE1170⟩
end Go.Proofs.Ytoofhjflfpccdaa.PA
