/- Walks of Go functions: each is shown to answer as the Lean function beside it tells, under the conditions that its theorem names. -/
import Derived.Test.YtoofhjflfpccdaaProg
import Derived.Below
import Derived.Deep.Draws
import Derived.Deep.AppendLies
import Derived.Maps.AppendAt
import Derived.OwnWalk
import Derived.Laws.BytesArg
import Derived.Laws.MakeOwn
import Derived.Laws.OwnMore
import Derived.Deep.OwnRows
import Derived.Tactics
import Derived.Lib.ConvBytes
import Derived.Laws.Slices
import Derived.WalkKit
import Derived.KernelRfl
import Derived.RowKit3
import Derived.Deep.LoopGhost
import Derived.Deep.QuietTactic
import Derived.BigQuiet
import Derived.WideLaws
import Derived.Deep.DeepCutAuto
import Derived.Deep.CutBlock
import Derived.Deep.RegionHeld3
import Derived.Laws.Rows
import Derived.Lib.AppendStr
import Derived.ArgAppend
import Derived.Laws.IdiomCopy
import Derived.OrdersHeld
import Derived.Laws.BitsLemmas
import Derived.RowKit
import Derived.Laws.StructEq
import Derived.Lib.SliceRun
import Derived.WalkSpells
import Derived.ChangeArms
import Derived.ChangeSlices
import Derived.Deep.Slices
import Derived.Test.YtoofhjflfpccdaaKD678a608cbb
section
namespace Go.Proofs.Ytoofhjflfpccdaa.PA
open Go.RowKit Go.Proofs.YtoofhjflfpccdaaW.PrintWords Go.Proofs.YtoofhjflfpccdaaW.PrintLast Go.Proofs.YtoofhjflfpccdaaW.PrintMore
attribute [local go_sem] max2_int min2_int max_two min_two max_three min_three max_four min_four   -- for this text's walks alone
set_option linter.unusedVariables false
set_option linter.unusedSimpArgs false
set_option maxHeartbeats 8000000 in
set_option maxRecDepth 100000 in
theorem impl_in.calls (a0 : Int) (a1 : Int) (a2 : Int) (r : Bool) (w : World) (h : impl_in.f a0 a1 a2 = some r) :
  Calls Try.prog 69 #[.int .i64 a0, .int .i64 a1, .int .i64 a2] w fun e w' => e = .returned (.bool r) ∧ Drawn0 w w' := by
 have H : (if a0 ≥ a1 then (some (decide (a0 ≤ a2))) else (some false)) = some r := h
 clear h
 by_cases c4 : a0 ≥ a1
 case pos =>
  rw [if_pos c4] at H
  have c4b0 : decide (a1 ≤ a0) = true := decide_eq_true c4
  clear c4
  obtain rfl := Option.some.inj H
  go_enter Try.func69, Try.ntmps69
  go_wp2
  go_ret
  exact ⟨by first | rfl | (simp; done) | (simp [*]; done), by repeat (first | exact Drawn0.refl _ | apply Drawn0.step)⟩
 rw [if_neg c4] at H
 have c4b0 : decide (a1 ≤ a0) = false := decide_eq_false c4
 clear c4
 obtain rfl := Option.some.inj H
 go_enter Try.func69, Try.ntmps69
 go_wp2
 go_ret
 exact ⟨by first | rfl | (simp; done) | (simp [*]; done), by repeat (first | exact Drawn0.refl _ | apply Drawn0.step)⟩
end Go.Proofs.Ytoofhjflfpccdaa.PA
end
section
namespace Go.Proofs.Ytoofhjflfpccdaa.PA
open Go.RowKit Go.Proofs.YtoofhjflfpccdaaW.PrintWords Go.Proofs.YtoofhjflfpccdaaW.PrintLast Go.Proofs.YtoofhjflfpccdaaW.PrintMore
attribute [local go_sem] max2_int min2_int max_two min_two max_three min_three max_four min_four   -- for this text's walks alone
set_option linter.unusedVariables false
set_option linter.unusedSimpArgs false
set_option maxHeartbeats 8000000 in
set_option maxRecDepth 100000 in
theorem impl_size.calls (k : Nat) (A0 : Option Addr) (c0 : Nat) (l0 : List (IVar)) (r : Int) (w : World) (hr0 : Kd.C k62 w A0 l0.length l0) (hc0 : l0.length ≤ c0) (h : impl_size.f k l0 = some r) :
  Calls Try.prog 97 #[.slice A0 l0.length c0] w fun e w' => e = .returned (.int .i64 r) ∧ Below w.heap.size w w' := by
 have hu62 := Try.underlying62
 have HR0 := Aside0.mk hr0
 have HC0 := Aside0.mk hc0
 clear hr0 hc0
 have HB := Aside0.mk (Below.refl w.heap.size w)
 have H : (impl_size.l0 k 1 l0 (l0.length : Int) 0) = some r := h
 clear h
 have H' := Aside0.mk H
 clear H
 go_enter Try.func97, Try.ntmps97
 go_wp2
 go_loopg [3, 8] k (fun kq v3 v8 w' => ∃ (x3_1 : Int) (x8_1 : Int), v3 = .int .i64 x3_1 ∧ v8 = .int .i64 x8_1 ∧ Aside0 (impl_size.l0 kq x3_1 l0 (l0.length : Int) x8_1 = some r) ∧ Aside0 (kq ≤ k) ∧ Aside0 (Below w.heap.size w w'))
 case atStart => exact ⟨(1), (0), rq, rq, H', ⟨Nat.le_refl _⟩, ⟨bz HB⟩⟩
 case round =>
  clear H'
  obtain ⟨x3_1, x8_1, rfl, rfl, HA, HK1, HB⟩ := hrel
  cases gk with
  | zero => exact absurd HA.out (by simp [impl_size.l0])
  | succ k1 =>
   have H := HA.out
   clear HA
   simp only [impl_size.l0] at H
   by_cases c2 : x8_1 < (l0.length : Int)
   case neg =>
    rw [if_neg c2] at H
    have c2b0 : decide (x8_1 < (l0.length : Int)) = false := decide_eq_false c2
    clear c2
    obtain rfl := Option.some.inj H
    go_wp2
    go_ret
    exact ⟨rz, bz HB⟩
   rw [if_pos c2] at H
   have c2b0 : decide (x8_1 < (l0.length : Int)) = true := decide_eq_true c2
   clear c2
   by_cases c3 : 0 ≤ x8_1
   case neg =>
    rw [if_neg c3] at H
    exact absurd H (by simp)
   rw [if_pos c3] at H
   have c3b0 : decide (0 ≤ x8_1) = true := decide_eq_true c3
   clear c3
   by_cases c4 : x8_1 < (l0.length : Int)
   case neg =>
    rw [if_neg c4] at H
    exact absurd H (by simp)
   rw [if_pos c4] at H
   have c4b0 : decide (x8_1 < (l0.length : Int)) = true := decide_eq_true c4
   clear c4
   have H' := Aside0.mk H
   clear H
   have p249 : 0 ≤ (x8_1 : Int) := dz
   have q249 : x8_1 < (l0.length : Int) := dz
   obtain ⟨ad249, e249, hx249_0, hx249_1, hx249_2⟩ := at_IVar HR0.out x8_1 p249 q249
   cases e249
   replace hx249_0 := xz HB hx249_0
   replace hx249_1 := xz HB hx249_1
   replace hx249_2 := xz HB hx249_2
   replace p249 := eq_true p249
   replace q249 := eq_true q249
   go_wp2_with (first | ((with_reducible refine gate_dst (N := 5) rfl ?_); refine box_event ?hg (N := 5) ?hd (cs := #[.int .i64 0, .int .i64 0, .int .i64 0]) (t := 62) ?hr ?_; (case hd => rfl); (case hg => rfl); (case hr => first | (go_simp; done) | (go_simp; rfl)); intro gb250 hg w5 hbox hb; have n0_ := Aside0.mk (below_step (bz HB) hb); have n1_ := Aside0.mk (hbox); have n2_ := Aside0.mk ((by rw [hg]; exact (below_size (bz HB)) : w.heap.size ≤ gb250)); have n3_ := Aside0.mk ((by rw [hg]; exact (below_size (bz HB)) : w.heap.size ≤ gb250)); clear HB; have HB := n0_; have BK250 := n1_; have GW250 := n2_; have GE250 := n3_; clear n0_ n1_ n2_ n3_; clear hb hbox hg; have hcz6_0 : w5.cell? ⟨gb250, 0, none⟩ = some (.int .i64 0) := (blk_cell BK250.out 0).trans rfl; have hcz6_1 : w5.cell? ⟨gb250, 1, none⟩ = some (.int .i64 0) := (blk_cell BK250.out 1).trans rfl; have hcz6_2 : w5.cell? ⟨gb250, 2, none⟩ = some (.int .i64 0) := (blk_cell BK250.out 2).trans rfl; have hfz6_0 := blk_frozen BK250.out 0; have hfz6_1 := blk_frozen BK250.out 1; have hfz6_2 := blk_frozen BK250.out 2))
   go_roundg k1
   case measure => have := HK1.out; omega
   case rel => exact ⟨(wrap64 (x3_1 * (wrap64 ((wrap64 (((rd_IVar l0 x8_1).f1) - ((rd_IVar l0 x8_1).f0))) + 1)))), (wrap64 (x8_1 + 1)), rq, rq, H', ⟨by have := HK1.out; omega⟩, ⟨bz1 HB GE250⟩⟩
end Go.Proofs.Ytoofhjflfpccdaa.PA
end
section
namespace Go.Proofs.Ytoofhjflfpccdaa.PA
open Go.RowKit Go.Proofs.YtoofhjflfpccdaaW.PrintWords Go.Proofs.YtoofhjflfpccdaaW.PrintLast Go.Proofs.YtoofhjflfpccdaaW.PrintMore
attribute [local go_sem] max2_int min2_int max_two min_two max_three min_three max_four min_four   -- for this text's walks alone
set_option linter.unusedVariables false
set_option linter.unusedSimpArgs false
set_option maxHeartbeats 8000000 in
set_option maxRecDepth 100000 in
theorem impl_varOk.calls (a0_0 : Int) (a0_1 : Int) (a0_2 : Int) (r : Bool) (w : World) (h : impl_varOk.f a0_0 a0_1 a0_2 = some r) :
  Calls Try.prog 96 #[.agg #[.int .i64 a0_0, .int .i64 a0_1, .int .i64 a0_2]] w fun e w' => e = .returned (.bool r) ∧ Below w.heap.size w w' := by
 have hu62 := Try.underlying62
 have HB := Aside0.mk (Below.refl w.heap.size w)
 have H : ((impl_in.f a0_0 (-9999) 9999).bind fun t246 => (if t246 = true then ((impl_in.f a0_1 a0_0 9999).bind fun t247 => (if t247 = true then (if (wrap64 (a0_1 - a0_0)) < 20 then ((impl_in.f a0_2 a0_0 a0_1).bind fun t248 => (some t248)) else (some false)) else (some false))) else (some false))) = some r := h
 clear h
 replace H := Option.bind_eq_some_iff.mp H
 obtain ⟨t246, A20, H⟩ := H
 have A2 := Aside0.mk A20
 clear A20
 by_cases c3 : t246 = true
 case neg =>
  replace c3 := Bool.eq_false_iff.mpr c3
  subst c3
  rw [if_neg nt_] at H
  obtain rfl := Option.some.inj H
  go_enter Try.func96, Try.ntmps96
  go_wp2_with (first | ((with_reducible refine gate_dst (N := 1) rfl ?_); refine box_event ?hg (N := 1) ?hd (cs := #[.int .i64 a0_0, .int .i64 a0_1, .int .i64 a0_2]) (t := 62) ?hr ?_; (case hd => rfl); (case hg => rfl); (case hr => first | (go_simp; done) | (go_simp; rfl)); intro gb245 hg w14 hbox hb; have n0_ := Aside0.mk (below_step (bz HB) hb); have n1_ := Aside0.mk (hbox); have n2_ := Aside0.mk ((by rw [hg]; exact (below_size (bz HB)) : w.heap.size ≤ gb245)); have n3_ := Aside0.mk ((by rw [hg]; exact (below_size (bz HB)) : w.heap.size ≤ gb245)); clear HB; have HB := n0_; have BK245 := n1_; have GW245 := n2_; have GE245 := n3_; clear n0_ n1_ n2_ n3_; clear hb hbox hg; have hcz15_0 : w14.cell? ⟨gb245, 0, none⟩ = some (.int .i64 a0_0) := (blk_cell BK245.out 0).trans rfl; have hcz15_1 : w14.cell? ⟨gb245, 1, none⟩ = some (.int .i64 a0_1) := (blk_cell BK245.out 1).trans rfl; have hcz15_2 : w14.cell? ⟨gb245, 2, none⟩ = some (.int .i64 a0_2) := (blk_cell BK245.out 2).trans rfl; have hfz15_0 := blk_frozen BK245.out 0; have hfz15_1 := blk_frozen BK245.out 1; have hfz15_2 := blk_frozen BK245.out 2) | ((with_reducible refine gate_callee (f := 69) rfl ?_); refine goesL_ (some 5) rfl rfl Try.func69 (by kernel_rfl) rfl #[.int .i64 a0_0, .int .i64 (-9999), .int .i64 9999] rfl az ?_; (with_reducible refine (impl_in.calls a0_0 (-9999) 9999 false _ A2.out).mono ?_); rintro e w' ⟨rfl, ⟨nd, rfl⟩⟩; refine ⟨_, rfl, ?_⟩))
  go_ret
  exact ⟨rz, bz1 HB GE245⟩
 subst c3
 rw [if_pos rfl] at H
 replace H := Option.bind_eq_some_iff.mp H
 obtain ⟨t247, A40, H⟩ := H
 have A4 := Aside0.mk A40
 clear A40
 by_cases c5 : t247 = true
 case neg =>
  replace c5 := Bool.eq_false_iff.mpr c5
  subst c5
  rw [if_neg nt_] at H
  obtain rfl := Option.some.inj H
  go_enter Try.func96, Try.ntmps96
  go_wp2_with (first | ((with_reducible refine gate_dst (N := 1) rfl ?_); refine box_event ?hg (N := 1) ?hd (cs := #[.int .i64 a0_0, .int .i64 a0_1, .int .i64 a0_2]) (t := 62) ?hr ?_; (case hd => rfl); (case hg => rfl); (case hr => first | (go_simp; done) | (go_simp; rfl)); intro gb245 hg w12 hbox hb; have n0_ := Aside0.mk (below_step (bz HB) hb); have n1_ := Aside0.mk (hbox); have n2_ := Aside0.mk ((by rw [hg]; exact (below_size (bz HB)) : w.heap.size ≤ gb245)); have n3_ := Aside0.mk ((by rw [hg]; exact (below_size (bz HB)) : w.heap.size ≤ gb245)); clear HB; have HB := n0_; have BK245 := n1_; have GW245 := n2_; have GE245 := n3_; clear n0_ n1_ n2_ n3_; clear hb hbox hg; have hcz13_0 : w12.cell? ⟨gb245, 0, none⟩ = some (.int .i64 a0_0) := (blk_cell BK245.out 0).trans rfl; have hcz13_1 : w12.cell? ⟨gb245, 1, none⟩ = some (.int .i64 a0_1) := (blk_cell BK245.out 1).trans rfl; have hcz13_2 : w12.cell? ⟨gb245, 2, none⟩ = some (.int .i64 a0_2) := (blk_cell BK245.out 2).trans rfl; have hfz13_0 := blk_frozen BK245.out 0; have hfz13_1 := blk_frozen BK245.out 1; have hfz13_2 := blk_frozen BK245.out 2) | ((with_reducible refine gate_callee (f := 69) rfl ?_); refine goesL_ (some 5) rfl rfl Try.func69 (by kernel_rfl) rfl #[.int .i64 a0_0, .int .i64 (-9999), .int .i64 9999] rfl az ?_; (with_reducible refine (impl_in.calls a0_0 (-9999) 9999 true _ A2.out).mono ?_); rintro e w' ⟨rfl, ⟨nd, rfl⟩⟩; refine ⟨_, rfl, ?_⟩) | (go_at_call 69; (with_reducible refine (impl_in.calls a0_1 a0_0 9999 false _ A4.out).mono ?_); rintro e w' ⟨rfl, ⟨nd, rfl⟩⟩))
  go_ret
  exact ⟨rz, bz1 HB GE245⟩
 subst c5
 rw [if_pos rfl] at H
 by_cases c6 : (wrap64 (a0_1 - a0_0)) < 20
 case neg =>
  rw [if_neg c6] at H
  have c6b0 : decide ((wrap64 (a0_1 - a0_0)) < 20) = false := decide_eq_false c6
  clear c6
  obtain rfl := Option.some.inj H
  go_enter Try.func96, Try.ntmps96
  go_wp2_with (first | ((with_reducible refine gate_dst (N := 1) rfl ?_); refine box_event ?hg (N := 1) ?hd (cs := #[.int .i64 a0_0, .int .i64 a0_1, .int .i64 a0_2]) (t := 62) ?hr ?_; (case hd => rfl); (case hg => rfl); (case hr => first | (go_simp; done) | (go_simp; rfl)); intro gb245 hg w10 hbox hb; have n0_ := Aside0.mk (below_step (bz HB) hb); have n1_ := Aside0.mk (hbox); have n2_ := Aside0.mk ((by rw [hg]; exact (below_size (bz HB)) : w.heap.size ≤ gb245)); have n3_ := Aside0.mk ((by rw [hg]; exact (below_size (bz HB)) : w.heap.size ≤ gb245)); clear HB; have HB := n0_; have BK245 := n1_; have GW245 := n2_; have GE245 := n3_; clear n0_ n1_ n2_ n3_; clear hb hbox hg; have hcz11_0 : w10.cell? ⟨gb245, 0, none⟩ = some (.int .i64 a0_0) := (blk_cell BK245.out 0).trans rfl; have hcz11_1 : w10.cell? ⟨gb245, 1, none⟩ = some (.int .i64 a0_1) := (blk_cell BK245.out 1).trans rfl; have hcz11_2 : w10.cell? ⟨gb245, 2, none⟩ = some (.int .i64 a0_2) := (blk_cell BK245.out 2).trans rfl; have hfz11_0 := blk_frozen BK245.out 0; have hfz11_1 := blk_frozen BK245.out 1; have hfz11_2 := blk_frozen BK245.out 2) | ((with_reducible refine gate_callee (f := 69) rfl ?_); refine goesL_ (some 5) rfl rfl Try.func69 (by kernel_rfl) rfl #[.int .i64 a0_0, .int .i64 (-9999), .int .i64 9999] rfl az ?_; (with_reducible refine (impl_in.calls a0_0 (-9999) 9999 true _ A2.out).mono ?_); rintro e w' ⟨rfl, ⟨nd, rfl⟩⟩; refine ⟨_, rfl, ?_⟩) | (go_at_call 69; (with_reducible refine (impl_in.calls a0_1 a0_0 9999 true _ A4.out).mono ?_); rintro e w' ⟨rfl, ⟨nd, rfl⟩⟩))
  go_ret
  exact ⟨rz, bz1 HB GE245⟩
 rw [if_pos c6] at H
 have c6b0 : decide ((wrap64 (a0_1 - a0_0)) < 20) = true := decide_eq_true c6
 clear c6
 replace H := Option.bind_eq_some_iff.mp H
 obtain ⟨t248, A70, H⟩ := H
 have A7 := Aside0.mk A70
 clear A70
 obtain rfl := Option.some.inj H
 go_enter Try.func96, Try.ntmps96
 go_wp2_with (first | ((with_reducible refine gate_dst (N := 1) rfl ?_); refine box_event ?hg (N := 1) ?hd (cs := #[.int .i64 a0_0, .int .i64 a0_1, .int .i64 a0_2]) (t := 62) ?hr ?_; (case hd => rfl); (case hg => rfl); (case hr => first | (go_simp; done) | (go_simp; rfl)); intro gb245 hg w8 hbox hb; have n0_ := Aside0.mk (below_step (bz HB) hb); have n1_ := Aside0.mk (hbox); have n2_ := Aside0.mk ((by rw [hg]; exact (below_size (bz HB)) : w.heap.size ≤ gb245)); have n3_ := Aside0.mk ((by rw [hg]; exact (below_size (bz HB)) : w.heap.size ≤ gb245)); clear HB; have HB := n0_; have BK245 := n1_; have GW245 := n2_; have GE245 := n3_; clear n0_ n1_ n2_ n3_; clear hb hbox hg; have hcz9_0 : w8.cell? ⟨gb245, 0, none⟩ = some (.int .i64 a0_0) := (blk_cell BK245.out 0).trans rfl; have hcz9_1 : w8.cell? ⟨gb245, 1, none⟩ = some (.int .i64 a0_1) := (blk_cell BK245.out 1).trans rfl; have hcz9_2 : w8.cell? ⟨gb245, 2, none⟩ = some (.int .i64 a0_2) := (blk_cell BK245.out 2).trans rfl; have hfz9_0 := blk_frozen BK245.out 0; have hfz9_1 := blk_frozen BK245.out 1; have hfz9_2 := blk_frozen BK245.out 2) | ((with_reducible refine gate_callee (f := 69) rfl ?_); refine goesL_ (some 5) rfl rfl Try.func69 (by kernel_rfl) rfl #[.int .i64 a0_0, .int .i64 (-9999), .int .i64 9999] rfl az ?_; (with_reducible refine (impl_in.calls a0_0 (-9999) 9999 true _ A2.out).mono ?_); rintro e w' ⟨rfl, ⟨nd, rfl⟩⟩; refine ⟨_, rfl, ?_⟩) | (go_at_call 69; (with_reducible refine (impl_in.calls a0_1 a0_0 9999 true _ A4.out).mono ?_); rintro e w' ⟨rfl, ⟨nd, rfl⟩⟩) | (go_at_call 69; (with_reducible refine (impl_in.calls a0_2 a0_0 a0_1 t248 _ A7.out).mono ?_); rintro e w' ⟨rfl, ⟨nd, rfl⟩⟩))
 go_ret
 exact ⟨rz, bz1 HB GE245⟩
end Go.Proofs.Ytoofhjflfpccdaa.PA
end
section
namespace Go.Proofs.Ytoofhjflfpccdaa.PA
open Go.RowKit Go.Proofs.YtoofhjflfpccdaaW.PrintWords Go.Proofs.YtoofhjflfpccdaaW.PrintLast Go.Proofs.YtoofhjflfpccdaaW.PrintMore
attribute [local go_sem] max2_int min2_int max_two min_two max_three min_three max_four min_four   -- for this text's walks alone
set_option linter.unusedVariables false
set_option linter.unusedSimpArgs false
set_option maxHeartbeats 8000000 in
set_option maxRecDepth 100000 in
theorem impl_SystemValid_1.calls (a0_0 : Int) (a0_1 : Int) (a0_2 : Int) (r : Bool) (w : World) (h : impl_SystemValid_1.f a0_0 a0_1 a0_2 = some r) :
  Calls Try.prog 95 #[.agg #[.int .i64 a0_0, .int .i64 a0_1, .int .i64 a0_2]] w fun e w' => e = .returned (.bool r) ∧ Below w.heap.size w w' := by
 have hu62 := Try.underlying62
 have HB := Aside0.mk (Below.refl w.heap.size w)
 have H : ((impl_varOk.f a0_0 a0_1 a0_2).bind fun t281 => (some (!t281))) = some r := h
 clear h
 replace H := Option.bind_eq_some_iff.mp H
 obtain ⟨t281, A20, H⟩ := H
 have A2 := Aside0.mk A20
 clear A20
 obtain rfl := Option.some.inj H
 go_enter Try.func95, Try.ntmps95
 go_wp2_with (first | ((with_reducible refine gate_dst (N := 1) rfl ?_); refine box_event ?hg (N := 1) ?hd (cs := #[.int .i64 a0_0, .int .i64 a0_1, .int .i64 a0_2]) (t := 62) ?hr ?_; (case hd => rfl); (case hg => rfl); (case hr => first | (go_simp; done) | (go_simp; rfl)); intro gb280 hg w3 hbox hb; have n0_ := Aside0.mk (below_step (bz HB) hb); have n1_ := Aside0.mk (hbox); have n2_ := Aside0.mk ((by rw [hg]; exact (below_size (bz HB)) : w.heap.size ≤ gb280)); have n3_ := Aside0.mk ((by rw [hg]; exact (below_size (bz HB)) : w.heap.size ≤ gb280)); clear HB; have HB := n0_; have BK280 := n1_; have GW280 := n2_; have GE280 := n3_; clear n0_ n1_ n2_ n3_; clear hb hbox hg; have hcz4_0 : w3.cell? ⟨gb280, 0, none⟩ = some (.int .i64 a0_0) := (blk_cell BK280.out 0).trans rfl; have hcz4_1 : w3.cell? ⟨gb280, 1, none⟩ = some (.int .i64 a0_1) := (blk_cell BK280.out 1).trans rfl; have hcz4_2 : w3.cell? ⟨gb280, 2, none⟩ = some (.int .i64 a0_2) := (blk_cell BK280.out 2).trans rfl; have hfz4_0 := blk_frozen BK280.out 0; have hfz4_1 := blk_frozen BK280.out 1; have hfz4_2 := blk_frozen BK280.out 2) | ((with_reducible refine gate_callee (f := 96) rfl ?_); refine goesL_ (some 4) rfl rfl Try.func96 (by kernel_rfl) rfl #[.agg #[.int .i64 a0_0, .int .i64 a0_1, .int .i64 a0_2]] rfl az ?_; (with_reducible refine (impl_varOk.calls a0_0 a0_1 a0_2 t281 _ A2.out).mono ?_); rintro e w5 ⟨rfl, hb⟩; refine ⟨_, rfl, ?_⟩; replace BK280 := Aside0.mk (blk_below (g := gb280) (o := .cells #[.int .i64 a0_0, .int .i64 a0_1, .int .i64 a0_2] 62 (0, 0)) (kz BK280) hb); replace HB := Aside0.mk (below_step (bz1 HB GE280) hb); clear hb))
 go_ret
 exact ⟨rz, bz1 HB GE280⟩
end Go.Proofs.Ytoofhjflfpccdaa.PA
end
section
namespace Go.Proofs.Ytoofhjflfpccdaa.PA
open Go.RowKit Go.Proofs.YtoofhjflfpccdaaW.PrintWords Go.Proofs.YtoofhjflfpccdaaW.PrintLast Go.Proofs.YtoofhjflfpccdaaW.PrintMore
attribute [local go_sem] max2_int min2_int max_two min_two max_three min_three max_four min_four   -- for this text's walks alone
set_option linter.unusedVariables false
set_option linter.unusedSimpArgs false
set_option maxHeartbeats 8000000 in
set_option maxRecDepth 100000 in
theorem slices_IndexFunc_at_impl_SystemValid_1.calls (k : Nat) (A0 : Option Addr) (c0 : Nat) (l0 : List (IVar))  (r : Int) (w : World) (hr0 : Kd.C k62 w A0 l0.length l0) (hc0 : l0.length ≤ c0) (h : slices_IndexFunc_at_impl_SystemValid_1.f k l0 = some r) :
  Calls Try.prog 119 #[.slice A0 l0.length c0, .func (.func 95) #[] #[]] w fun e w' => e = .returned (.int .i64 r) ∧ Below w.heap.size w w' := by
 have hu62 := Try.underlying62
 have HR0 := Aside0.mk hr0
 have HC0 := Aside0.mk hc0
 clear hr0 hc0
 have HB := Aside0.mk (Below.refl w.heap.size w)
 have H : (slices_IndexFunc_at_impl_SystemValid_1.l0 k l0 (l0.length : Int) 0) = some r := h
 clear h
 have H' := Aside0.mk H
 clear H
 go_enter Try.func119, Try.ntmps119
 go_wp2
 go_loopg [8] k (fun kq v8 w' => ∃ (x8_1 : Int), v8 = .int .i64 x8_1 ∧ Aside0 (slices_IndexFunc_at_impl_SystemValid_1.l0 kq l0 (l0.length : Int) x8_1 = some r) ∧ Aside0 (kq ≤ k) ∧ Aside0 (Below w.heap.size w w'))
 case atStart => exact ⟨(0), rq, H', ⟨Nat.le_refl _⟩, ⟨bz HB⟩⟩
 case round =>
  clear H'
  try clear p2
  obtain ⟨x8_1, rfl, HA, HK1, HB⟩ := hrel
  cases gk with
  | zero => exact absurd HA.out (by simp [slices_IndexFunc_at_impl_SystemValid_1.l0])
  | succ k1 =>
   have H := HA.out
   clear HA
   simp only [slices_IndexFunc_at_impl_SystemValid_1.l0] at H
   by_cases c3 : x8_1 < (l0.length : Int)
   case neg =>
    rw [if_neg c3] at H
    have c3b0 : decide (x8_1 < (l0.length : Int)) = false := decide_eq_false c3
    clear c3
    obtain rfl := Option.some.inj H
    go_wp2
    go_ret
    exact ⟨rz, bz HB⟩
   rw [if_pos c3] at H
   have c3b0 : decide (x8_1 < (l0.length : Int)) = true := decide_eq_true c3
   clear c3
   by_cases c4 : 0 ≤ x8_1
   case neg =>
    rw [if_neg c4] at H
    exact absurd H (by simp)
   rw [if_pos c4] at H
   have c4b0 : decide (0 ≤ x8_1) = true := decide_eq_true c4
   clear c4
   by_cases c5 : x8_1 < (l0.length : Int)
   case neg =>
    rw [if_neg c5] at H
    exact absurd H (by simp)
   rw [if_pos c5] at H
   have c5b0 : decide (x8_1 < (l0.length : Int)) = true := decide_eq_true c5
   clear c5
   replace H := Option.bind_eq_some_iff.mp H
   obtain ⟨t283, A60, H⟩ := H
   have A6 := Aside0.mk A60
   clear A60
   by_cases c7 : t283 = true
   case pos =>
    subst c7
    rw [if_pos rfl] at H
    obtain rfl := Option.some.inj H
    have p282 : 0 ≤ (x8_1 : Int) := dz
    have q282 : x8_1 < (l0.length : Int) := dz
    obtain ⟨ad282, e282, hx282_0, hx282_1, hx282_2⟩ := at_IVar HR0.out x8_1 p282 q282
    cases e282
    replace hx282_0 := xz HB hx282_0
    replace hx282_1 := xz HB hx282_1
    replace hx282_2 := xz HB hx282_2
    replace p282 := eq_true p282
    replace q282 := eq_true q282
    go_wp2_with (first | ((with_reducible refine gate_value (cal := .tmp 11) rfl ?_); refine goesV_ (some 16) rfl rfl Try.func95 (by kernel_rfl) rfl #[.agg #[.int .i64 ((rd_IVar l0 x8_1).f0), .int .i64 ((rd_IVar l0 x8_1).f1), .int .i64 ((rd_IVar l0 x8_1).f2)]] rfl rfl az ?_; (with_reducible refine (impl_SystemValid_1.calls ((rd_IVar l0 x8_1).f0) ((rd_IVar l0 x8_1).f1) ((rd_IVar l0 x8_1).f2) true _ A6.out).mono ?_); rintro e w8 ⟨rfl, hb⟩; refine ⟨_, rfl, ?_⟩; replace HB := Aside0.mk (below_step (bz HB) hb); clear hb))
    go_ret
    exact ⟨rz, bz HB⟩
   replace c7 := Bool.eq_false_iff.mpr c7
   subst c7
   rw [if_neg nt_] at H
   have H' := Aside0.mk H
   clear H
   have p282 : 0 ≤ (x8_1 : Int) := dz
   have q282 : x8_1 < (l0.length : Int) := dz
   obtain ⟨ad282, e282, hx282_0, hx282_1, hx282_2⟩ := at_IVar HR0.out x8_1 p282 q282
   cases e282
   replace hx282_0 := xz HB hx282_0
   replace hx282_1 := xz HB hx282_1
   replace hx282_2 := xz HB hx282_2
   replace p282 := eq_true p282
   replace q282 := eq_true q282
   go_wp2_with (first | ((with_reducible refine gate_value (cal := .tmp 11) rfl ?_); refine goesV_ (some 16) rfl rfl Try.func95 (by kernel_rfl) rfl #[.agg #[.int .i64 ((rd_IVar l0 x8_1).f0), .int .i64 ((rd_IVar l0 x8_1).f1), .int .i64 ((rd_IVar l0 x8_1).f2)]] rfl rfl az ?_; (with_reducible refine (impl_SystemValid_1.calls ((rd_IVar l0 x8_1).f0) ((rd_IVar l0 x8_1).f1) ((rd_IVar l0 x8_1).f2) false _ A6.out).mono ?_); rintro e w9 ⟨rfl, hb⟩; refine ⟨_, rfl, ?_⟩; replace HB := Aside0.mk (below_step (bz HB) hb); clear hb))
   go_roundg k1
   case measure => have := HK1.out; omega
   case rel => exact ⟨(wrap64 (x8_1 + 1)), rq, H', ⟨by have := HK1.out; omega⟩, ⟨bz HB⟩⟩
end Go.Proofs.Ytoofhjflfpccdaa.PA
end
section
namespace Go.Proofs.Ytoofhjflfpccdaa.PA
open Go.RowKit Go.Proofs.YtoofhjflfpccdaaW.PrintWords Go.Proofs.YtoofhjflfpccdaaW.PrintLast Go.Proofs.YtoofhjflfpccdaaW.PrintMore
attribute [local go_sem] max2_int min2_int max_two min_two max_three min_three max_four min_four   -- for this text's walks alone
set_option linter.unusedVariables false
set_option linter.unusedSimpArgs false
set_option maxHeartbeats 8000000 in
set_option maxRecDepth 100000 in
theorem slices_ContainsFunc_at_impl_SystemValid_1.calls (k : Nat) (A0 : Option Addr) (c0 : Nat) (l0 : List (IVar))  (r : Bool) (w : World) (hr0 : Kd.C k62 w A0 l0.length l0) (hc0 : l0.length ≤ c0) (h : slices_ContainsFunc_at_impl_SystemValid_1.f k l0 = some r) :
  Calls Try.prog 94 #[.slice A0 l0.length c0, .func (.func 95) #[] #[]] w fun e w' => e = .returned (.bool r) ∧ Below w.heap.size w w' := by
 have HR0 := Aside0.mk hr0
 have HC0 := Aside0.mk hc0
 clear hr0 hc0
 have HB := Aside0.mk (Below.refl w.heap.size w)
 have H : ((slices_IndexFunc_at_impl_SystemValid_1.f k l0).bind fun t284 => (some (decide (t284 ≥ 0)))) = some r := h
 clear h
 replace H := Option.bind_eq_some_iff.mp H
 obtain ⟨t284, A30, H⟩ := H
 have A3 := Aside0.mk A30
 clear A30
 obtain rfl := Option.some.inj H
 go_enter Try.func94, Try.ntmps94
 go_wp2_with (first | ((with_reducible refine gate_callee (f := 119) rfl ?_); refine goesL_ (some 7) rfl rfl Try.func119 (by kernel_rfl) rfl #[.slice A0 l0.length c0, .func (.func 95) #[] #[]] rfl az ?_; (with_reducible refine (slices_IndexFunc_at_impl_SystemValid_1.calls k _ _ l0  t284 _ ?side1 HC0.out A3.out).mono ?_); (case side1 => exact cz0 HR0); rintro e w4 ⟨rfl, hb⟩; refine ⟨_, rfl, ?_⟩; replace HB := Aside0.mk (below_step (bz HB) hb); clear hb))
 go_ret
 exact ⟨rz, bz HB⟩
end Go.Proofs.Ytoofhjflfpccdaa.PA
end
section
namespace Go.Proofs.Ytoofhjflfpccdaa.PA
open Go.RowKit Go.Proofs.YtoofhjflfpccdaaW.PrintWords Go.Proofs.YtoofhjflfpccdaaW.PrintLast Go.Proofs.YtoofhjflfpccdaaW.PrintMore
attribute [local go_sem] max2_int min2_int max_two min_two max_three min_three max_four min_four   -- for this text's walks alone
set_option linter.unusedVariables false
set_option linter.unusedSimpArgs false
set_option maxHeartbeats 8000000 in
set_option maxRecDepth 100000 in
theorem impl_parts.calls (k : Nat) (a0 : Int) (r1 : Int) (r2 : Int) (r3 : Int) (w : World) (h : impl_parts.f k a0 = some (r1, r2, r3)) :
  Calls Try.prog 132 #[.int .i64 a0] w fun e w' => e = .returned (.tuple #[.int .i64 r1, .int .i64 r2, .int .i64 r3]) ∧ Drawn0 w w' := by
 have H : (if a0 = 2 then (impl_parts.j0 k a0 (a0 == 2)) else (if a0 = 3 then (impl_parts.j0 k a0 (a0 == 3)) else (impl_parts.j0 k a0 (a0 == 4)))) = some (r1, r2, r3) := h
 clear h
 have HC2 := Aside0.mk H
 clear H
 go_enter Try.func132, Try.ntmps132
 go_upto_if 6 with (fail)
 go_cut [6] (fun v6 wc => ∃ (kq : Nat) (x6_1 : Bool), v6 = .bool x6_1 ∧ Aside0 (impl_parts.j0 kq a0 x6_1 = some (r1, r2, r3)) ∧ Aside0 (kq ≤ k) ∧ Drawn0 w wc)
 case first =>
  have H := HC2.out
  clear HC2
  by_cases c3 : a0 = 2
  case pos =>
   rw [if_pos c3] at H
   have c3b0 : (a0 == 2) = true := beq_iff_eq.mpr c3
   have c3b1 : (a0 != 2) = false := bne_eq_false_iff_eq.mpr c3
   clear c3
   (first | rw [c3b0] | (simp only [i64_w, i32_w]; rw [c3b0]) | skip)
   have H' := Aside0.mk H
   clear H
   go_wp2
   go_meet
   case rel => exact ⟨_, ((a0 == 2)), rq, H', ⟨by first | omega | exact Nat.le_refl _⟩, by repeat (first | exact Drawn0.refl _ | apply Drawn0.step)⟩
  rw [if_neg c3] at H
  have c3b0 : (a0 == 2) = false := beq_eq_false_iff_ne.mpr c3
  have c3b1 : (a0 != 2) = true := bne_iff_ne.mpr c3
  (first | rw [c3b0] | (simp only [i64_w, i32_w]; rw [c3b0]) | skip)
  by_cases c4 : a0 = 3
  case neg =>
   rw [if_neg c4] at H
   have c4b0 : (a0 == 3) = false := beq_eq_false_iff_ne.mpr c4
   have c4b1 : (a0 != 3) = true := bne_iff_ne.mpr c4
   have H' := Aside0.mk H
   clear H
   go_wp2
   go_meet
   case rel => exact ⟨_, ((a0 == 4)), rq, H', ⟨by first | omega | exact Nat.le_refl _⟩, by repeat (first | exact Drawn0.refl _ | apply Drawn0.step)⟩
  rw [if_pos c4] at H
  have c4b0 : (a0 == 3) = true := beq_iff_eq.mpr c4
  have c4b1 : (a0 != 3) = false := bne_eq_false_iff_eq.mpr c4
  clear c4
  have H' := Aside0.mk H
  clear H
  go_wp2
  go_meet
  case rel => exact ⟨_, ((a0 == 3)), rq, H', ⟨by first | omega | exact Nat.le_refl _⟩, by repeat (first | exact Drawn0.refl _ | apply Drawn0.step)⟩
 case rest =>
  clear HC2
  try clear c1
  try clear p2
  try clear c3
  try clear c3b0
  try clear c3b1
  try clear c4
  try clear c4b0
  try clear c4b1
  obtain ⟨kq, x6_1, rfl, HA, HJ1, ⟨mc1, rfl⟩⟩ := hcut
  cases kq with
  | zero => exact absurd HA.out (by simp [impl_parts.j0])
  | succ kj1 =>
   have H := HA.out
   clear HA
   simp only [impl_parts.j0] at H
   by_cases c5 : x6_1 = true
   case pos =>
    subst c5
    rw [if_pos rfl] at H
    simp only [Option.some.injEq, Prod.mk.injEq] at H
    obtain ⟨rfl, rfl, rfl⟩ := H
    go_wp2
    go_ret3
    exact ⟨by first | rfl | (simp; done) | (simp [*]; done), by repeat (first | exact Drawn0.refl _ | apply Drawn0.step)⟩
   replace c5 := Bool.eq_false_iff.mpr c5
   subst c5
   rw [if_neg nt_] at H
   have HC6 := Aside0.mk H
   clear H
   go_upto_if 10 with (fail)
   go_cut [10] (fun v10 wc => ∃ (kq : Nat) (x10_5 : Bool), v10 = .bool x10_5 ∧ Aside0 (impl_parts.j1 kq a0 x10_5 = some (r1, r2, r3)) ∧ Aside0 (kq ≤ kj1) ∧ Drawn0 w wc)
   case first =>
    have H := HC6.out
    clear HC6
    by_cases c7 : a0 = 5
    case neg =>
     rw [if_neg c7] at H
     have c7b0 : (a0 == 5) = false := beq_eq_false_iff_ne.mpr c7
     have c7b1 : (a0 != 5) = true := bne_iff_ne.mpr c7
     (first | rw [c7b0] | (simp only [i64_w, i32_w]; rw [c7b0]) | skip)
     have H' := Aside0.mk H
     clear H
     go_wp2
     go_meet
     case rel => exact ⟨_, ((a0 == 6)), rq, H', ⟨by have := HJ1.out; first | omega | exact Nat.le_refl _⟩, by repeat (first | exact Drawn0.refl _ | apply Drawn0.step)⟩
    rw [if_pos c7] at H
    have c7b0 : (a0 == 5) = true := beq_iff_eq.mpr c7
    have c7b1 : (a0 != 5) = false := bne_eq_false_iff_eq.mpr c7
    clear c7
    (first | rw [c7b0] | (simp only [i64_w, i32_w]; rw [c7b0]) | skip)
    have H' := Aside0.mk H
    clear H
    go_wp2
    go_meet
    case rel => exact ⟨_, ((a0 == 5)), rq, H', ⟨by have := HJ1.out; first | omega | exact Nat.le_refl _⟩, by repeat (first | exact Drawn0.refl _ | apply Drawn0.step)⟩
   case rest =>
    clear HC6
    try clear c1
    try clear p2
    try clear c3
    try clear c3b0
    try clear c3b1
    try clear c4
    try clear c4b0
    try clear c4b1
    try clear c5
    try clear c7
    try clear c7b0
    try clear c7b1
    try clear p2
    obtain ⟨kq, x10_5, rfl, HA, HJ5, ⟨mc5, rfl⟩⟩ := hcut
    cases kq with
    | zero => exact absurd HA.out (by simp [impl_parts.j1])
    | succ kj5 =>
     have H := HA.out
     clear HA
     simp only [impl_parts.j1] at H
     by_cases c8 : x10_5 = true
     case pos =>
      subst c8
      rw [if_pos rfl] at H
      simp only [Option.some.injEq, Prod.mk.injEq] at H
      obtain ⟨rfl, rfl, rfl⟩ := H
      go_wp2
      go_ret3
      exact ⟨by first | rfl | (simp; done) | (simp [*]; done), by repeat (first | exact Drawn0.refl _ | apply Drawn0.step)⟩
     replace c8 := Bool.eq_false_iff.mpr c8
     subst c8
     rw [if_neg nt_] at H
     by_cases c9 : a0 = 7
     case pos =>
      rw [if_pos c9] at H
      have c9b0 : (a0 == 7) = true := beq_iff_eq.mpr c9
      have c9b1 : (a0 != 7) = false := bne_eq_false_iff_eq.mpr c9
      clear c9
      simp only [Option.some.injEq, Prod.mk.injEq] at H
      obtain ⟨rfl, rfl, rfl⟩ := H
      go_wp2
      go_ret3
      exact ⟨by first | rfl | (simp; done) | (simp [*]; done), by repeat (first | exact Drawn0.refl _ | apply Drawn0.step)⟩
     rw [if_neg c9] at H
     have c9b0 : (a0 == 7) = false := beq_eq_false_iff_ne.mpr c9
     have c9b1 : (a0 != 7) = true := bne_iff_ne.mpr c9
     have HC10 := Aside0.mk H
     clear H
     go_upto_if 15 with (fail)
     go_cut [15] (fun v15 wc => ∃ (kq : Nat) (x15_9 : Bool), v15 = .bool x15_9 ∧ Aside0 (impl_parts.j2 kq x15_9 = some (r1, r2, r3)) ∧ Aside0 (kq ≤ kj5) ∧ Drawn0 w wc)
     case first =>
      have H := HC10.out
      clear HC10
      by_cases c11 : a0 = 8
      case neg =>
       rw [if_neg c11] at H
       have c11b0 : (a0 == 8) = false := beq_eq_false_iff_ne.mpr c11
       have c11b1 : (a0 != 8) = true := bne_iff_ne.mpr c11
       (first | rw [c11b0] | (simp only [i64_w, i32_w]; rw [c11b0]) | skip)
       have H' := Aside0.mk H
       clear H
       go_wp2
       go_meet
       case rel => exact ⟨_, ((a0 == 9)), rq, H', ⟨by have := HJ1.out; have := HJ5.out; first | omega | exact Nat.le_refl _⟩, by repeat (first | exact Drawn0.refl _ | apply Drawn0.step)⟩
      rw [if_pos c11] at H
      have c11b0 : (a0 == 8) = true := beq_iff_eq.mpr c11
      have c11b1 : (a0 != 8) = false := bne_eq_false_iff_eq.mpr c11
      clear c11
      (first | rw [c11b0] | (simp only [i64_w, i32_w]; rw [c11b0]) | skip)
      have H' := Aside0.mk H
      clear H
      go_wp2
      go_meet
      case rel => exact ⟨_, ((a0 == 8)), rq, H', ⟨by have := HJ1.out; have := HJ5.out; first | omega | exact Nat.le_refl _⟩, by repeat (first | exact Drawn0.refl _ | apply Drawn0.step)⟩
     case rest =>
      clear HC10
      try clear c1
      try clear p2
      try clear c3
      try clear c3b0
      try clear c3b1
      try clear c4
      try clear c4b0
      try clear c4b1
      try clear c5
      try clear c7
      try clear c7b0
      try clear c7b1
      try clear c8
      try clear c9
      try clear c9b0
      try clear c9b1
      try clear c11
      try clear c11b0
      try clear c11b1
      try clear p2
      obtain ⟨kq, x15_9, rfl, HA, HJ9, ⟨mc9, rfl⟩⟩ := hcut
      cases kq with
      | zero => exact absurd HA.out (by simp [impl_parts.j2])
      | succ kj9 =>
       have H := HA.out
       clear HA
       simp only [impl_parts.j2] at H
       by_cases c12 : x15_9 = true
       case pos =>
        subst c12
        rw [if_pos rfl] at H
        simp only [Option.some.injEq, Prod.mk.injEq] at H
        obtain ⟨rfl, rfl, rfl⟩ := H
        go_wp2
        go_ret3
        exact ⟨by first | rfl | (simp; done) | (simp [*]; done), by repeat (first | exact Drawn0.refl _ | apply Drawn0.step)⟩
       replace c12 := Bool.eq_false_iff.mpr c12
       subst c12
       rw [if_neg nt_] at H
       simp only [Option.some.injEq, Prod.mk.injEq] at H
       obtain ⟨rfl, rfl, rfl⟩ := H
       go_wp2
       go_ret3
       exact ⟨by first | rfl | (simp; done) | (simp [*]; done), by repeat (first | exact Drawn0.refl _ | apply Drawn0.step)⟩
end Go.Proofs.Ytoofhjflfpccdaa.PA
end
section
namespace Go.Proofs.Ytoofhjflfpccdaa.PA
open Go.RowKit Go.Proofs.YtoofhjflfpccdaaW.PrintWords Go.Proofs.YtoofhjflfpccdaaW.PrintLast Go.Proofs.YtoofhjflfpccdaaW.PrintMore
attribute [local go_sem] max2_int min2_int max_two min_two max_three min_three max_four min_four   -- for this text's walks alone
set_option linter.unusedVariables false
set_option linter.unusedSimpArgs false
set_option maxHeartbeats 8000000 in
set_option maxRecDepth 100000 in
theorem impl_kindsOf.calls (k : Nat) (A0 : Option Addr) (c0 : Nat) (l0 : List (ITerm)) (a1 : Int) (r : List Int) (w : World) (hr0 : Kd.C k107 w A0 l0.length l0) (hc0 : l0.length ≤ c0) (h : impl_kindsOf.f k l0 a1 = some r) :
  Calls Try.prog 128 #[.slice A0 l0.length c0, .int .i64 a1] w fun e w' => ∃ v0_ : Value, e = .returned (v0_) ∧ Kd.R (Kd.int .i64) 3 w' w.heap.size (fun _ => True) v0_ r ∧ Below w.heap.size w w' ∧ NilIf r v0_ := by
 have hu107 := Try.underlying107
 have HR0 := Aside0.mk hr0
 have HC0 := Aside0.mk hc0
 clear hr0 hc0
 have HB := Aside0.mk (Below.refl w.heap.size w)
 have H : ((impl_in.f a1 0 5).bind fun t251 => (if t251 = true then ((impl_in.f (l0.length : Int) 1 40).bind fun t252 => (impl_kindsOf.j0 k l0 a1 (!t252))) else (impl_kindsOf.j0 k l0 a1 true))) = some r := h
 clear h
 have HC3 := Aside0.mk H
 clear H
 go_enter Try.func128, Try.ntmps128
 go_upto_region 1 with (fail)
 go_cut [20] (fun v20 wc => ∃ (kq : Nat) (x20_2 : Bool), v20 = .bool x20_2 ∧ Aside0 (impl_kindsOf.j0 kq l0 a1 x20_2 = some r) ∧ Aside0 (kq ≤ k) ∧ Aside0 (Below w.heap.size w wc))
 case first =>
  have H := HC3.out
  clear HC3
  replace H := Option.bind_eq_some_iff.mp H
  obtain ⟨t251, A40, H⟩ := H
  have A4 := Aside0.mk A40
  clear A40
  by_cases c5 : t251 = true
  case neg =>
   replace c5 := Bool.eq_false_iff.mpr c5
   subst c5
   rw [if_neg nt_] at H
   have H' := Aside0.mk H
   clear H
   go_wp2_with (first | ((with_reducible refine gate_callee (f := 69) rfl ?_); refine goesL_ (some 13) rfl rfl Try.func69 (by kernel_rfl) rfl #[.int .i64 a1, .int .i64 0, .int .i64 5] rfl az ?_; (with_reducible refine (impl_in.calls a1 0 5 false _ A4.out).mono ?_); rintro e w' ⟨rfl, ⟨nd, rfl⟩⟩; refine ⟨_, rfl, ?_⟩))
   go_meet
   case rel => exact ⟨_, (true), rq, H', ⟨by first | omega | exact Nat.le_refl _⟩, ⟨bz HB⟩⟩
  subst c5
  rw [if_pos rfl] at H
  replace H := Option.bind_eq_some_iff.mp H
  obtain ⟨t252, A60, H⟩ := H
  have A6 := Aside0.mk A60
  clear A60
  have H' := Aside0.mk H
  clear H
  go_wp2_with (first | ((with_reducible refine gate_callee (f := 69) rfl ?_); refine goesL_ (some 13) rfl rfl Try.func69 (by kernel_rfl) rfl #[.int .i64 a1, .int .i64 0, .int .i64 5] rfl az ?_; (with_reducible refine (impl_in.calls a1 0 5 true _ A4.out).mono ?_); rintro e w' ⟨rfl, ⟨nd, rfl⟩⟩; refine ⟨_, rfl, ?_⟩) | (go_at_call 69; (with_reducible refine (impl_in.calls (l0.length : Int) 1 40 t252 _ A6.out).mono ?_); rintro e w' ⟨rfl, ⟨nd, rfl⟩⟩))
  go_meet
  case rel => exact ⟨_, (!t252), rq, H', ⟨by first | omega | exact Nat.le_refl _⟩, ⟨bz HB⟩⟩
 case rest =>
  clear HC3
  try clear c1
  try clear p2
  try clear c5
  try clear c6
  obtain ⟨kq, x20_2, rfl, HA, HJ2, HB⟩ := hcut
  cases kq with
  | zero => exact absurd HA.out (by simp [impl_kindsOf.j0])
  | succ kj2 =>
   have H := HA.out
   clear HA
   simp only [impl_kindsOf.j0] at H
   by_cases c7 : x20_2 = true
   case pos =>
    subst c7
    rw [if_pos rfl] at H
    obtain rfl := Option.some.inj H
    go_wp2
    go_ret
    exact ⟨_, rz, nz, bz HB, by first | exact NilIf.intro (fun _ => rfl) | exact NilIf.intro (fun e_ => absurd (‹Aside0 (0 < List.length _)›).out (by rw [e_]; exact Nat.lt_irrefl 0))⟩
   replace c7 := Bool.eq_false_iff.mpr c7
   subst c7
   rw [if_neg nt_] at H
   by_cases c8 : 0 ≤ (l0.length : Int)
   case neg =>
    rw [if_neg c8] at H
    exact absurd H (by simp)
   rw [if_pos c8] at H
   have c8b0 := eq_true c8
   have c8b1 : decide (0 ≤ (l0.length : Int)) = true := decide_eq_true c8
   clear c8
   by_cases c9 : ((l0.length : Int) : Int).toNat ≤ 35184372088832
   case neg =>
    rw [if_neg c9] at H
    exact absurd H (by simp)
   rw [if_pos c9] at H
   have c9b0 := eq_true c9
   have c9b1 : decide (((l0.length : Int) : Int).toNat ≤ 35184372088832) = true := decide_eq_true c9
   clear c9
   obtain ⟨y253, hy253⟩ : ∃ y_ : List Int, y_ = (([] : List Int)) := ⟨_, rfl⟩
   replace H : (impl_kindsOf.l0 kj2 a1 y253 l0 (l0.length : Int) 0) = some r := by first | (rw [hy253]; with_reducible exact H) | (have H2_ := (Option.bind_some _ _).symm.trans H; rw [hy253]; with_reducible exact H2_) | (have H2_ := (Option.bind_some _ _).symm.trans H; with_reducible exact H2_) | with_reducible exact H | (rw [hy253]; exact H) | exact H
   have Ny253 := Aside0.mk hy253
   clear hy253
   have H' := Aside0.mk H
   clear H
   go_wp2_with (first | ((with_reducible refine gate_dst (N := 23) rfl ?_); (try (refine gate_guard (by rfl) ?_; dsimp only)); refine Kd.R_make0 (Kd.int .i64) _ 3 rfl (N := 23) rfl 35 _ _ rfl (l0.length : Int) rfl rfl Try.underlying35 (.int .i64 0) 8 info3 rfl (by decide) (by omega) 0 (ok := fun _ => True) (okp := fun _ => True) rfl (fun _ hk => hk) trivial (dz) (Nat.le_trans (Nat.mul_le_mul_right _ (dz : (l0.length : Int).toNat ≤ 35184372088832)) (by omega)) (Below.refl _ _) (Nat.le_refl _) ?_; intro v254 w10 ho11 hb hg_ hnew_; clear hg_ hnew_; (first | rw [← Ny253.out] at ho11 | (simp only [Int.reduceToNat] at ho11; rw [← Ny253.out] at ho11)); have HO255 := Aside0.mk (Kd.R_lower ho11 (below_size (bz HB))); replace HB := Aside0.mk (below_step (bz HB) hb); clear hb ho11))
   go_loopg [5, 26] kj2 (fun kq v5 v26 w' => ∃ (x5_2 : List Int) (x26_2 : Int), v26 = .int .i64 x26_2 ∧ Aside0 (impl_kindsOf.l0 kq a1 x5_2 l0 (l0.length : Int) x26_2 = some r) ∧ Aside0 (kq ≤ kj2) ∧ Aside0 (Kd.R (Kd.int .i64) 3 w' w.heap.size (fun _ => True) v5 x5_2) ∧ Aside0 (Below w.heap.size w w'))
   case atStart => exact ⟨(y253), (0), rq, H', ⟨Nat.le_refl _⟩, ⟨ozR HO255⟩, ⟨bz HB⟩⟩
   case round =>
    clear H'
    try clear c1
    try clear p2
    try clear c5
    try clear c6
    try clear c7
    try clear c8
    try clear c8b0
    try clear c8b1
    try clear c9
    try clear c9b0
    try clear c9b1
    try clear p2
    obtain ⟨x5_2, x26_2, rfl, HA, HK2, HO_5, HB⟩ := hrel
    cases gk with
    | zero => exact absurd HA.out (by simp [impl_kindsOf.l0])
    | succ k2 =>
     have H := HA.out
     clear HA
     simp only [impl_kindsOf.l0] at H
     by_cases c12 : x26_2 < (l0.length : Int)
     case neg =>
      rw [if_neg c12] at H
      have c12b0 : decide (x26_2 < (l0.length : Int)) = false := decide_eq_false c12
      clear c12
      by_cases c62 : 0 < x5_2.length
      case neg =>
       rw [if_neg c62] at H
       exact absurd H (by simp)
      rw [if_pos c62] at H
      have LMc62 := Aside0.mk c62
      clear c62
      obtain rfl := Option.some.inj H
      go_wp2
      go_ret
      exact ⟨_, rz, ozR HO_5, bz HB, by first | exact NilIf.intro (fun _ => rfl) | exact NilIf.intro (fun e_ => absurd (‹Aside0 (0 < List.length _)›).out (by rw [e_]; exact Nat.lt_irrefl 0))⟩
     rw [if_pos c12] at H
     have c12b0 : decide (x26_2 < (l0.length : Int)) = true := decide_eq_true c12
     clear c12
     by_cases c13 : 0 ≤ x26_2
     case neg =>
      rw [if_neg c13] at H
      exact absurd H (by simp)
     rw [if_pos c13] at H
     have c13b0 : decide (0 ≤ x26_2) = true := decide_eq_true c13
     clear c13
     by_cases c14 : x26_2 < (l0.length : Int)
     case neg =>
      rw [if_neg c14] at H
      exact absurd H (by simp)
     rw [if_pos c14] at H
     have c14b0 : decide (x26_2 < (l0.length : Int)) = true := decide_eq_true c14
     clear c14
     replace H := Option.bind_eq_some_iff.mp H
     obtain ⟨⟨t258, t259, t260⟩, A150, H⟩ := H
     dsimp only at H
     have A15 := Aside0.mk A150
     clear A150
     replace H := Option.bind_eq_some_iff.mp H
     obtain ⟨t261, A160, H⟩ := H
     have A16 := Aside0.mk A160
     clear A160
     have HC17 := Aside0.mk H
     clear H
     have p256 : 0 ≤ (x26_2 : Int) := dz
     have q256 : x26_2 < (l0.length : Int) := dz
     obtain ⟨ad256, e256, hx256_0, hx256_1, hx256_2, hx256_3⟩ := at_ITerm HR0.out x26_2 p256 q256
     cases e256
     replace hx256_0 := xz HB hx256_0
     replace hx256_1 := xz HB hx256_1
     replace hx256_2 := xz HB hx256_2
     replace hx256_3 := xz HB hx256_3
     replace p256 := eq_true p256
     replace q256 := eq_true q256
     go_upto_block 2 with (first | ((with_reducible refine gate_dst (N := 7) rfl ?_); (try (refine gate_guard (by rfl) ?_; dsimp only)); refine box_event ?hg (N := 7) ?hd (cs := #[.int .i64 0, .int .i64 0, .int .i64 0, .int .i64 0]) (t := 107) ?hr ?_; (case hd => rfl); (case hg => rfl); (case hr => first | (go_simp; done) | (go_simp; rfl)); intro gb257 hg w18 hbox hb; have n0_ := Aside0.mk (Kd.R_below (ozR HO_5) hb); have n1_ := Aside0.mk (below_step (bz HB) hb); have n2_ := Aside0.mk (hbox); have n3_ := Aside0.mk ((by rw [hg]; exact (below_size (bz HB)) : w.heap.size ≤ gb257)); have n4_ := Aside0.mk ((by rw [hg]; exact (below_size (bz HB)) : w.heap.size ≤ gb257)); clear HO_5; clear HB; have HO_5 := n0_; have HB := n1_; have BK257 := n2_; have GW257 := n3_; have GE257 := n4_; clear n0_ n1_ n2_ n3_ n4_; clear hb hbox hg; have hcz19_0 : w18.cell? ⟨gb257, 0, none⟩ = some (.int .i64 0) := (blk_cell BK257.out 0).trans rfl; have hcz19_1 : w18.cell? ⟨gb257, 1, none⟩ = some (.int .i64 0) := (blk_cell BK257.out 1).trans rfl; have hcz19_2 : w18.cell? ⟨gb257, 2, none⟩ = some (.int .i64 0) := (blk_cell BK257.out 2).trans rfl; have hcz19_3 : w18.cell? ⟨gb257, 3, none⟩ = some (.int .i64 0) := (blk_cell BK257.out 3).trans rfl; have hfz19_0 := blk_frozen BK257.out 0; have hfz19_1 := blk_frozen BK257.out 1; have hfz19_2 := blk_frozen BK257.out 2; have hfz19_3 := blk_frozen BK257.out 3) | ((with_reducible refine gate_callee (f := 132) rfl ?_); refine goesL_ (some 34) rfl rfl Try.func132 (by kernel_rfl) rfl #[.int .i64 ((rd_ITerm l0 x26_2).f0)] rfl az ?_; (with_reducible refine (impl_parts.calls k2 ((rd_ITerm l0 x26_2).f0) t258 t259 t260 _ A15.out).mono ?_); rintro e w' ⟨rfl, ⟨nd, rfl⟩⟩; refine ⟨_, rfl, ?_⟩) | ((with_reducible refine gate_callee (f := 69) rfl ?_); refine goesL_ (some 40) rfl rfl Try.func69 (by kernel_rfl) rfl #[.int .i64 ((rd_ITerm l0 x26_2).f0), .int .i64 0, .int .i64 9] rfl az ?_; (with_reducible refine (impl_in.calls ((rd_ITerm l0 x26_2).f0) 0 9 t261 _ A16.out).mono ?_); rintro e w' ⟨rfl, ⟨nd, rfl⟩⟩; refine ⟨_, rfl, ?_⟩))
     (try simp only [Act.put, sb_, sc0_, sc1_])
     go_cut [11] (fun v11 wc => ∃ (kq : Nat) (x11_16 : Bool), v11 = .bool x11_16 ∧ Aside0 (impl_kindsOf.j2 kq a1 x5_2 t260 x11_16 l0 (l0.length : Int) x26_2 = some r) ∧ Aside0 (kq ≤ k2) ∧ Aside0 (Kd.R (Kd.int .i64) 3 wc w.heap.size (fun _ => True) u5 x5_2) ∧ Aside0 (wc.heap[gb257]? = some (.cells #[.int .i64 ((rd_ITerm l0 x26_2).f0), .int .i64 ((rd_ITerm l0 x26_2).f1), .int .i64 ((rd_ITerm l0 x26_2).f2), .int .i64 ((rd_ITerm l0 x26_2).f3)] 107 (0, 0))) ∧ Aside0 (Below w.heap.size w wc))
     case first =>
      have H := HC17.out
      clear HC17
      by_cases c20 : ((rd_ITerm l0 x26_2).f0) = 0
      case pos =>
       rw [if_pos c20] at H
       have c20b0 : (((rd_ITerm l0 x26_2).f0) == 0) = true := beq_iff_eq.mpr c20
       have c20b1 : (((rd_ITerm l0 x26_2).f0) != 0) = false := bne_eq_false_iff_eq.mpr c20
       clear c20
       (first | rw [c20b0] | (simp only [i64_w, i32_w]; rw [c20b0]) | skip)
       replace H := Option.bind_eq_some_iff.mp H
       obtain ⟨t262, A210, H⟩ := H
       have A21 := Aside0.mk A210
       clear A210
       by_cases c22 : t262 = true
       case neg =>
        replace c22 := Bool.eq_false_iff.mpr c22
        subst c22
        rw [if_neg nt_] at H
        have H' := Aside0.mk H
        clear H
        have hcz26_0 : w18.cell? ⟨gb257, 0, none⟩ = some (.int .i64 0) := (blk_cell BK257.out 0).trans rfl
        have hcz26_1 : w18.cell? ⟨gb257, 1, none⟩ = some (.int .i64 0) := (blk_cell BK257.out 1).trans rfl
        have hcz26_2 : w18.cell? ⟨gb257, 2, none⟩ = some (.int .i64 0) := (blk_cell BK257.out 2).trans rfl
        have hcz26_3 : w18.cell? ⟨gb257, 3, none⟩ = some (.int .i64 0) := (blk_cell BK257.out 3).trans rfl
        have hfz26_0 := blk_frozen BK257.out 0
        have hfz26_1 := blk_frozen BK257.out 1
        have hfz26_2 := blk_frozen BK257.out 2
        have hfz26_3 := blk_frozen BK257.out 3
        go_wp2_with (first | ((with_reducible refine gate_callee (f := 69) rfl ?_); refine goesL_ (some 47) rfl rfl Try.func69 (by kernel_rfl) rfl #[.int .i64 ((rd_ITerm l0 x26_2).f1), .int .i64 (-9999), .int .i64 9999] rfl az ?_; (with_reducible refine (impl_in.calls ((rd_ITerm l0 x26_2).f1) (-9999) 9999 false _ A21.out).mono ?_); rintro e w' ⟨rfl, ⟨nd, rfl⟩⟩; refine ⟨_, rfl, ?_⟩))
        go_meet
        case rel => exact ⟨_, (false), rq, H', ⟨by have := HJ2.out; have := HK2.out; first | omega | exact Nat.le_refl _⟩, ⟨by (with_reducible repeat (first | apply Kd.R_alloc | apply Kd.R_drewN | apply Kd.R_drew)); exact Kd.R_mono (Kd.R_far (p := ⟨gb257, 3, none⟩) (Kd.R_far (p := ⟨gb257, 2, none⟩) (Kd.R_far (p := ⟨gb257, 1, none⟩) (Kd.R_far (p := ⟨gb257, 0, none⟩) (Kd.R_types HO_5.out BK257.out (by decide)) (fun _ hk => hk.2) (.int .i64 ((rd_ITerm l0 x26_2).f0))) (fun _ hk => hk.2) (.int .i64 ((rd_ITerm l0 x26_2).f1))) (fun _ hk => hk.2) (.int .i64 ((rd_ITerm l0 x26_2).f2))) (fun _ hk => hk.2) (.int .i64 ((rd_ITerm l0 x26_2).f3))) (fun _ hk => trivial)⟩, ⟨by (with_reducible repeat (first | refine blk_drewN ?_ _ | refine blk_drew ?_ | refine blk_alloc ?_ _)); refine blk_put (cs := #[.int .i64 ((rd_ITerm l0 x26_2).f0), .int .i64 ((rd_ITerm l0 x26_2).f1), .int .i64 ((rd_ITerm l0 x26_2).f2), .int .i64 0]) ?_ 3 _ rfl; (with_reducible repeat (first | refine blk_drewN ?_ _ | refine blk_drew ?_ | refine blk_alloc ?_ _)); refine blk_put (cs := #[.int .i64 ((rd_ITerm l0 x26_2).f0), .int .i64 ((rd_ITerm l0 x26_2).f1), .int .i64 0, .int .i64 0]) ?_ 2 _ rfl; (with_reducible repeat (first | refine blk_drewN ?_ _ | refine blk_drew ?_ | refine blk_alloc ?_ _)); refine blk_put (cs := #[.int .i64 ((rd_ITerm l0 x26_2).f0), .int .i64 0, .int .i64 0, .int .i64 0]) ?_ 1 _ rfl; (with_reducible repeat (first | refine blk_drewN ?_ _ | refine blk_drew ?_ | refine blk_alloc ?_ _)); refine blk_put (cs := #[.int .i64 0, .int .i64 0, .int .i64 0, .int .i64 0]) ?_ 0 _ rfl; exact kz BK257⟩, ⟨bz1 HB GE257⟩⟩
       subst c22
       rw [if_pos rfl] at H
       by_cases c23 : ((rd_ITerm l0 x26_2).f2) = 0
       case neg =>
        rw [if_neg c23] at H
        have c23b0 : (((rd_ITerm l0 x26_2).f2) == 0) = false := beq_eq_false_iff_ne.mpr c23
        have c23b1 : (((rd_ITerm l0 x26_2).f2) != 0) = true := bne_iff_ne.mpr c23
        have H' := Aside0.mk H
        clear H
        have hcz25_0 : w18.cell? ⟨gb257, 0, none⟩ = some (.int .i64 0) := (blk_cell BK257.out 0).trans rfl
        have hcz25_1 : w18.cell? ⟨gb257, 1, none⟩ = some (.int .i64 0) := (blk_cell BK257.out 1).trans rfl
        have hcz25_2 : w18.cell? ⟨gb257, 2, none⟩ = some (.int .i64 0) := (blk_cell BK257.out 2).trans rfl
        have hcz25_3 : w18.cell? ⟨gb257, 3, none⟩ = some (.int .i64 0) := (blk_cell BK257.out 3).trans rfl
        have hfz25_0 := blk_frozen BK257.out 0
        have hfz25_1 := blk_frozen BK257.out 1
        have hfz25_2 := blk_frozen BK257.out 2
        have hfz25_3 := blk_frozen BK257.out 3
        go_wp2_with (first | ((with_reducible refine gate_callee (f := 69) rfl ?_); refine goesL_ (some 47) rfl rfl Try.func69 (by kernel_rfl) rfl #[.int .i64 ((rd_ITerm l0 x26_2).f1), .int .i64 (-9999), .int .i64 9999] rfl az ?_; (with_reducible refine (impl_in.calls ((rd_ITerm l0 x26_2).f1) (-9999) 9999 true _ A21.out).mono ?_); rintro e w' ⟨rfl, ⟨nd, rfl⟩⟩; refine ⟨_, rfl, ?_⟩))
        go_meet
        case rel => exact ⟨_, (false), rq, H', ⟨by have := HJ2.out; have := HK2.out; first | omega | exact Nat.le_refl _⟩, ⟨by (with_reducible repeat (first | apply Kd.R_alloc | apply Kd.R_drewN | apply Kd.R_drew)); exact Kd.R_mono (Kd.R_far (p := ⟨gb257, 3, none⟩) (Kd.R_far (p := ⟨gb257, 2, none⟩) (Kd.R_far (p := ⟨gb257, 1, none⟩) (Kd.R_far (p := ⟨gb257, 0, none⟩) (Kd.R_types HO_5.out BK257.out (by decide)) (fun _ hk => hk.2) (.int .i64 ((rd_ITerm l0 x26_2).f0))) (fun _ hk => hk.2) (.int .i64 ((rd_ITerm l0 x26_2).f1))) (fun _ hk => hk.2) (.int .i64 ((rd_ITerm l0 x26_2).f2))) (fun _ hk => hk.2) (.int .i64 ((rd_ITerm l0 x26_2).f3))) (fun _ hk => trivial)⟩, ⟨by (with_reducible repeat (first | refine blk_drewN ?_ _ | refine blk_drew ?_ | refine blk_alloc ?_ _)); refine blk_put (cs := #[.int .i64 ((rd_ITerm l0 x26_2).f0), .int .i64 ((rd_ITerm l0 x26_2).f1), .int .i64 ((rd_ITerm l0 x26_2).f2), .int .i64 0]) ?_ 3 _ rfl; (with_reducible repeat (first | refine blk_drewN ?_ _ | refine blk_drew ?_ | refine blk_alloc ?_ _)); refine blk_put (cs := #[.int .i64 ((rd_ITerm l0 x26_2).f0), .int .i64 ((rd_ITerm l0 x26_2).f1), .int .i64 0, .int .i64 0]) ?_ 2 _ rfl; (with_reducible repeat (first | refine blk_drewN ?_ _ | refine blk_drew ?_ | refine blk_alloc ?_ _)); refine blk_put (cs := #[.int .i64 ((rd_ITerm l0 x26_2).f0), .int .i64 0, .int .i64 0, .int .i64 0]) ?_ 1 _ rfl; (with_reducible repeat (first | refine blk_drewN ?_ _ | refine blk_drew ?_ | refine blk_alloc ?_ _)); refine blk_put (cs := #[.int .i64 0, .int .i64 0, .int .i64 0, .int .i64 0]) ?_ 0 _ rfl; exact kz BK257⟩, ⟨bz1 HB GE257⟩⟩
       rw [if_pos c23] at H
       have c23b0 : (((rd_ITerm l0 x26_2).f2) == 0) = true := beq_iff_eq.mpr c23
       have c23b1 : (((rd_ITerm l0 x26_2).f2) != 0) = false := bne_eq_false_iff_eq.mpr c23
       clear c23
       have H' := Aside0.mk H
       clear H
       have hcz24_0 : w18.cell? ⟨gb257, 0, none⟩ = some (.int .i64 0) := (blk_cell BK257.out 0).trans rfl
       have hcz24_1 : w18.cell? ⟨gb257, 1, none⟩ = some (.int .i64 0) := (blk_cell BK257.out 1).trans rfl
       have hcz24_2 : w18.cell? ⟨gb257, 2, none⟩ = some (.int .i64 0) := (blk_cell BK257.out 2).trans rfl
       have hcz24_3 : w18.cell? ⟨gb257, 3, none⟩ = some (.int .i64 0) := (blk_cell BK257.out 3).trans rfl
       have hfz24_0 := blk_frozen BK257.out 0
       have hfz24_1 := blk_frozen BK257.out 1
       have hfz24_2 := blk_frozen BK257.out 2
       have hfz24_3 := blk_frozen BK257.out 3
       go_wp2_with (first | ((with_reducible refine gate_callee (f := 69) rfl ?_); refine goesL_ (some 47) rfl rfl Try.func69 (by kernel_rfl) rfl #[.int .i64 ((rd_ITerm l0 x26_2).f1), .int .i64 (-9999), .int .i64 9999] rfl az ?_; (with_reducible refine (impl_in.calls ((rd_ITerm l0 x26_2).f1) (-9999) 9999 true _ A21.out).mono ?_); rintro e w' ⟨rfl, ⟨nd, rfl⟩⟩; refine ⟨_, rfl, ?_⟩))
       go_meet
       case rel => exact ⟨_, ((((rd_ITerm l0 x26_2).f3) == 0)), rq, H', ⟨by have := HJ2.out; have := HK2.out; first | omega | exact Nat.le_refl _⟩, ⟨by (with_reducible repeat (first | apply Kd.R_alloc | apply Kd.R_drewN | apply Kd.R_drew)); exact Kd.R_mono (Kd.R_far (p := ⟨gb257, 3, none⟩) (Kd.R_far (p := ⟨gb257, 2, none⟩) (Kd.R_far (p := ⟨gb257, 1, none⟩) (Kd.R_far (p := ⟨gb257, 0, none⟩) (Kd.R_types HO_5.out BK257.out (by decide)) (fun _ hk => hk.2) (.int .i64 ((rd_ITerm l0 x26_2).f0))) (fun _ hk => hk.2) (.int .i64 ((rd_ITerm l0 x26_2).f1))) (fun _ hk => hk.2) (.int .i64 ((rd_ITerm l0 x26_2).f2))) (fun _ hk => hk.2) (.int .i64 ((rd_ITerm l0 x26_2).f3))) (fun _ hk => trivial)⟩, ⟨by (with_reducible repeat (first | refine blk_drewN ?_ _ | refine blk_drew ?_ | refine blk_alloc ?_ _)); refine blk_put (cs := #[.int .i64 ((rd_ITerm l0 x26_2).f0), .int .i64 ((rd_ITerm l0 x26_2).f1), .int .i64 ((rd_ITerm l0 x26_2).f2), .int .i64 0]) ?_ 3 _ rfl; (with_reducible repeat (first | refine blk_drewN ?_ _ | refine blk_drew ?_ | refine blk_alloc ?_ _)); refine blk_put (cs := #[.int .i64 ((rd_ITerm l0 x26_2).f0), .int .i64 ((rd_ITerm l0 x26_2).f1), .int .i64 0, .int .i64 0]) ?_ 2 _ rfl; (with_reducible repeat (first | refine blk_drewN ?_ _ | refine blk_drew ?_ | refine blk_alloc ?_ _)); refine blk_put (cs := #[.int .i64 ((rd_ITerm l0 x26_2).f0), .int .i64 0, .int .i64 0, .int .i64 0]) ?_ 1 _ rfl; (with_reducible repeat (first | refine blk_drewN ?_ _ | refine blk_drew ?_ | refine blk_alloc ?_ _)); refine blk_put (cs := #[.int .i64 0, .int .i64 0, .int .i64 0, .int .i64 0]) ?_ 0 _ rfl; exact kz BK257⟩, ⟨bz1 HB GE257⟩⟩
      rw [if_neg c20] at H
      have c20b0 : (((rd_ITerm l0 x26_2).f0) == 0) = false := beq_eq_false_iff_ne.mpr c20
      have c20b1 : (((rd_ITerm l0 x26_2).f0) != 0) = true := bne_iff_ne.mpr c20
      (first | rw [c20b0] | (simp only [i64_w, i32_w]; rw [c20b0]) | skip)
      by_cases c27 : ((rd_ITerm l0 x26_2).f0) = 1
      case pos =>
       rw [if_pos c27] at H
       have c27b0 : (((rd_ITerm l0 x26_2).f0) == 1) = true := beq_iff_eq.mpr c27
       have c27b1 : (((rd_ITerm l0 x26_2).f0) != 1) = false := bne_eq_false_iff_eq.mpr c27
       clear c27
       replace H := Option.bind_eq_some_iff.mp H
       obtain ⟨t263, A280, H⟩ := H
       have A28 := Aside0.mk A280
       clear A280
       by_cases c29 : t263 = true
       case neg =>
        replace c29 := Bool.eq_false_iff.mpr c29
        subst c29
        rw [if_neg nt_] at H
        have H' := Aside0.mk H
        clear H
        have hcz33_0 : w18.cell? ⟨gb257, 0, none⟩ = some (.int .i64 0) := (blk_cell BK257.out 0).trans rfl
        have hcz33_1 : w18.cell? ⟨gb257, 1, none⟩ = some (.int .i64 0) := (blk_cell BK257.out 1).trans rfl
        have hcz33_2 : w18.cell? ⟨gb257, 2, none⟩ = some (.int .i64 0) := (blk_cell BK257.out 2).trans rfl
        have hcz33_3 : w18.cell? ⟨gb257, 3, none⟩ = some (.int .i64 0) := (blk_cell BK257.out 3).trans rfl
        have hfz33_0 := blk_frozen BK257.out 0
        have hfz33_1 := blk_frozen BK257.out 1
        have hfz33_2 := blk_frozen BK257.out 2
        have hfz33_3 := blk_frozen BK257.out 3
        go_wp2_with (first | ((with_reducible refine gate_callee (f := 69) rfl ?_); refine goesL_ (some 66) rfl rfl Try.func69 (by kernel_rfl) rfl #[.int .i64 ((rd_ITerm l0 x26_2).f1), .int .i64 0, .int .i64 (wrap64 (a1 - 1))] rfl az ?_; (with_reducible refine (impl_in.calls ((rd_ITerm l0 x26_2).f1) 0 (wrap64 (a1 - 1)) false _ A28.out).mono ?_); rintro e w' ⟨rfl, ⟨nd, rfl⟩⟩; refine ⟨_, rfl, ?_⟩))
        go_meet
        case rel => exact ⟨_, (false), rq, H', ⟨by have := HJ2.out; have := HK2.out; first | omega | exact Nat.le_refl _⟩, ⟨by (with_reducible repeat (first | apply Kd.R_alloc | apply Kd.R_drewN | apply Kd.R_drew)); exact Kd.R_mono (Kd.R_far (p := ⟨gb257, 3, none⟩) (Kd.R_far (p := ⟨gb257, 2, none⟩) (Kd.R_far (p := ⟨gb257, 1, none⟩) (Kd.R_far (p := ⟨gb257, 0, none⟩) (Kd.R_types HO_5.out BK257.out (by decide)) (fun _ hk => hk.2) (.int .i64 ((rd_ITerm l0 x26_2).f0))) (fun _ hk => hk.2) (.int .i64 ((rd_ITerm l0 x26_2).f1))) (fun _ hk => hk.2) (.int .i64 ((rd_ITerm l0 x26_2).f2))) (fun _ hk => hk.2) (.int .i64 ((rd_ITerm l0 x26_2).f3))) (fun _ hk => trivial)⟩, ⟨by (with_reducible repeat (first | refine blk_drewN ?_ _ | refine blk_drew ?_ | refine blk_alloc ?_ _)); refine blk_put (cs := #[.int .i64 ((rd_ITerm l0 x26_2).f0), .int .i64 ((rd_ITerm l0 x26_2).f1), .int .i64 ((rd_ITerm l0 x26_2).f2), .int .i64 0]) ?_ 3 _ rfl; (with_reducible repeat (first | refine blk_drewN ?_ _ | refine blk_drew ?_ | refine blk_alloc ?_ _)); refine blk_put (cs := #[.int .i64 ((rd_ITerm l0 x26_2).f0), .int .i64 ((rd_ITerm l0 x26_2).f1), .int .i64 0, .int .i64 0]) ?_ 2 _ rfl; (with_reducible repeat (first | refine blk_drewN ?_ _ | refine blk_drew ?_ | refine blk_alloc ?_ _)); refine blk_put (cs := #[.int .i64 ((rd_ITerm l0 x26_2).f0), .int .i64 0, .int .i64 0, .int .i64 0]) ?_ 1 _ rfl; (with_reducible repeat (first | refine blk_drewN ?_ _ | refine blk_drew ?_ | refine blk_alloc ?_ _)); refine blk_put (cs := #[.int .i64 0, .int .i64 0, .int .i64 0, .int .i64 0]) ?_ 0 _ rfl; exact kz BK257⟩, ⟨bz1 HB GE257⟩⟩
       subst c29
       rw [if_pos rfl] at H
       by_cases c30 : ((rd_ITerm l0 x26_2).f2) = 0
       case neg =>
        rw [if_neg c30] at H
        have c30b0 : (((rd_ITerm l0 x26_2).f2) == 0) = false := beq_eq_false_iff_ne.mpr c30
        have c30b1 : (((rd_ITerm l0 x26_2).f2) != 0) = true := bne_iff_ne.mpr c30
        have H' := Aside0.mk H
        clear H
        have hcz32_0 : w18.cell? ⟨gb257, 0, none⟩ = some (.int .i64 0) := (blk_cell BK257.out 0).trans rfl
        have hcz32_1 : w18.cell? ⟨gb257, 1, none⟩ = some (.int .i64 0) := (blk_cell BK257.out 1).trans rfl
        have hcz32_2 : w18.cell? ⟨gb257, 2, none⟩ = some (.int .i64 0) := (blk_cell BK257.out 2).trans rfl
        have hcz32_3 : w18.cell? ⟨gb257, 3, none⟩ = some (.int .i64 0) := (blk_cell BK257.out 3).trans rfl
        have hfz32_0 := blk_frozen BK257.out 0
        have hfz32_1 := blk_frozen BK257.out 1
        have hfz32_2 := blk_frozen BK257.out 2
        have hfz32_3 := blk_frozen BK257.out 3
        go_wp2_with (first | ((with_reducible refine gate_callee (f := 69) rfl ?_); refine goesL_ (some 66) rfl rfl Try.func69 (by kernel_rfl) rfl #[.int .i64 ((rd_ITerm l0 x26_2).f1), .int .i64 0, .int .i64 (wrap64 (a1 - 1))] rfl az ?_; (with_reducible refine (impl_in.calls ((rd_ITerm l0 x26_2).f1) 0 (wrap64 (a1 - 1)) true _ A28.out).mono ?_); rintro e w' ⟨rfl, ⟨nd, rfl⟩⟩; refine ⟨_, rfl, ?_⟩))
        go_meet
        case rel => exact ⟨_, (false), rq, H', ⟨by have := HJ2.out; have := HK2.out; first | omega | exact Nat.le_refl _⟩, ⟨by (with_reducible repeat (first | apply Kd.R_alloc | apply Kd.R_drewN | apply Kd.R_drew)); exact Kd.R_mono (Kd.R_far (p := ⟨gb257, 3, none⟩) (Kd.R_far (p := ⟨gb257, 2, none⟩) (Kd.R_far (p := ⟨gb257, 1, none⟩) (Kd.R_far (p := ⟨gb257, 0, none⟩) (Kd.R_types HO_5.out BK257.out (by decide)) (fun _ hk => hk.2) (.int .i64 ((rd_ITerm l0 x26_2).f0))) (fun _ hk => hk.2) (.int .i64 ((rd_ITerm l0 x26_2).f1))) (fun _ hk => hk.2) (.int .i64 ((rd_ITerm l0 x26_2).f2))) (fun _ hk => hk.2) (.int .i64 ((rd_ITerm l0 x26_2).f3))) (fun _ hk => trivial)⟩, ⟨by (with_reducible repeat (first | refine blk_drewN ?_ _ | refine blk_drew ?_ | refine blk_alloc ?_ _)); refine blk_put (cs := #[.int .i64 ((rd_ITerm l0 x26_2).f0), .int .i64 ((rd_ITerm l0 x26_2).f1), .int .i64 ((rd_ITerm l0 x26_2).f2), .int .i64 0]) ?_ 3 _ rfl; (with_reducible repeat (first | refine blk_drewN ?_ _ | refine blk_drew ?_ | refine blk_alloc ?_ _)); refine blk_put (cs := #[.int .i64 ((rd_ITerm l0 x26_2).f0), .int .i64 ((rd_ITerm l0 x26_2).f1), .int .i64 0, .int .i64 0]) ?_ 2 _ rfl; (with_reducible repeat (first | refine blk_drewN ?_ _ | refine blk_drew ?_ | refine blk_alloc ?_ _)); refine blk_put (cs := #[.int .i64 ((rd_ITerm l0 x26_2).f0), .int .i64 0, .int .i64 0, .int .i64 0]) ?_ 1 _ rfl; (with_reducible repeat (first | refine blk_drewN ?_ _ | refine blk_drew ?_ | refine blk_alloc ?_ _)); refine blk_put (cs := #[.int .i64 0, .int .i64 0, .int .i64 0, .int .i64 0]) ?_ 0 _ rfl; exact kz BK257⟩, ⟨bz1 HB GE257⟩⟩
       rw [if_pos c30] at H
       have c30b0 : (((rd_ITerm l0 x26_2).f2) == 0) = true := beq_iff_eq.mpr c30
       have c30b1 : (((rd_ITerm l0 x26_2).f2) != 0) = false := bne_eq_false_iff_eq.mpr c30
       clear c30
       have H' := Aside0.mk H
       clear H
       have hcz31_0 : w18.cell? ⟨gb257, 0, none⟩ = some (.int .i64 0) := (blk_cell BK257.out 0).trans rfl
       have hcz31_1 : w18.cell? ⟨gb257, 1, none⟩ = some (.int .i64 0) := (blk_cell BK257.out 1).trans rfl
       have hcz31_2 : w18.cell? ⟨gb257, 2, none⟩ = some (.int .i64 0) := (blk_cell BK257.out 2).trans rfl
       have hcz31_3 : w18.cell? ⟨gb257, 3, none⟩ = some (.int .i64 0) := (blk_cell BK257.out 3).trans rfl
       have hfz31_0 := blk_frozen BK257.out 0
       have hfz31_1 := blk_frozen BK257.out 1
       have hfz31_2 := blk_frozen BK257.out 2
       have hfz31_3 := blk_frozen BK257.out 3
       go_wp2_with (first | ((with_reducible refine gate_callee (f := 69) rfl ?_); refine goesL_ (some 66) rfl rfl Try.func69 (by kernel_rfl) rfl #[.int .i64 ((rd_ITerm l0 x26_2).f1), .int .i64 0, .int .i64 (wrap64 (a1 - 1))] rfl az ?_; (with_reducible refine (impl_in.calls ((rd_ITerm l0 x26_2).f1) 0 (wrap64 (a1 - 1)) true _ A28.out).mono ?_); rintro e w' ⟨rfl, ⟨nd, rfl⟩⟩; refine ⟨_, rfl, ?_⟩))
       go_meet
       case rel => exact ⟨_, ((((rd_ITerm l0 x26_2).f3) == 0)), rq, H', ⟨by have := HJ2.out; have := HK2.out; first | omega | exact Nat.le_refl _⟩, ⟨by (with_reducible repeat (first | apply Kd.R_alloc | apply Kd.R_drewN | apply Kd.R_drew)); exact Kd.R_mono (Kd.R_far (p := ⟨gb257, 3, none⟩) (Kd.R_far (p := ⟨gb257, 2, none⟩) (Kd.R_far (p := ⟨gb257, 1, none⟩) (Kd.R_far (p := ⟨gb257, 0, none⟩) (Kd.R_types HO_5.out BK257.out (by decide)) (fun _ hk => hk.2) (.int .i64 ((rd_ITerm l0 x26_2).f0))) (fun _ hk => hk.2) (.int .i64 ((rd_ITerm l0 x26_2).f1))) (fun _ hk => hk.2) (.int .i64 ((rd_ITerm l0 x26_2).f2))) (fun _ hk => hk.2) (.int .i64 ((rd_ITerm l0 x26_2).f3))) (fun _ hk => trivial)⟩, ⟨by (with_reducible repeat (first | refine blk_drewN ?_ _ | refine blk_drew ?_ | refine blk_alloc ?_ _)); refine blk_put (cs := #[.int .i64 ((rd_ITerm l0 x26_2).f0), .int .i64 ((rd_ITerm l0 x26_2).f1), .int .i64 ((rd_ITerm l0 x26_2).f2), .int .i64 0]) ?_ 3 _ rfl; (with_reducible repeat (first | refine blk_drewN ?_ _ | refine blk_drew ?_ | refine blk_alloc ?_ _)); refine blk_put (cs := #[.int .i64 ((rd_ITerm l0 x26_2).f0), .int .i64 ((rd_ITerm l0 x26_2).f1), .int .i64 0, .int .i64 0]) ?_ 2 _ rfl; (with_reducible repeat (first | refine blk_drewN ?_ _ | refine blk_drew ?_ | refine blk_alloc ?_ _)); refine blk_put (cs := #[.int .i64 ((rd_ITerm l0 x26_2).f0), .int .i64 0, .int .i64 0, .int .i64 0]) ?_ 1 _ rfl; (with_reducible repeat (first | refine blk_drewN ?_ _ | refine blk_drew ?_ | refine blk_alloc ?_ _)); refine blk_put (cs := #[.int .i64 0, .int .i64 0, .int .i64 0, .int .i64 0]) ?_ 0 _ rfl; exact kz BK257⟩, ⟨bz1 HB GE257⟩⟩
      rw [if_neg c27] at H
      have c27b0 : (((rd_ITerm l0 x26_2).f0) == 1) = false := beq_eq_false_iff_ne.mpr c27
      have c27b1 : (((rd_ITerm l0 x26_2).f0) != 1) = true := bne_iff_ne.mpr c27
      by_cases c34 : t261 = true
      case neg =>
       replace c34 := Bool.eq_false_iff.mpr c34
       subst c34
       rw [if_neg nt_] at H
       have H' := Aside0.mk H
       clear H
       have hcz58_0 : w18.cell? ⟨gb257, 0, none⟩ = some (.int .i64 0) := (blk_cell BK257.out 0).trans rfl
       have hcz58_1 : w18.cell? ⟨gb257, 1, none⟩ = some (.int .i64 0) := (blk_cell BK257.out 1).trans rfl
       have hcz58_2 : w18.cell? ⟨gb257, 2, none⟩ = some (.int .i64 0) := (blk_cell BK257.out 2).trans rfl
       have hcz58_3 : w18.cell? ⟨gb257, 3, none⟩ = some (.int .i64 0) := (blk_cell BK257.out 3).trans rfl
       have hfz58_0 := blk_frozen BK257.out 0
       have hfz58_1 := blk_frozen BK257.out 1
       have hfz58_2 := blk_frozen BK257.out 2
       have hfz58_3 := blk_frozen BK257.out 3
       go_wp2
       go_meet
       case rel => exact ⟨_, (false), rq, H', ⟨by have := HJ2.out; have := HK2.out; first | omega | exact Nat.le_refl _⟩, ⟨by (with_reducible repeat (first | apply Kd.R_alloc | apply Kd.R_drewN | apply Kd.R_drew)); exact Kd.R_mono (Kd.R_far (p := ⟨gb257, 3, none⟩) (Kd.R_far (p := ⟨gb257, 2, none⟩) (Kd.R_far (p := ⟨gb257, 1, none⟩) (Kd.R_far (p := ⟨gb257, 0, none⟩) (Kd.R_types HO_5.out BK257.out (by decide)) (fun _ hk => hk.2) (.int .i64 ((rd_ITerm l0 x26_2).f0))) (fun _ hk => hk.2) (.int .i64 ((rd_ITerm l0 x26_2).f1))) (fun _ hk => hk.2) (.int .i64 ((rd_ITerm l0 x26_2).f2))) (fun _ hk => hk.2) (.int .i64 ((rd_ITerm l0 x26_2).f3))) (fun _ hk => trivial)⟩, ⟨by (with_reducible repeat (first | refine blk_drewN ?_ _ | refine blk_drew ?_ | refine blk_alloc ?_ _)); refine blk_put (cs := #[.int .i64 ((rd_ITerm l0 x26_2).f0), .int .i64 ((rd_ITerm l0 x26_2).f1), .int .i64 ((rd_ITerm l0 x26_2).f2), .int .i64 0]) ?_ 3 _ rfl; (with_reducible repeat (first | refine blk_drewN ?_ _ | refine blk_drew ?_ | refine blk_alloc ?_ _)); refine blk_put (cs := #[.int .i64 ((rd_ITerm l0 x26_2).f0), .int .i64 ((rd_ITerm l0 x26_2).f1), .int .i64 0, .int .i64 0]) ?_ 2 _ rfl; (with_reducible repeat (first | refine blk_drewN ?_ _ | refine blk_drew ?_ | refine blk_alloc ?_ _)); refine blk_put (cs := #[.int .i64 ((rd_ITerm l0 x26_2).f0), .int .i64 0, .int .i64 0, .int .i64 0]) ?_ 1 _ rfl; (with_reducible repeat (first | refine blk_drewN ?_ _ | refine blk_drew ?_ | refine blk_alloc ?_ _)); refine blk_put (cs := #[.int .i64 0, .int .i64 0, .int .i64 0, .int .i64 0]) ?_ 0 _ rfl; exact kz BK257⟩, ⟨bz1 HB GE257⟩⟩
      subst c34
      rw [if_pos rfl] at H
      by_cases c35 : ((rd_ITerm l0 x26_2).f1) = 0
      case neg =>
       rw [if_neg c35] at H
       have c35b0 : (((rd_ITerm l0 x26_2).f1) == 0) = false := beq_eq_false_iff_ne.mpr c35
       have c35b1 : (((rd_ITerm l0 x26_2).f1) != 0) = true := bne_iff_ne.mpr c35
       have H' := Aside0.mk H
       clear H
       have hcz57_0 : w18.cell? ⟨gb257, 0, none⟩ = some (.int .i64 0) := (blk_cell BK257.out 0).trans rfl
       have hcz57_1 : w18.cell? ⟨gb257, 1, none⟩ = some (.int .i64 0) := (blk_cell BK257.out 1).trans rfl
       have hcz57_2 : w18.cell? ⟨gb257, 2, none⟩ = some (.int .i64 0) := (blk_cell BK257.out 2).trans rfl
       have hcz57_3 : w18.cell? ⟨gb257, 3, none⟩ = some (.int .i64 0) := (blk_cell BK257.out 3).trans rfl
       have hfz57_0 := blk_frozen BK257.out 0
       have hfz57_1 := blk_frozen BK257.out 1
       have hfz57_2 := blk_frozen BK257.out 2
       have hfz57_3 := blk_frozen BK257.out 3
       go_wp2
       go_meet
       case rel => exact ⟨_, (false), rq, H', ⟨by have := HJ2.out; have := HK2.out; first | omega | exact Nat.le_refl _⟩, ⟨by (with_reducible repeat (first | apply Kd.R_alloc | apply Kd.R_drewN | apply Kd.R_drew)); exact Kd.R_mono (Kd.R_far (p := ⟨gb257, 3, none⟩) (Kd.R_far (p := ⟨gb257, 2, none⟩) (Kd.R_far (p := ⟨gb257, 1, none⟩) (Kd.R_far (p := ⟨gb257, 0, none⟩) (Kd.R_types HO_5.out BK257.out (by decide)) (fun _ hk => hk.2) (.int .i64 ((rd_ITerm l0 x26_2).f0))) (fun _ hk => hk.2) (.int .i64 ((rd_ITerm l0 x26_2).f1))) (fun _ hk => hk.2) (.int .i64 ((rd_ITerm l0 x26_2).f2))) (fun _ hk => hk.2) (.int .i64 ((rd_ITerm l0 x26_2).f3))) (fun _ hk => trivial)⟩, ⟨by (with_reducible repeat (first | refine blk_drewN ?_ _ | refine blk_drew ?_ | refine blk_alloc ?_ _)); refine blk_put (cs := #[.int .i64 ((rd_ITerm l0 x26_2).f0), .int .i64 ((rd_ITerm l0 x26_2).f1), .int .i64 ((rd_ITerm l0 x26_2).f2), .int .i64 0]) ?_ 3 _ rfl; (with_reducible repeat (first | refine blk_drewN ?_ _ | refine blk_drew ?_ | refine blk_alloc ?_ _)); refine blk_put (cs := #[.int .i64 ((rd_ITerm l0 x26_2).f0), .int .i64 ((rd_ITerm l0 x26_2).f1), .int .i64 0, .int .i64 0]) ?_ 2 _ rfl; (with_reducible repeat (first | refine blk_drewN ?_ _ | refine blk_drew ?_ | refine blk_alloc ?_ _)); refine blk_put (cs := #[.int .i64 ((rd_ITerm l0 x26_2).f0), .int .i64 0, .int .i64 0, .int .i64 0]) ?_ 1 _ rfl; (with_reducible repeat (first | refine blk_drewN ?_ _ | refine blk_drew ?_ | refine blk_alloc ?_ _)); refine blk_put (cs := #[.int .i64 0, .int .i64 0, .int .i64 0, .int .i64 0]) ?_ 0 _ rfl; exact kz BK257⟩, ⟨bz1 HB GE257⟩⟩
      rw [if_pos c35] at H
      have c35b0 : (((rd_ITerm l0 x26_2).f1) == 0) = true := beq_iff_eq.mpr c35
      have c35b1 : (((rd_ITerm l0 x26_2).f1) != 0) = false := bne_eq_false_iff_eq.mpr c35
      clear c35
      replace H := Option.bind_eq_some_iff.mp H
      obtain ⟨t264, A360, H⟩ := H
      have A36 := Aside0.mk A360
      clear A360
      by_cases c37 : t264 = true
      case neg =>
       replace c37 := Bool.eq_false_iff.mpr c37
       subst c37
       rw [if_neg nt_] at H
       have H' := Aside0.mk H
       clear H
       have hcz56_0 : w18.cell? ⟨gb257, 0, none⟩ = some (.int .i64 0) := (blk_cell BK257.out 0).trans rfl
       have hcz56_1 : w18.cell? ⟨gb257, 1, none⟩ = some (.int .i64 0) := (blk_cell BK257.out 1).trans rfl
       have hcz56_2 : w18.cell? ⟨gb257, 2, none⟩ = some (.int .i64 0) := (blk_cell BK257.out 2).trans rfl
       have hcz56_3 : w18.cell? ⟨gb257, 3, none⟩ = some (.int .i64 0) := (blk_cell BK257.out 3).trans rfl
       have hfz56_0 := blk_frozen BK257.out 0
       have hfz56_1 := blk_frozen BK257.out 1
       have hfz56_2 := blk_frozen BK257.out 2
       have hfz56_3 := blk_frozen BK257.out 3
       go_wp2_with (first | (go_at_call 69; (with_reducible refine (impl_in.calls ((rd_ITerm l0 x26_2).f2) 0 (wrap64 (x26_2 - 1)) false _ A36.out).mono ?_); rintro e w' ⟨rfl, ⟨nd, rfl⟩⟩))
       go_meet
       case rel => exact ⟨_, (false), rq, H', ⟨by have := HJ2.out; have := HK2.out; first | omega | exact Nat.le_refl _⟩, ⟨by (with_reducible repeat (first | apply Kd.R_alloc | apply Kd.R_drewN | apply Kd.R_drew)); exact Kd.R_mono (Kd.R_far (p := ⟨gb257, 3, none⟩) (Kd.R_far (p := ⟨gb257, 2, none⟩) (Kd.R_far (p := ⟨gb257, 1, none⟩) (Kd.R_far (p := ⟨gb257, 0, none⟩) (Kd.R_types HO_5.out BK257.out (by decide)) (fun _ hk => hk.2) (.int .i64 ((rd_ITerm l0 x26_2).f0))) (fun _ hk => hk.2) (.int .i64 ((rd_ITerm l0 x26_2).f1))) (fun _ hk => hk.2) (.int .i64 ((rd_ITerm l0 x26_2).f2))) (fun _ hk => hk.2) (.int .i64 ((rd_ITerm l0 x26_2).f3))) (fun _ hk => trivial)⟩, ⟨by (with_reducible repeat (first | refine blk_drewN ?_ _ | refine blk_drew ?_ | refine blk_alloc ?_ _)); refine blk_put (cs := #[.int .i64 ((rd_ITerm l0 x26_2).f0), .int .i64 ((rd_ITerm l0 x26_2).f1), .int .i64 ((rd_ITerm l0 x26_2).f2), .int .i64 0]) ?_ 3 _ rfl; (with_reducible repeat (first | refine blk_drewN ?_ _ | refine blk_drew ?_ | refine blk_alloc ?_ _)); refine blk_put (cs := #[.int .i64 ((rd_ITerm l0 x26_2).f0), .int .i64 ((rd_ITerm l0 x26_2).f1), .int .i64 0, .int .i64 0]) ?_ 2 _ rfl; (with_reducible repeat (first | refine blk_drewN ?_ _ | refine blk_drew ?_ | refine blk_alloc ?_ _)); refine blk_put (cs := #[.int .i64 ((rd_ITerm l0 x26_2).f0), .int .i64 0, .int .i64 0, .int .i64 0]) ?_ 1 _ rfl; (with_reducible repeat (first | refine blk_drewN ?_ _ | refine blk_drew ?_ | refine blk_alloc ?_ _)); refine blk_put (cs := #[.int .i64 0, .int .i64 0, .int .i64 0, .int .i64 0]) ?_ 0 _ rfl; exact kz BK257⟩, ⟨bz1 HB GE257⟩⟩
      subst c37
      rw [if_pos rfl] at H
      replace H := Option.bind_eq_some_iff.mp H
      obtain ⟨t265, A380, H⟩ := H
      have A38 := Aside0.mk A380
      clear A380
      by_cases c39 : t265 = true
      case neg =>
       replace c39 := Bool.eq_false_iff.mpr c39
       subst c39
       rw [if_neg nt_] at H
       have H' := Aside0.mk H
       clear H
       have hcz55_0 : w18.cell? ⟨gb257, 0, none⟩ = some (.int .i64 0) := (blk_cell BK257.out 0).trans rfl
       have hcz55_1 : w18.cell? ⟨gb257, 1, none⟩ = some (.int .i64 0) := (blk_cell BK257.out 1).trans rfl
       have hcz55_2 : w18.cell? ⟨gb257, 2, none⟩ = some (.int .i64 0) := (blk_cell BK257.out 2).trans rfl
       have hcz55_3 : w18.cell? ⟨gb257, 3, none⟩ = some (.int .i64 0) := (blk_cell BK257.out 3).trans rfl
       have hfz55_0 := blk_frozen BK257.out 0
       have hfz55_1 := blk_frozen BK257.out 1
       have hfz55_2 := blk_frozen BK257.out 2
       have hfz55_3 := blk_frozen BK257.out 3
       go_wp2_with (first | (go_at_call 69; (with_reducible refine (impl_in.calls ((rd_ITerm l0 x26_2).f2) 0 (wrap64 (x26_2 - 1)) true _ A36.out).mono ?_); rintro e w' ⟨rfl, ⟨nd, rfl⟩⟩) | (go_at_call 69; (with_reducible refine (impl_in.calls ((rd_ITerm l0 x26_2).f3) 0 (wrap64 (x26_2 - 1)) false _ A38.out).mono ?_); rintro e w' ⟨rfl, ⟨nd, rfl⟩⟩))
       go_meet
       case rel => exact ⟨_, (false), rq, H', ⟨by have := HJ2.out; have := HK2.out; first | omega | exact Nat.le_refl _⟩, ⟨by (with_reducible repeat (first | apply Kd.R_alloc | apply Kd.R_drewN | apply Kd.R_drew)); exact Kd.R_mono (Kd.R_far (p := ⟨gb257, 3, none⟩) (Kd.R_far (p := ⟨gb257, 2, none⟩) (Kd.R_far (p := ⟨gb257, 1, none⟩) (Kd.R_far (p := ⟨gb257, 0, none⟩) (Kd.R_types HO_5.out BK257.out (by decide)) (fun _ hk => hk.2) (.int .i64 ((rd_ITerm l0 x26_2).f0))) (fun _ hk => hk.2) (.int .i64 ((rd_ITerm l0 x26_2).f1))) (fun _ hk => hk.2) (.int .i64 ((rd_ITerm l0 x26_2).f2))) (fun _ hk => hk.2) (.int .i64 ((rd_ITerm l0 x26_2).f3))) (fun _ hk => trivial)⟩, ⟨by (with_reducible repeat (first | refine blk_drewN ?_ _ | refine blk_drew ?_ | refine blk_alloc ?_ _)); refine blk_put (cs := #[.int .i64 ((rd_ITerm l0 x26_2).f0), .int .i64 ((rd_ITerm l0 x26_2).f1), .int .i64 ((rd_ITerm l0 x26_2).f2), .int .i64 0]) ?_ 3 _ rfl; (with_reducible repeat (first | refine blk_drewN ?_ _ | refine blk_drew ?_ | refine blk_alloc ?_ _)); refine blk_put (cs := #[.int .i64 ((rd_ITerm l0 x26_2).f0), .int .i64 ((rd_ITerm l0 x26_2).f1), .int .i64 0, .int .i64 0]) ?_ 2 _ rfl; (with_reducible repeat (first | refine blk_drewN ?_ _ | refine blk_drew ?_ | refine blk_alloc ?_ _)); refine blk_put (cs := #[.int .i64 ((rd_ITerm l0 x26_2).f0), .int .i64 0, .int .i64 0, .int .i64 0]) ?_ 1 _ rfl; (with_reducible repeat (first | refine blk_drewN ?_ _ | refine blk_drew ?_ | refine blk_alloc ?_ _)); refine blk_put (cs := #[.int .i64 0, .int .i64 0, .int .i64 0, .int .i64 0]) ?_ 0 _ rfl; exact kz BK257⟩, ⟨bz1 HB GE257⟩⟩
      subst c39
      rw [if_pos rfl] at H
      by_cases c40 : 0 ≤ ((rd_ITerm l0 x26_2).f2)
      case neg =>
       rw [if_neg c40] at H
       exact absurd H (by simp)
      rw [if_pos c40] at H
      have c40b0 : decide (0 ≤ ((rd_ITerm l0 x26_2).f2)) = true := decide_eq_true c40
      clear c40
      by_cases c41 : ((rd_ITerm l0 x26_2).f2) < (x5_2.length : Int)
      case neg =>
       rw [if_neg c41] at H
       exact absurd H (by simp)
      rw [if_pos c41] at H
      have c41b0 : decide (((rd_ITerm l0 x26_2).f2) < (x5_2.length : Int)) = true := decide_eq_true c41
      clear c41
      by_cases c42 : (rd x5_2 ((rd_ITerm l0 x26_2).f2)) = t259
      case neg =>
       rw [if_neg c42] at H
       have c42b0 : ((rd x5_2 ((rd_ITerm l0 x26_2).f2)) == t259) = false := beq_eq_false_iff_ne.mpr c42
       have c42b1 : ((rd x5_2 ((rd_ITerm l0 x26_2).f2)) != t259) = true := bne_iff_ne.mpr c42
       have H' := Aside0.mk H
       clear H
       have hcz53_0 : w18.cell? ⟨gb257, 0, none⟩ = some (.int .i64 0) := (blk_cell BK257.out 0).trans rfl
       have hcz53_1 : w18.cell? ⟨gb257, 1, none⟩ = some (.int .i64 0) := (blk_cell BK257.out 1).trans rfl
       have hcz53_2 : w18.cell? ⟨gb257, 2, none⟩ = some (.int .i64 0) := (blk_cell BK257.out 2).trans rfl
       have hcz53_3 : w18.cell? ⟨gb257, 3, none⟩ = some (.int .i64 0) := (blk_cell BK257.out 3).trans rfl
       have hfz53_0 := blk_frozen BK257.out 0
       have hfz53_1 := blk_frozen BK257.out 1
       have hfz53_2 := blk_frozen BK257.out 2
       have hfz53_3 := blk_frozen BK257.out 3
       go_wp2_with (first | (go_at_call 69; (with_reducible refine (impl_in.calls ((rd_ITerm l0 x26_2).f2) 0 (wrap64 (x26_2 - 1)) true _ A36.out).mono ?_); rintro e w' ⟨rfl, ⟨nd, rfl⟩⟩) | (go_at_call 69; (with_reducible refine (impl_in.calls ((rd_ITerm l0 x26_2).f3) 0 (wrap64 (x26_2 - 1)) true _ A38.out).mono ?_); rintro e w' ⟨rfl, ⟨nd, rfl⟩⟩; obtain ⟨Ao54, co54, eo54⟩ := Kd.R_slice HO_5.out; subst eo54; have p266 : 0 ≤ (((rd_ITerm l0 x26_2).f2) : Int) := dz; have q266 : ((rd_ITerm l0 x26_2).f2) < (x5_2.length : Int) := dz; obtain ⟨ad266, e266, hx266_0⟩ := Kd.at_int (Kd.R_reads' HO_5.out).2.2 ((rd_ITerm l0 x26_2).f2) p266 q266; cases e266; have hn266_0 : ad266.block ≠ gb257 := Kd.own_blk (Kd.R_ne HO_5.out BK257.out (by decide)); have hn266_1 : ad266.block ≠ gb257 := Kd.own_blk (Kd.R_ne HO_5.out BK257.out (by decide)); have hn266_2 : ad266.block ≠ gb257 := Kd.own_blk (Kd.R_ne HO_5.out BK257.out (by decide)); have hn266_3 : ad266.block ≠ gb257 := Kd.own_blk (Kd.R_ne HO_5.out BK257.out (by decide)); replace hx266_0 := (cell_far (p := ⟨gb257, 0, none⟩) (by first | (rw [add_block]; exact hn266_0) | (show (Addr.add _ _).block ≠ _; rw [add_block]; exact hn266_0) | exact hn266_0) (.int .i64 ((rd_ITerm l0 x26_2).f0))).trans hx266_0; replace hx266_0 := (cell_far (p := ⟨gb257, 1, none⟩) (by first | (rw [add_block]; exact hn266_1) | (show (Addr.add _ _).block ≠ _; rw [add_block]; exact hn266_1) | exact hn266_1) (.int .i64 ((rd_ITerm l0 x26_2).f1))).trans hx266_0; replace hx266_0 := (cell_far (p := ⟨gb257, 2, none⟩) (by first | (rw [add_block]; exact hn266_2) | (show (Addr.add _ _).block ≠ _; rw [add_block]; exact hn266_2) | exact hn266_2) (.int .i64 ((rd_ITerm l0 x26_2).f2))).trans hx266_0; replace hx266_0 := (cell_far (p := ⟨gb257, 3, none⟩) (by first | (rw [add_block]; exact hn266_3) | (show (Addr.add _ _).block ≠ _; rw [add_block]; exact hn266_3) | exact hn266_3) (.int .i64 ((rd_ITerm l0 x26_2).f3))).trans hx266_0; clear hn266_0; clear hn266_1; clear hn266_2; clear hn266_3; replace p266 := eq_true p266; replace q266 := eq_true q266))
       go_meet
       case rel => exact ⟨_, (false), rq, H', ⟨by have := HJ2.out; have := HK2.out; first | omega | exact Nat.le_refl _⟩, ⟨by (with_reducible repeat (first | apply Kd.R_alloc | apply Kd.R_drewN | apply Kd.R_drew)); exact Kd.R_mono (Kd.R_far (p := ⟨gb257, 3, none⟩) (Kd.R_far (p := ⟨gb257, 2, none⟩) (Kd.R_far (p := ⟨gb257, 1, none⟩) (Kd.R_far (p := ⟨gb257, 0, none⟩) (Kd.R_types HO_5.out BK257.out (by decide)) (fun _ hk => hk.2) (.int .i64 ((rd_ITerm l0 x26_2).f0))) (fun _ hk => hk.2) (.int .i64 ((rd_ITerm l0 x26_2).f1))) (fun _ hk => hk.2) (.int .i64 ((rd_ITerm l0 x26_2).f2))) (fun _ hk => hk.2) (.int .i64 ((rd_ITerm l0 x26_2).f3))) (fun _ hk => trivial)⟩, ⟨by (with_reducible repeat (first | refine blk_drewN ?_ _ | refine blk_drew ?_ | refine blk_alloc ?_ _)); refine blk_put (cs := #[.int .i64 ((rd_ITerm l0 x26_2).f0), .int .i64 ((rd_ITerm l0 x26_2).f1), .int .i64 ((rd_ITerm l0 x26_2).f2), .int .i64 0]) ?_ 3 _ rfl; (with_reducible repeat (first | refine blk_drewN ?_ _ | refine blk_drew ?_ | refine blk_alloc ?_ _)); refine blk_put (cs := #[.int .i64 ((rd_ITerm l0 x26_2).f0), .int .i64 ((rd_ITerm l0 x26_2).f1), .int .i64 0, .int .i64 0]) ?_ 2 _ rfl; (with_reducible repeat (first | refine blk_drewN ?_ _ | refine blk_drew ?_ | refine blk_alloc ?_ _)); refine blk_put (cs := #[.int .i64 ((rd_ITerm l0 x26_2).f0), .int .i64 0, .int .i64 0, .int .i64 0]) ?_ 1 _ rfl; (with_reducible repeat (first | refine blk_drewN ?_ _ | refine blk_drew ?_ | refine blk_alloc ?_ _)); refine blk_put (cs := #[.int .i64 0, .int .i64 0, .int .i64 0, .int .i64 0]) ?_ 0 _ rfl; exact kz BK257⟩, ⟨bz1 HB GE257⟩⟩
      rw [if_pos c42] at H
      have c42b0 : ((rd x5_2 ((rd_ITerm l0 x26_2).f2)) == t259) = true := beq_iff_eq.mpr c42
      have c42b1 : ((rd x5_2 ((rd_ITerm l0 x26_2).f2)) != t259) = false := bne_eq_false_iff_eq.mpr c42
      clear c42
      by_cases c43 : 0 ≤ ((rd_ITerm l0 x26_2).f3)
      case neg =>
       rw [if_neg c43] at H
       exact absurd H (by simp)
      rw [if_pos c43] at H
      have c43b0 : decide (0 ≤ ((rd_ITerm l0 x26_2).f3)) = true := decide_eq_true c43
      clear c43
      by_cases c44 : ((rd_ITerm l0 x26_2).f3) < (x5_2.length : Int)
      case neg =>
       rw [if_neg c44] at H
       exact absurd H (by simp)
      rw [if_pos c44] at H
      have c44b0 : decide (((rd_ITerm l0 x26_2).f3) < (x5_2.length : Int)) = true := decide_eq_true c44
      clear c44
      by_cases c45 : (rd x5_2 ((rd_ITerm l0 x26_2).f3)) = t259
      case neg =>
       rw [if_neg c45] at H
       have c45b0 : ((rd x5_2 ((rd_ITerm l0 x26_2).f3)) == t259) = false := beq_eq_false_iff_ne.mpr c45
       have c45b1 : ((rd x5_2 ((rd_ITerm l0 x26_2).f3)) != t259) = true := bne_iff_ne.mpr c45
       have H' := Aside0.mk H
       clear H
       have hcz51_0 : w18.cell? ⟨gb257, 0, none⟩ = some (.int .i64 0) := (blk_cell BK257.out 0).trans rfl
       have hcz51_1 : w18.cell? ⟨gb257, 1, none⟩ = some (.int .i64 0) := (blk_cell BK257.out 1).trans rfl
       have hcz51_2 : w18.cell? ⟨gb257, 2, none⟩ = some (.int .i64 0) := (blk_cell BK257.out 2).trans rfl
       have hcz51_3 : w18.cell? ⟨gb257, 3, none⟩ = some (.int .i64 0) := (blk_cell BK257.out 3).trans rfl
       have hfz51_0 := blk_frozen BK257.out 0
       have hfz51_1 := blk_frozen BK257.out 1
       have hfz51_2 := blk_frozen BK257.out 2
       have hfz51_3 := blk_frozen BK257.out 3
       go_wp2_with (first | (go_at_call 69; (with_reducible refine (impl_in.calls ((rd_ITerm l0 x26_2).f2) 0 (wrap64 (x26_2 - 1)) true _ A36.out).mono ?_); rintro e w' ⟨rfl, ⟨nd, rfl⟩⟩) | (go_at_call 69; (with_reducible refine (impl_in.calls ((rd_ITerm l0 x26_2).f3) 0 (wrap64 (x26_2 - 1)) true _ A38.out).mono ?_); rintro e w' ⟨rfl, ⟨nd, rfl⟩⟩; obtain ⟨Ao52, co52, eo52⟩ := Kd.R_slice HO_5.out; subst eo52; have p266 : 0 ≤ (((rd_ITerm l0 x26_2).f2) : Int) := dz; have q266 : ((rd_ITerm l0 x26_2).f2) < (x5_2.length : Int) := dz; obtain ⟨ad266, e266, hx266_0⟩ := Kd.at_int (Kd.R_reads' HO_5.out).2.2 ((rd_ITerm l0 x26_2).f2) p266 q266; cases e266; have hn266_0 : ad266.block ≠ gb257 := Kd.own_blk (Kd.R_ne HO_5.out BK257.out (by decide)); have hn266_1 : ad266.block ≠ gb257 := Kd.own_blk (Kd.R_ne HO_5.out BK257.out (by decide)); have hn266_2 : ad266.block ≠ gb257 := Kd.own_blk (Kd.R_ne HO_5.out BK257.out (by decide)); have hn266_3 : ad266.block ≠ gb257 := Kd.own_blk (Kd.R_ne HO_5.out BK257.out (by decide)); replace hx266_0 := (cell_far (p := ⟨gb257, 0, none⟩) (by first | (rw [add_block]; exact hn266_0) | (show (Addr.add _ _).block ≠ _; rw [add_block]; exact hn266_0) | exact hn266_0) (.int .i64 ((rd_ITerm l0 x26_2).f0))).trans hx266_0; replace hx266_0 := (cell_far (p := ⟨gb257, 1, none⟩) (by first | (rw [add_block]; exact hn266_1) | (show (Addr.add _ _).block ≠ _; rw [add_block]; exact hn266_1) | exact hn266_1) (.int .i64 ((rd_ITerm l0 x26_2).f1))).trans hx266_0; replace hx266_0 := (cell_far (p := ⟨gb257, 2, none⟩) (by first | (rw [add_block]; exact hn266_2) | (show (Addr.add _ _).block ≠ _; rw [add_block]; exact hn266_2) | exact hn266_2) (.int .i64 ((rd_ITerm l0 x26_2).f2))).trans hx266_0; replace hx266_0 := (cell_far (p := ⟨gb257, 3, none⟩) (by first | (rw [add_block]; exact hn266_3) | (show (Addr.add _ _).block ≠ _; rw [add_block]; exact hn266_3) | exact hn266_3) (.int .i64 ((rd_ITerm l0 x26_2).f3))).trans hx266_0; clear hn266_0; clear hn266_1; clear hn266_2; clear hn266_3; replace p266 := eq_true p266; replace q266 := eq_true q266; have p267 : 0 ≤ (((rd_ITerm l0 x26_2).f3) : Int) := dz; have q267 : ((rd_ITerm l0 x26_2).f3) < (x5_2.length : Int) := dz; obtain ⟨ad267, e267, hx267_0⟩ := Kd.at_int (Kd.R_reads' HO_5.out).2.2 ((rd_ITerm l0 x26_2).f3) p267 q267; obtain rfl : ad266 = ad267 := (by injection e267); have hn267_0 : ad266.block ≠ gb257 := Kd.own_blk (Kd.R_ne HO_5.out BK257.out (by decide)); have hn267_1 : ad266.block ≠ gb257 := Kd.own_blk (Kd.R_ne HO_5.out BK257.out (by decide)); have hn267_2 : ad266.block ≠ gb257 := Kd.own_blk (Kd.R_ne HO_5.out BK257.out (by decide)); have hn267_3 : ad266.block ≠ gb257 := Kd.own_blk (Kd.R_ne HO_5.out BK257.out (by decide)); replace hx267_0 := (cell_far (p := ⟨gb257, 0, none⟩) (by first | (rw [add_block]; exact hn267_0) | (show (Addr.add _ _).block ≠ _; rw [add_block]; exact hn267_0) | exact hn267_0) (.int .i64 ((rd_ITerm l0 x26_2).f0))).trans hx267_0; replace hx267_0 := (cell_far (p := ⟨gb257, 1, none⟩) (by first | (rw [add_block]; exact hn267_1) | (show (Addr.add _ _).block ≠ _; rw [add_block]; exact hn267_1) | exact hn267_1) (.int .i64 ((rd_ITerm l0 x26_2).f1))).trans hx267_0; replace hx267_0 := (cell_far (p := ⟨gb257, 2, none⟩) (by first | (rw [add_block]; exact hn267_2) | (show (Addr.add _ _).block ≠ _; rw [add_block]; exact hn267_2) | exact hn267_2) (.int .i64 ((rd_ITerm l0 x26_2).f2))).trans hx267_0; replace hx267_0 := (cell_far (p := ⟨gb257, 3, none⟩) (by first | (rw [add_block]; exact hn267_3) | (show (Addr.add _ _).block ≠ _; rw [add_block]; exact hn267_3) | exact hn267_3) (.int .i64 ((rd_ITerm l0 x26_2).f3))).trans hx267_0; clear hn267_0; clear hn267_1; clear hn267_2; clear hn267_3; replace p267 := eq_true p267; replace q267 := eq_true q267))
       go_meet
       case rel => exact ⟨_, (false), rq, H', ⟨by have := HJ2.out; have := HK2.out; first | omega | exact Nat.le_refl _⟩, ⟨by (with_reducible repeat (first | apply Kd.R_alloc | apply Kd.R_drewN | apply Kd.R_drew)); exact Kd.R_mono (Kd.R_far (p := ⟨gb257, 3, none⟩) (Kd.R_far (p := ⟨gb257, 2, none⟩) (Kd.R_far (p := ⟨gb257, 1, none⟩) (Kd.R_far (p := ⟨gb257, 0, none⟩) (Kd.R_types HO_5.out BK257.out (by decide)) (fun _ hk => hk.2) (.int .i64 ((rd_ITerm l0 x26_2).f0))) (fun _ hk => hk.2) (.int .i64 ((rd_ITerm l0 x26_2).f1))) (fun _ hk => hk.2) (.int .i64 ((rd_ITerm l0 x26_2).f2))) (fun _ hk => hk.2) (.int .i64 ((rd_ITerm l0 x26_2).f3))) (fun _ hk => trivial)⟩, ⟨by (with_reducible repeat (first | refine blk_drewN ?_ _ | refine blk_drew ?_ | refine blk_alloc ?_ _)); refine blk_put (cs := #[.int .i64 ((rd_ITerm l0 x26_2).f0), .int .i64 ((rd_ITerm l0 x26_2).f1), .int .i64 ((rd_ITerm l0 x26_2).f2), .int .i64 0]) ?_ 3 _ rfl; (with_reducible repeat (first | refine blk_drewN ?_ _ | refine blk_drew ?_ | refine blk_alloc ?_ _)); refine blk_put (cs := #[.int .i64 ((rd_ITerm l0 x26_2).f0), .int .i64 ((rd_ITerm l0 x26_2).f1), .int .i64 0, .int .i64 0]) ?_ 2 _ rfl; (with_reducible repeat (first | refine blk_drewN ?_ _ | refine blk_drew ?_ | refine blk_alloc ?_ _)); refine blk_put (cs := #[.int .i64 ((rd_ITerm l0 x26_2).f0), .int .i64 0, .int .i64 0, .int .i64 0]) ?_ 1 _ rfl; (with_reducible repeat (first | refine blk_drewN ?_ _ | refine blk_drew ?_ | refine blk_alloc ?_ _)); refine blk_put (cs := #[.int .i64 0, .int .i64 0, .int .i64 0, .int .i64 0]) ?_ 0 _ rfl; exact kz BK257⟩, ⟨bz1 HB GE257⟩⟩
      rw [if_pos c45] at H
      have c45b0 : ((rd x5_2 ((rd_ITerm l0 x26_2).f3)) == t259) = true := beq_iff_eq.mpr c45
      have c45b1 : ((rd x5_2 ((rd_ITerm l0 x26_2).f3)) != t259) = false := bne_eq_false_iff_eq.mpr c45
      clear c45
      by_cases c46 : t258 = 2
      case pos =>
       rw [if_pos c46] at H
       have c46b0 : (t258 == 2) = true := beq_iff_eq.mpr c46
       have c46b1 : (t258 != 2) = false := bne_eq_false_iff_eq.mpr c46
       clear c46
       have H' := Aside0.mk H
       clear H
       have hcz47_0 : w18.cell? ⟨gb257, 0, none⟩ = some (.int .i64 0) := (blk_cell BK257.out 0).trans rfl
       have hcz47_1 : w18.cell? ⟨gb257, 1, none⟩ = some (.int .i64 0) := (blk_cell BK257.out 1).trans rfl
       have hcz47_2 : w18.cell? ⟨gb257, 2, none⟩ = some (.int .i64 0) := (blk_cell BK257.out 2).trans rfl
       have hcz47_3 : w18.cell? ⟨gb257, 3, none⟩ = some (.int .i64 0) := (blk_cell BK257.out 3).trans rfl
       have hfz47_0 := blk_frozen BK257.out 0
       have hfz47_1 := blk_frozen BK257.out 1
       have hfz47_2 := blk_frozen BK257.out 2
       have hfz47_3 := blk_frozen BK257.out 3
       go_wp2_with (first | (go_at_call 69; (with_reducible refine (impl_in.calls ((rd_ITerm l0 x26_2).f2) 0 (wrap64 (x26_2 - 1)) true _ A36.out).mono ?_); rintro e w' ⟨rfl, ⟨nd, rfl⟩⟩) | (go_at_call 69; (with_reducible refine (impl_in.calls ((rd_ITerm l0 x26_2).f3) 0 (wrap64 (x26_2 - 1)) true _ A38.out).mono ?_); rintro e w' ⟨rfl, ⟨nd, rfl⟩⟩; obtain ⟨Ao48, co48, eo48⟩ := Kd.R_slice HO_5.out; subst eo48; have p266 : 0 ≤ (((rd_ITerm l0 x26_2).f2) : Int) := dz; have q266 : ((rd_ITerm l0 x26_2).f2) < (x5_2.length : Int) := dz; obtain ⟨ad266, e266, hx266_0⟩ := Kd.at_int (Kd.R_reads' HO_5.out).2.2 ((rd_ITerm l0 x26_2).f2) p266 q266; cases e266; have hn266_0 : ad266.block ≠ gb257 := Kd.own_blk (Kd.R_ne HO_5.out BK257.out (by decide)); have hn266_1 : ad266.block ≠ gb257 := Kd.own_blk (Kd.R_ne HO_5.out BK257.out (by decide)); have hn266_2 : ad266.block ≠ gb257 := Kd.own_blk (Kd.R_ne HO_5.out BK257.out (by decide)); have hn266_3 : ad266.block ≠ gb257 := Kd.own_blk (Kd.R_ne HO_5.out BK257.out (by decide)); replace hx266_0 := (cell_far (p := ⟨gb257, 0, none⟩) (by first | (rw [add_block]; exact hn266_0) | (show (Addr.add _ _).block ≠ _; rw [add_block]; exact hn266_0) | exact hn266_0) (.int .i64 ((rd_ITerm l0 x26_2).f0))).trans hx266_0; replace hx266_0 := (cell_far (p := ⟨gb257, 1, none⟩) (by first | (rw [add_block]; exact hn266_1) | (show (Addr.add _ _).block ≠ _; rw [add_block]; exact hn266_1) | exact hn266_1) (.int .i64 ((rd_ITerm l0 x26_2).f1))).trans hx266_0; replace hx266_0 := (cell_far (p := ⟨gb257, 2, none⟩) (by first | (rw [add_block]; exact hn266_2) | (show (Addr.add _ _).block ≠ _; rw [add_block]; exact hn266_2) | exact hn266_2) (.int .i64 ((rd_ITerm l0 x26_2).f2))).trans hx266_0; replace hx266_0 := (cell_far (p := ⟨gb257, 3, none⟩) (by first | (rw [add_block]; exact hn266_3) | (show (Addr.add _ _).block ≠ _; rw [add_block]; exact hn266_3) | exact hn266_3) (.int .i64 ((rd_ITerm l0 x26_2).f3))).trans hx266_0; clear hn266_0; clear hn266_1; clear hn266_2; clear hn266_3; replace p266 := eq_true p266; replace q266 := eq_true q266; have p267 : 0 ≤ (((rd_ITerm l0 x26_2).f3) : Int) := dz; have q267 : ((rd_ITerm l0 x26_2).f3) < (x5_2.length : Int) := dz; obtain ⟨ad267, e267, hx267_0⟩ := Kd.at_int (Kd.R_reads' HO_5.out).2.2 ((rd_ITerm l0 x26_2).f3) p267 q267; obtain rfl : ad266 = ad267 := (by injection e267); have hn267_0 : ad266.block ≠ gb257 := Kd.own_blk (Kd.R_ne HO_5.out BK257.out (by decide)); have hn267_1 : ad266.block ≠ gb257 := Kd.own_blk (Kd.R_ne HO_5.out BK257.out (by decide)); have hn267_2 : ad266.block ≠ gb257 := Kd.own_blk (Kd.R_ne HO_5.out BK257.out (by decide)); have hn267_3 : ad266.block ≠ gb257 := Kd.own_blk (Kd.R_ne HO_5.out BK257.out (by decide)); replace hx267_0 := (cell_far (p := ⟨gb257, 0, none⟩) (by first | (rw [add_block]; exact hn267_0) | (show (Addr.add _ _).block ≠ _; rw [add_block]; exact hn267_0) | exact hn267_0) (.int .i64 ((rd_ITerm l0 x26_2).f0))).trans hx267_0; replace hx267_0 := (cell_far (p := ⟨gb257, 1, none⟩) (by first | (rw [add_block]; exact hn267_1) | (show (Addr.add _ _).block ≠ _; rw [add_block]; exact hn267_1) | exact hn267_1) (.int .i64 ((rd_ITerm l0 x26_2).f1))).trans hx267_0; replace hx267_0 := (cell_far (p := ⟨gb257, 2, none⟩) (by first | (rw [add_block]; exact hn267_2) | (show (Addr.add _ _).block ≠ _; rw [add_block]; exact hn267_2) | exact hn267_2) (.int .i64 ((rd_ITerm l0 x26_2).f2))).trans hx267_0; replace hx267_0 := (cell_far (p := ⟨gb257, 3, none⟩) (by first | (rw [add_block]; exact hn267_3) | (show (Addr.add _ _).block ≠ _; rw [add_block]; exact hn267_3) | exact hn267_3) (.int .i64 ((rd_ITerm l0 x26_2).f3))).trans hx267_0; clear hn267_0; clear hn267_1; clear hn267_2; clear hn267_3; replace p267 := eq_true p267; replace q267 := eq_true q267))
       go_meet
       case rel => exact ⟨_, (true), rq, H', ⟨by have := HJ2.out; have := HK2.out; first | omega | exact Nat.le_refl _⟩, ⟨by (with_reducible repeat (first | apply Kd.R_alloc | apply Kd.R_drewN | apply Kd.R_drew)); exact Kd.R_mono (Kd.R_far (p := ⟨gb257, 3, none⟩) (Kd.R_far (p := ⟨gb257, 2, none⟩) (Kd.R_far (p := ⟨gb257, 1, none⟩) (Kd.R_far (p := ⟨gb257, 0, none⟩) (Kd.R_types HO_5.out BK257.out (by decide)) (fun _ hk => hk.2) (.int .i64 ((rd_ITerm l0 x26_2).f0))) (fun _ hk => hk.2) (.int .i64 ((rd_ITerm l0 x26_2).f1))) (fun _ hk => hk.2) (.int .i64 ((rd_ITerm l0 x26_2).f2))) (fun _ hk => hk.2) (.int .i64 ((rd_ITerm l0 x26_2).f3))) (fun _ hk => trivial)⟩, ⟨by (with_reducible repeat (first | refine blk_drewN ?_ _ | refine blk_drew ?_ | refine blk_alloc ?_ _)); refine blk_put (cs := #[.int .i64 ((rd_ITerm l0 x26_2).f0), .int .i64 ((rd_ITerm l0 x26_2).f1), .int .i64 ((rd_ITerm l0 x26_2).f2), .int .i64 0]) ?_ 3 _ rfl; (with_reducible repeat (first | refine blk_drewN ?_ _ | refine blk_drew ?_ | refine blk_alloc ?_ _)); refine blk_put (cs := #[.int .i64 ((rd_ITerm l0 x26_2).f0), .int .i64 ((rd_ITerm l0 x26_2).f1), .int .i64 0, .int .i64 0]) ?_ 2 _ rfl; (with_reducible repeat (first | refine blk_drewN ?_ _ | refine blk_drew ?_ | refine blk_alloc ?_ _)); refine blk_put (cs := #[.int .i64 ((rd_ITerm l0 x26_2).f0), .int .i64 0, .int .i64 0, .int .i64 0]) ?_ 1 _ rfl; (with_reducible repeat (first | refine blk_drewN ?_ _ | refine blk_drew ?_ | refine blk_alloc ?_ _)); refine blk_put (cs := #[.int .i64 0, .int .i64 0, .int .i64 0, .int .i64 0]) ?_ 0 _ rfl; exact kz BK257⟩, ⟨bz1 HB GE257⟩⟩
      rw [if_neg c46] at H
      have c46b0 : (t258 == 2) = false := beq_eq_false_iff_ne.mpr c46
      have c46b1 : (t258 != 2) = true := bne_iff_ne.mpr c46
      have H' := Aside0.mk H
      clear H
      have hcz49_0 : w18.cell? ⟨gb257, 0, none⟩ = some (.int .i64 0) := (blk_cell BK257.out 0).trans rfl
      have hcz49_1 : w18.cell? ⟨gb257, 1, none⟩ = some (.int .i64 0) := (blk_cell BK257.out 1).trans rfl
      have hcz49_2 : w18.cell? ⟨gb257, 2, none⟩ = some (.int .i64 0) := (blk_cell BK257.out 2).trans rfl
      have hcz49_3 : w18.cell? ⟨gb257, 3, none⟩ = some (.int .i64 0) := (blk_cell BK257.out 3).trans rfl
      have hfz49_0 := blk_frozen BK257.out 0
      have hfz49_1 := blk_frozen BK257.out 1
      have hfz49_2 := blk_frozen BK257.out 2
      have hfz49_3 := blk_frozen BK257.out 3
      go_wp2_with (first | (go_at_call 69; (with_reducible refine (impl_in.calls ((rd_ITerm l0 x26_2).f2) 0 (wrap64 (x26_2 - 1)) true _ A36.out).mono ?_); rintro e w' ⟨rfl, ⟨nd, rfl⟩⟩) | (go_at_call 69; (with_reducible refine (impl_in.calls ((rd_ITerm l0 x26_2).f3) 0 (wrap64 (x26_2 - 1)) true _ A38.out).mono ?_); rintro e w' ⟨rfl, ⟨nd, rfl⟩⟩; obtain ⟨Ao50, co50, eo50⟩ := Kd.R_slice HO_5.out; subst eo50; have p266 : 0 ≤ (((rd_ITerm l0 x26_2).f2) : Int) := dz; have q266 : ((rd_ITerm l0 x26_2).f2) < (x5_2.length : Int) := dz; obtain ⟨ad266, e266, hx266_0⟩ := Kd.at_int (Kd.R_reads' HO_5.out).2.2 ((rd_ITerm l0 x26_2).f2) p266 q266; cases e266; have hn266_0 : ad266.block ≠ gb257 := Kd.own_blk (Kd.R_ne HO_5.out BK257.out (by decide)); have hn266_1 : ad266.block ≠ gb257 := Kd.own_blk (Kd.R_ne HO_5.out BK257.out (by decide)); have hn266_2 : ad266.block ≠ gb257 := Kd.own_blk (Kd.R_ne HO_5.out BK257.out (by decide)); have hn266_3 : ad266.block ≠ gb257 := Kd.own_blk (Kd.R_ne HO_5.out BK257.out (by decide)); replace hx266_0 := (cell_far (p := ⟨gb257, 0, none⟩) (by first | (rw [add_block]; exact hn266_0) | (show (Addr.add _ _).block ≠ _; rw [add_block]; exact hn266_0) | exact hn266_0) (.int .i64 ((rd_ITerm l0 x26_2).f0))).trans hx266_0; replace hx266_0 := (cell_far (p := ⟨gb257, 1, none⟩) (by first | (rw [add_block]; exact hn266_1) | (show (Addr.add _ _).block ≠ _; rw [add_block]; exact hn266_1) | exact hn266_1) (.int .i64 ((rd_ITerm l0 x26_2).f1))).trans hx266_0; replace hx266_0 := (cell_far (p := ⟨gb257, 2, none⟩) (by first | (rw [add_block]; exact hn266_2) | (show (Addr.add _ _).block ≠ _; rw [add_block]; exact hn266_2) | exact hn266_2) (.int .i64 ((rd_ITerm l0 x26_2).f2))).trans hx266_0; replace hx266_0 := (cell_far (p := ⟨gb257, 3, none⟩) (by first | (rw [add_block]; exact hn266_3) | (show (Addr.add _ _).block ≠ _; rw [add_block]; exact hn266_3) | exact hn266_3) (.int .i64 ((rd_ITerm l0 x26_2).f3))).trans hx266_0; clear hn266_0; clear hn266_1; clear hn266_2; clear hn266_3; replace p266 := eq_true p266; replace q266 := eq_true q266; have p267 : 0 ≤ (((rd_ITerm l0 x26_2).f3) : Int) := dz; have q267 : ((rd_ITerm l0 x26_2).f3) < (x5_2.length : Int) := dz; obtain ⟨ad267, e267, hx267_0⟩ := Kd.at_int (Kd.R_reads' HO_5.out).2.2 ((rd_ITerm l0 x26_2).f3) p267 q267; obtain rfl : ad266 = ad267 := (by injection e267); have hn267_0 : ad266.block ≠ gb257 := Kd.own_blk (Kd.R_ne HO_5.out BK257.out (by decide)); have hn267_1 : ad266.block ≠ gb257 := Kd.own_blk (Kd.R_ne HO_5.out BK257.out (by decide)); have hn267_2 : ad266.block ≠ gb257 := Kd.own_blk (Kd.R_ne HO_5.out BK257.out (by decide)); have hn267_3 : ad266.block ≠ gb257 := Kd.own_blk (Kd.R_ne HO_5.out BK257.out (by decide)); replace hx267_0 := (cell_far (p := ⟨gb257, 0, none⟩) (by first | (rw [add_block]; exact hn267_0) | (show (Addr.add _ _).block ≠ _; rw [add_block]; exact hn267_0) | exact hn267_0) (.int .i64 ((rd_ITerm l0 x26_2).f0))).trans hx267_0; replace hx267_0 := (cell_far (p := ⟨gb257, 1, none⟩) (by first | (rw [add_block]; exact hn267_1) | (show (Addr.add _ _).block ≠ _; rw [add_block]; exact hn267_1) | exact hn267_1) (.int .i64 ((rd_ITerm l0 x26_2).f1))).trans hx267_0; replace hx267_0 := (cell_far (p := ⟨gb257, 2, none⟩) (by first | (rw [add_block]; exact hn267_2) | (show (Addr.add _ _).block ≠ _; rw [add_block]; exact hn267_2) | exact hn267_2) (.int .i64 ((rd_ITerm l0 x26_2).f2))).trans hx267_0; replace hx267_0 := (cell_far (p := ⟨gb257, 3, none⟩) (by first | (rw [add_block]; exact hn267_3) | (show (Addr.add _ _).block ≠ _; rw [add_block]; exact hn267_3) | exact hn267_3) (.int .i64 ((rd_ITerm l0 x26_2).f3))).trans hx267_0; clear hn267_0; clear hn267_1; clear hn267_2; clear hn267_3; replace p267 := eq_true p267; replace q267 := eq_true q267))
      go_meet
      case rel => exact ⟨_, ((((rd_ITerm l0 x26_2).f2) == ((rd_ITerm l0 x26_2).f3))), rq, H', ⟨by have := HJ2.out; have := HK2.out; first | omega | exact Nat.le_refl _⟩, ⟨by (with_reducible repeat (first | apply Kd.R_alloc | apply Kd.R_drewN | apply Kd.R_drew)); exact Kd.R_mono (Kd.R_far (p := ⟨gb257, 3, none⟩) (Kd.R_far (p := ⟨gb257, 2, none⟩) (Kd.R_far (p := ⟨gb257, 1, none⟩) (Kd.R_far (p := ⟨gb257, 0, none⟩) (Kd.R_types HO_5.out BK257.out (by decide)) (fun _ hk => hk.2) (.int .i64 ((rd_ITerm l0 x26_2).f0))) (fun _ hk => hk.2) (.int .i64 ((rd_ITerm l0 x26_2).f1))) (fun _ hk => hk.2) (.int .i64 ((rd_ITerm l0 x26_2).f2))) (fun _ hk => hk.2) (.int .i64 ((rd_ITerm l0 x26_2).f3))) (fun _ hk => trivial)⟩, ⟨by (with_reducible repeat (first | refine blk_drewN ?_ _ | refine blk_drew ?_ | refine blk_alloc ?_ _)); refine blk_put (cs := #[.int .i64 ((rd_ITerm l0 x26_2).f0), .int .i64 ((rd_ITerm l0 x26_2).f1), .int .i64 ((rd_ITerm l0 x26_2).f2), .int .i64 0]) ?_ 3 _ rfl; (with_reducible repeat (first | refine blk_drewN ?_ _ | refine blk_drew ?_ | refine blk_alloc ?_ _)); refine blk_put (cs := #[.int .i64 ((rd_ITerm l0 x26_2).f0), .int .i64 ((rd_ITerm l0 x26_2).f1), .int .i64 0, .int .i64 0]) ?_ 2 _ rfl; (with_reducible repeat (first | refine blk_drewN ?_ _ | refine blk_drew ?_ | refine blk_alloc ?_ _)); refine blk_put (cs := #[.int .i64 ((rd_ITerm l0 x26_2).f0), .int .i64 0, .int .i64 0, .int .i64 0]) ?_ 1 _ rfl; (with_reducible repeat (first | refine blk_drewN ?_ _ | refine blk_drew ?_ | refine blk_alloc ?_ _)); refine blk_put (cs := #[.int .i64 0, .int .i64 0, .int .i64 0, .int .i64 0]) ?_ 0 _ rfl; exact kz BK257⟩, ⟨bz1 HB GE257⟩⟩
     case rest =>
      clear HC17
      try clear c1
      try clear c2
      try clear p2
      try clear q2
      try clear hx2
      try clear c3
      try clear c4
      try clear c5
      try clear c6
      try clear p6
      try clear c7
      try clear c8
      try clear c8b0
      try clear c8b1
      try clear c9
      try clear c9b0
      try clear c9b1
      try clear c12
      try clear c12b0
      try clear c13
      try clear c13b0
      try clear c14
      try clear c14b0
      try clear c20
      try clear c20b0
      try clear c20b1
      try clear c22
      try clear c23
      try clear c23b0
      try clear c23b1
      try clear p25
      try clear q25
      try clear hx25
      try clear p26
      try clear q26
      try clear hx26
      try clear c27
      try clear c27b0
      try clear c27b1
      try clear c29
      try clear c30
      try clear c30b0
      try clear c30b1
      try clear c34
      try clear c35
      try clear c35b0
      try clear c35b1
      try clear c37
      try clear c39
      try clear c40
      try clear c40b0
      try clear c41
      try clear c41b0
      try clear c42
      try clear c42b0
      try clear c42b1
      try clear c43
      try clear c43b0
      try clear c44
      try clear c44b0
      try clear c45
      try clear c45b0
      try clear c45b1
      try clear c46
      try clear c46b0
      try clear c46b1
      try clear hcz19_0
      try clear hcz19_1
      try clear hcz19_2
      try clear hcz19_3
      try clear hcz24_0
      try clear hcz24_1
      try clear hcz24_2
      try clear hcz24_3
      try clear hcz25_0
      try clear hcz25_1
      try clear hcz25_2
      try clear hcz25_3
      try clear hcz26_0
      try clear hcz26_1
      try clear hcz26_2
      try clear hcz26_3
      try clear hcz31_0
      try clear hcz31_1
      try clear hcz31_2
      try clear hcz31_3
      try clear hcz32_0
      try clear hcz32_1
      try clear hcz32_2
      try clear hcz32_3
      try clear hcz33_0
      try clear hcz33_1
      try clear hcz33_2
      try clear hcz33_3
      try clear hcz47_0
      try clear hcz47_1
      try clear hcz47_2
      try clear hcz47_3
      try clear hcz49_0
      try clear hcz49_1
      try clear hcz49_2
      try clear hcz49_3
      try clear hcz51_0
      try clear hcz51_1
      try clear hcz51_2
      try clear hcz51_3
      try clear hcz53_0
      try clear hcz53_1
      try clear hcz53_2
      try clear hcz53_3
      try clear hcz55_0
      try clear hcz55_1
      try clear hcz55_2
      try clear hcz55_3
      try clear hcz56_0
      try clear hcz56_1
      try clear hcz56_2
      try clear hcz56_3
      try clear hcz57_0
      try clear hcz57_1
      try clear hcz57_2
      try clear hcz57_3
      try clear hcz58_0
      try clear hcz58_1
      try clear hcz58_2
      try clear hcz58_3
      try clear hfz19_0
      try clear hfz19_1
      try clear hfz19_2
      try clear hfz19_3
      try clear hfz24_0
      try clear hfz24_1
      try clear hfz24_2
      try clear hfz24_3
      try clear hfz25_0
      try clear hfz25_1
      try clear hfz25_2
      try clear hfz25_3
      try clear hfz26_0
      try clear hfz26_1
      try clear hfz26_2
      try clear hfz26_3
      try clear hfz31_0
      try clear hfz31_1
      try clear hfz31_2
      try clear hfz31_3
      try clear hfz32_0
      try clear hfz32_1
      try clear hfz32_2
      try clear hfz32_3
      try clear hfz33_0
      try clear hfz33_1
      try clear hfz33_2
      try clear hfz33_3
      try clear hfz47_0
      try clear hfz47_1
      try clear hfz47_2
      try clear hfz47_3
      try clear hfz49_0
      try clear hfz49_1
      try clear hfz49_2
      try clear hfz49_3
      try clear hfz51_0
      try clear hfz51_1
      try clear hfz51_2
      try clear hfz51_3
      try clear hfz53_0
      try clear hfz53_1
      try clear hfz53_2
      try clear hfz53_3
      try clear hfz55_0
      try clear hfz55_1
      try clear hfz55_2
      try clear hfz55_3
      try clear hfz56_0
      try clear hfz56_1
      try clear hfz56_2
      try clear hfz56_3
      try clear hfz57_0
      try clear hfz57_1
      try clear hfz57_2
      try clear hfz57_3
      try clear hfz58_0
      try clear hfz58_1
      try clear hfz58_2
      try clear hfz58_3
      try clear hx256_0
      try clear hx256_1
      try clear hx256_2
      try clear hx256_3
      try clear hx266_0
      try clear hx267_0
      try clear p2
      try clear p256
      try clear p266
      try clear p267
      try clear q256
      try clear q266
      try clear q267
      obtain ⟨kq, x11_16, rfl, HA, HJ16, HO_5, BK257, HB⟩ := hcut
      cases kq with
      | zero => exact absurd HA.out (by simp [impl_kindsOf.j2])
      | succ kj16 =>
       have H := HA.out
       clear HA
       simp only [impl_kindsOf.j2] at H
       by_cases c59 : x11_16 = true
       case neg =>
        replace c59 := Bool.eq_false_iff.mpr c59
        subst c59
        rw [if_neg nt_] at H
        obtain rfl := Option.some.inj H
        go_wp2
        go_ret
        exact ⟨_, rz, nz, bz1 HB GE257, by first | exact NilIf.intro (fun _ => rfl) | exact NilIf.intro (fun e_ => absurd (‹Aside0 (0 < List.length _)›).out (by rw [e_]; exact Nat.lt_irrefl 0))⟩
       subst c59
       rw [if_pos rfl] at H
       by_cases c60 : x5_2.length < 17592186044416
       case neg =>
        rw [if_neg c60] at H
        exact absurd H (by simp)
       rw [if_pos c60] at H
       have LMc60 := Aside0.mk c60
       clear c60
       obtain ⟨y268, hy268⟩ : ∃ y_ : List Int, y_ = (x5_2 ++ [t260]) := ⟨_, rfl⟩
       replace H : (impl_kindsOf.l0 kj16 a1 y268 l0 (l0.length : Int) (wrap64 (x26_2 + 1))) = some r := by first | (rw [hy268]; with_reducible exact H) | (have H2_ := (Option.bind_some _ _).symm.trans H; rw [hy268]; with_reducible exact H2_) | (have H2_ := (Option.bind_some _ _).symm.trans H; with_reducible exact H2_) | with_reducible exact H | (rw [hy268]; exact H) | exact H
       have Ny268 := Aside0.mk hy268
       clear hy268
       have H' := Aside0.mk H
       clear H
       go_wp2_with (first | ((with_reducible refine gate_builtin (b := .append) (xs := #[.tmp 127, .tmp 129]) rfl ?_); (try (refine gate_guard (by rfl) ?_; dsimp only)); at_builtin; refine Kd.R_append (Kd.int .i64) (w0 := w) w.heap.size rfl (.tmp 127) (.tmp 129) 35 3 (.int .i64 0) 8 rfl Try.underlying35 info3 rfl (by decide) (by omega) u5 x5_2 t260 [.int .i64 t260] (fun _ => True) (fun _ => False) rfl rfl ?aP (fun _ hk => hk.elim) ?aF ?aO ?aB ?aS ?aL ?_; (case aP => exact rfl); (case aB => exact (bz1 HB GE257)); (case aF => exact (fun _ _ => trivial)); (case aO => exact (ozR HO_5)); (case aS => exact (below_size (bz1 HB GE257))); (case aL => have := LMc60.out; omega); intro v269 w61 ho hb hg hat; rw [← Ny268.out] at ho; replace BK257 := Aside0.mk (blk_grown (g := gb257) (o := .cells #[.int .i64 ((rd_ITerm l0 x26_2).f0), .int .i64 ((rd_ITerm l0 x26_2).f1), .int .i64 ((rd_ITerm l0 x26_2).f2), .int .i64 ((rd_ITerm l0 x26_2).f3)] 107 (0, 0)) (kz BK257) hg (Kd.R_ne HO_5.out BK257.out (by decide))); replace HB := Aside0.mk (hb); have HO270 := Aside0.mk (ho); clear HO_5; clear ho hb hg hat))
       go_roundg kj16
       case measure => have := HJ2.out; have := HK2.out; have := HJ16.out; omega
       case rel => exact ⟨(y268), (wrap64 (x26_2 + 1)), rq, H', ⟨by have := HJ2.out; have := HK2.out; have := HJ16.out; omega⟩, ⟨ozR HO270⟩, ⟨bz1 HB GE257⟩⟩
end Go.Proofs.Ytoofhjflfpccdaa.PA
end
section
namespace Go.Proofs.Ytoofhjflfpccdaa.PA
open Go.RowKit Go.Proofs.YtoofhjflfpccdaaW.PrintWords Go.Proofs.YtoofhjflfpccdaaW.PrintLast Go.Proofs.YtoofhjflfpccdaaW.PrintMore
attribute [local go_sem] max2_int min2_int max_two min_two max_three min_three max_four min_four   -- for this text's walks alone
set_option linter.unusedVariables false
set_option linter.unusedSimpArgs false
set_option maxHeartbeats 4000000 in
set_option maxRecDepth 100000 in
theorem impl_kindOf.calls (k : Nat) (A0 : Option Addr) (c0 : Nat) (l0 : List (ITerm)) (a1 : Int) (r : Int) (w : World) (hr0 : Kd.C k107 w A0 l0.length l0) (hc0 : l0.length ≤ c0) (h : impl_kindOf.f k l0 a1 = some r) :
  Calls Try.prog 121 #[.slice A0 l0.length c0, .int .i64 a1] w fun e w' => e = .returned (.int .i64 r) ∧ Below w.heap.size w w' := by
 obtain ⟨t, A50, H⟩ := Option.bind_eq_some_iff.mp h
 clear h
 have A5 := Aside0.mk A50
 have HR0 := Aside0.mk hr0
 have HC0 := Aside0.mk hc0
 clear A50 hr0 hc0
 have he := fun (W : World) => Lib.run_eql_slice_nil (P := Try.prog) W 35 3 none 0 0 0 0 Try.underlying35
 have he2 := fun (W : World) (ad : Addr) (c : Nat) => Lib.run_eql_slice_nil (P := Try.prog) W 35 3 (some ad) t.length c 0 0 Try.underlying35
 have hn := fun (W : World) => run_neq_slice_nil_any (P := Try.prog) W 35 3 none 0 0 0 0 Try.underlying35
 have hn2 := fun (W : World) (ad : Addr) (c : Nat) => run_neq_slice_nil_any (P := Try.prog) W 35 3 (some ad) t.length c 0 0 Try.underlying35
 by_cases c6 : t = []
 case pos =>
  subst c6
  have H2 := Aside0.mk H
  clear H
  go_enter Try.func121, Try.ntmps121
  go_wp2_with (first | ((with_reducible refine gate_callee (f := 128) rfl ?_); refine goesL_ (some 8) rfl rfl Try.func128 (by kernel_rfl) rfl #[.slice A0 l0.length c0, .int .i64 a1] rfl (by (try simp only [List.map_toArray, List.map_cons, List.map_nil]); first | done | rfl) ?_; (with_reducible refine (impl_kindsOf.calls k _ _ l0 a1 [] _ HR0.out HC0.out A5.out).mono ?_); rintro e w1 ⟨v, rfl, ho, hb, hnil⟩; refine ⟨_, rfl, ?_⟩; obtain rfl := hnil.out rfl; have HB := Aside0.mk hb; clear hb ho hnil))
  go_ret
  have H3 := H2.out
  exact ⟨by simpa using H3, HB.out⟩
 have HN := Aside0.mk c6
 rw [if_neg c6] at H
 obtain ⟨ji6, hji6⟩ : ∃ j_ : Int, (wrap64 ((t.length : Int) - 1)) = j_ := ⟨_, rfl⟩
 rw [hji6] at H
 have hji6w : (IntKind.i64.wrap ((t.length : Int) - 1)) = ji6 := (i64_w _).trans hji6
 by_cases c7 : 0 ≤ ji6
 case neg => rw [if_neg c7] at H; exact absurd H (by simp)
 rw [if_pos c7] at H
 by_cases c8 : ji6 < (t.length : Int)
 case neg => rw [if_neg c8] at H; exact absurd H (by simp)
 rw [if_pos c8] at H
 obtain rfl := Option.some.inj H
 clear H
 have c7b0 : decide (0 ≤ ji6) = true := decide_eq_true c7
 have c8b0 : decide (ji6 < (t.length : Int)) = true := decide_eq_true c8
 have C7 := Aside0.mk c7
 have C8 := Aside0.mk c8
 clear c7 c8
 clear c6
 go_enter Try.func121, Try.ntmps121
 go_wp2_with (first | ((with_reducible refine gate_callee (f := 128) rfl ?_); refine goesL_ (some 8) rfl rfl Try.func128 (by kernel_rfl) rfl #[.slice A0 l0.length c0, .int .i64 a1] rfl (by (try simp only [List.map_toArray, List.map_cons, List.map_nil]); first | done | rfl) ?_; (with_reducible refine (impl_kindsOf.calls k _ _ l0 a1 t _ HR0.out HC0.out A5.out).mono ?_); rintro e w1 ⟨v, rfl, ho, hb, hnil⟩; refine ⟨_, rfl, ?_⟩; obtain ⟨ad, c, rfl⟩ := Kd.R_some ho HN.out; obtain ⟨ad9, e9, hx9⟩ := Kd.at_int (Kd.R_reads' ho).2.2 ji6 C7.out C8.out; cases e9; have p9 := eq_true C7.out; have q9 := eq_true C8.out; have HB := Aside0.mk hb; clear hb ho hnil))
 go_ret
 exact ⟨rfl, HB.out⟩
end Go.Proofs.Ytoofhjflfpccdaa.PA
end
section
namespace Go.Proofs.Ytoofhjflfpccdaa.PA
open Go.RowKit Go.Proofs.YtoofhjflfpccdaaW.PrintWords Go.Proofs.YtoofhjflfpccdaaW.PrintLast Go.Proofs.YtoofhjflfpccdaaW.PrintMore
attribute [local go_sem] max2_int min2_int max_two min_two max_three min_three max_four min_four   -- for this text's walks alone
set_option linter.unusedVariables false
set_option linter.unusedSimpArgs false
set_option maxHeartbeats 8000000 in
set_option maxRecDepth 100000 in
theorem impl_ruleOk.calls (k : Nat) (A0_0 : Option Addr) (c0_0 : Nat) (l0_0 : List (ITerm)) (A0_1 : Option Addr) (c0_1 : Nat) (l0_1 : List Int) (A0_2 : Option Addr) (c0_2 : Nat) (l0_2 : List (List (ITerm))) (a1 : Int) (r : Bool) (w : World) (hr0_0 : Kd.C k107 w A0_0 l0_0.length l0_0) (hc0_0 : l0_0.length ≤ c0_0) (hr0_1 : Kd.C (Kd.int .i64) w A0_1 l0_1.length l0_1) (hc0_1 : l0_1.length ≤ c0_1) (hr0_2 : Kd.C (Kd.slice 107 k107) w A0_2 l0_2.length l0_2) (hc0_2 : l0_2.length ≤ c0_2) (h : impl_ruleOk.f k l0_0 l0_1 l0_2 a1 = some r) :
  Calls Try.prog 100 #[.agg #[.slice A0_0 l0_0.length c0_0, .slice A0_1 l0_1.length c0_1, .slice A0_2 l0_2.length c0_2], .int .i64 a1] w fun e w' => e = .returned (.bool r) ∧ Below w.heap.size w w' := by
 have hu81 := Try.underlying81
 have HR0_0 := Aside0.mk hr0_0
 have HC0_0 := Aside0.mk hc0_0
 clear hr0_0 hc0_0
 have HR0_1 := Aside0.mk hr0_1
 have HC0_1 := Aside0.mk hc0_1
 clear hr0_1 hc0_1
 have HR0_2 := Aside0.mk hr0_2
 have HC0_2 := Aside0.mk hc0_2
 clear hr0_2 hc0_2
 have HB := Aside0.mk (Below.refl w.heap.size w)
 have H : ((impl_kindOf.f k l0_0 a1).bind fun t272 => (if t272 = 2 then (impl_ruleOk.j0 k a1 ((l0_1.length : Int) != (l0_2.length : Int)) l0_0 l0_1 l0_2) else (impl_ruleOk.j0 k a1 true l0_0 l0_1 l0_2))) = some r := h
 clear h
 have HC3 := Aside0.mk H
 clear H
 go_enter Try.func100, Try.ntmps100
 go_upto_region 1 with (first | ((with_reducible refine gate_dst (N := 2) rfl ?_); (try (refine gate_guard (by rfl) ?_; dsimp only)); refine box_event ?hg (N := 2) ?hd (cs := #[.slice A0_0 l0_0.length c0_0, .slice A0_1 l0_1.length c0_1, .slice A0_2 l0_2.length c0_2]) (t := 81) ?hr ?_; (case hd => rfl); (case hg => rfl); (case hr => first | (go_simp; done) | (go_simp; rfl)); intro gb271 hg w4 hbox hb; have n0_ := Aside0.mk (below_step (bz HB) hb); have n1_ := Aside0.mk (hbox); have n2_ := Aside0.mk ((by rw [hg]; exact (below_size (bz HB)) : w.heap.size ≤ gb271)); have n3_ := Aside0.mk ((by rw [hg]; exact (below_size (bz HB)) : w.heap.size ≤ gb271)); clear HB; have HB := n0_; have BK271 := n1_; have GW271 := n2_; have GE271 := n3_; clear n0_ n1_ n2_ n3_; clear hb hbox hg))
 (try simp only [Act.put, sb_, sc0_, sc1_])
 go_cut [20] (fun v20 wc => ∃ (kq : Nat) (x20_2 : Bool), v20 = .bool x20_2 ∧ Aside0 (impl_ruleOk.j0 kq a1 x20_2 l0_0 l0_1 l0_2 = some r) ∧ Aside0 (kq ≤ k) ∧ Aside0 (wc.heap[gb271]? = some (.cells #[(.slice A0_0 l0_0.length c0_0), (.slice A0_1 l0_1.length c0_1), (.slice A0_2 l0_2.length c0_2)] 81 (0, 0))) ∧ Aside0 (Below w.heap.size w wc))
 case first =>
  have H := HC3.out
  clear HC3
  replace H := Option.bind_eq_some_iff.mp H
  obtain ⟨t272, A50, H⟩ := H
  have A5 := Aside0.mk A50
  clear A50
  by_cases c6 : t272 = 2
  case neg =>
   rw [if_neg c6] at H
   have c6b0 : (t272 == 2) = false := beq_eq_false_iff_ne.mpr c6
   have c6b1 : (t272 != 2) = true := bne_iff_ne.mpr c6
   (first | rw [c6b0] | (simp only [i64_w, i32_w]; rw [c6b0]) | skip)
   have H' := Aside0.mk H
   clear H
   have hcz10_0 : w4.cell? ⟨gb271, 0, none⟩ = some (.slice A0_0 l0_0.length c0_0) := (blk_cell BK271.out 0).trans rfl
   have hcz10_1 : w4.cell? ⟨gb271, 1, none⟩ = some (.slice A0_1 l0_1.length c0_1) := (blk_cell BK271.out 1).trans rfl
   have hcz10_2 : w4.cell? ⟨gb271, 2, none⟩ = some (.slice A0_2 l0_2.length c0_2) := (blk_cell BK271.out 2).trans rfl
   have hfz10_0 := blk_frozen BK271.out 0
   have hfz10_1 := blk_frozen BK271.out 1
   have hfz10_2 := blk_frozen BK271.out 2
   go_wp2_with (first | ((with_reducible refine gate_callee (f := 121) rfl ?_); refine goesL_ (some 10) rfl rfl Try.func121 (by kernel_rfl) rfl #[.slice A0_0 l0_0.length c0_0, .int .i64 a1] rfl az ?_; (with_reducible refine (impl_kindOf.calls k _ _ l0_0 a1 t272 _ ?side1 HC0_0.out A5.out).mono ?_); (case side1 => exact cz HR0_0 HB); rintro e w11 ⟨rfl, hb⟩; refine ⟨_, rfl, ?_⟩; replace BK271 := Aside0.mk (blk_below (g := gb271) (o := .cells #[.slice A0_0 l0_0.length c0_0, .slice A0_1 l0_1.length c0_1, .slice A0_2 l0_2.length c0_2] 81 (0, 0)) (kz BK271) hb); replace HB := Aside0.mk (below_step (bz1 HB GE271) hb); clear hb))
   go_meet
   case rel => exact ⟨_, (true), rq, H', ⟨by first | omega | exact Nat.le_refl _⟩, ⟨kz BK271⟩, ⟨bz1 HB GE271⟩⟩
  rw [if_pos c6] at H
  have c6b0 : (t272 == 2) = true := beq_iff_eq.mpr c6
  have c6b1 : (t272 != 2) = false := bne_eq_false_iff_eq.mpr c6
  clear c6
  (first | rw [c6b0] | (simp only [i64_w, i32_w]; rw [c6b0]) | skip)
  have H' := Aside0.mk H
  clear H
  have hcz7_0 : w4.cell? ⟨gb271, 0, none⟩ = some (.slice A0_0 l0_0.length c0_0) := (blk_cell BK271.out 0).trans rfl
  have hcz7_1 : w4.cell? ⟨gb271, 1, none⟩ = some (.slice A0_1 l0_1.length c0_1) := (blk_cell BK271.out 1).trans rfl
  have hcz7_2 : w4.cell? ⟨gb271, 2, none⟩ = some (.slice A0_2 l0_2.length c0_2) := (blk_cell BK271.out 2).trans rfl
  have hfz7_0 := blk_frozen BK271.out 0
  have hfz7_1 := blk_frozen BK271.out 1
  have hfz7_2 := blk_frozen BK271.out 2
  go_wp2_with (first | ((with_reducible refine gate_callee (f := 121) rfl ?_); refine goesL_ (some 10) rfl rfl Try.func121 (by kernel_rfl) rfl #[.slice A0_0 l0_0.length c0_0, .int .i64 a1] rfl az ?_; (with_reducible refine (impl_kindOf.calls k _ _ l0_0 a1 t272 _ ?side1 HC0_0.out A5.out).mono ?_); (case side1 => exact cz HR0_0 HB); rintro e w8 ⟨rfl, hb⟩; refine ⟨_, rfl, ?_⟩; replace BK271 := Aside0.mk (blk_below (g := gb271) (o := .cells #[.slice A0_0 l0_0.length c0_0, .slice A0_1 l0_1.length c0_1, .slice A0_2 l0_2.length c0_2] 81 (0, 0)) (kz BK271) hb); replace HB := Aside0.mk (below_step (bz1 HB GE271) hb); clear hb; have hcz9_0 : w8.cell? ⟨gb271, 0, none⟩ = some (.slice A0_0 l0_0.length c0_0) := (blk_cell BK271.out 0).trans rfl; have hcz9_1 : w8.cell? ⟨gb271, 1, none⟩ = some (.slice A0_1 l0_1.length c0_1) := (blk_cell BK271.out 1).trans rfl; have hcz9_2 : w8.cell? ⟨gb271, 2, none⟩ = some (.slice A0_2 l0_2.length c0_2) := (blk_cell BK271.out 2).trans rfl; have hfz9_0 := blk_frozen BK271.out 0; have hfz9_1 := blk_frozen BK271.out 1; have hfz9_2 := blk_frozen BK271.out 2))
  go_meet
  case rel => exact ⟨_, (((l0_1.length : Int) != (l0_2.length : Int))), rq, H', ⟨by first | omega | exact Nat.le_refl _⟩, ⟨kz BK271⟩, ⟨bz1 HB GE271⟩⟩
 case rest =>
  clear HC3
  try clear c1
  try clear p2
  try clear c6
  try clear c6b0
  try clear c6b1
  try clear c10
  try clear hcz10_0
  try clear hcz10_1
  try clear hcz10_2
  try clear hcz7_0
  try clear hcz7_1
  try clear hcz7_2
  try clear hcz9_0
  try clear hcz9_1
  try clear hcz9_2
  try clear hfz10_0
  try clear hfz10_1
  try clear hfz10_2
  try clear hfz7_0
  try clear hfz7_1
  try clear hfz7_2
  try clear hfz9_0
  try clear hfz9_1
  try clear hfz9_2
  obtain ⟨kq, x20_2, rfl, HA, HJ2, BK271, HB⟩ := hcut
  cases kq with
  | zero => exact absurd HA.out (by simp [impl_ruleOk.j0])
  | succ kj2 =>
   have H := HA.out
   clear HA
   simp only [impl_ruleOk.j0] at H
   by_cases c12 : x20_2 = true
   case pos =>
    subst c12
    rw [if_pos rfl] at H
    obtain rfl := Option.some.inj H
    go_wp2
    go_ret
    exact ⟨rz, bz1 HB GE271⟩
   replace c12 := Bool.eq_false_iff.mpr c12
   subst c12
   rw [if_neg nt_] at H
   have H' := Aside0.mk H
   clear H
   have hcz13_0 : wc.cell? ⟨gb271, 0, none⟩ = some (.slice A0_0 l0_0.length c0_0) := (blk_cell BK271.out 0).trans rfl
   have hcz13_1 : wc.cell? ⟨gb271, 1, none⟩ = some (.slice A0_1 l0_1.length c0_1) := (blk_cell BK271.out 1).trans rfl
   have hcz13_2 : wc.cell? ⟨gb271, 2, none⟩ = some (.slice A0_2 l0_2.length c0_2) := (blk_cell BK271.out 2).trans rfl
   have hfz13_0 := blk_frozen BK271.out 0
   have hfz13_1 := blk_frozen BK271.out 1
   have hfz13_2 := blk_frozen BK271.out 2
   go_wp2
   go_loopg [24] kj2 (fun kq v24 w' => ∃ (x24_2 : Int), v24 = .int .i64 x24_2 ∧ Aside0 (impl_ruleOk.l0 kq a1 l0_1 (l0_1.length : Int) x24_2 l0_0 l0_1 l0_2 = some r) ∧ Aside0 (kq ≤ kj2) ∧ Aside0 (w'.heap[gb271]? = some (.cells #[(.slice A0_0 l0_0.length c0_0), (.slice A0_1 l0_1.length c0_1), (.slice A0_2 l0_2.length c0_2)] 81 (0, 0))) ∧ Aside0 (Below w.heap.size w w'))
   case atStart => exact ⟨(0), rq, H', ⟨Nat.le_refl _⟩, ⟨kz BK271⟩, ⟨bz1 HB GE271⟩⟩
   case round =>
    clear H'
    try clear c1
    try clear p2
    try clear c6
    try clear c6b0
    try clear c6b1
    try clear c10
    try clear c12
    try clear hcz10_0
    try clear hcz10_1
    try clear hcz10_2
    try clear hcz13_0
    try clear hcz13_1
    try clear hcz13_2
    try clear hcz7_0
    try clear hcz7_1
    try clear hcz7_2
    try clear hcz9_0
    try clear hcz9_1
    try clear hcz9_2
    try clear hfz10_0
    try clear hfz10_1
    try clear hfz10_2
    try clear hfz13_0
    try clear hfz13_1
    try clear hfz13_2
    try clear hfz7_0
    try clear hfz7_1
    try clear hfz7_2
    try clear hfz9_0
    try clear hfz9_1
    try clear hfz9_2
    try clear p2
    obtain ⟨x24_2, rfl, HA, HK2, BK271, HB⟩ := hrel
    cases gk with
    | zero => exact absurd HA.out (by simp [impl_ruleOk.l0])
    | succ k2 =>
     have H := HA.out
     clear HA
     simp only [impl_ruleOk.l0] at H
     by_cases c14 : x24_2 < (l0_1.length : Int)
     case neg =>
      rw [if_neg c14] at H
      have c14b0 : decide (x24_2 < (l0_1.length : Int)) = false := decide_eq_false c14
      clear c14
      obtain rfl := Option.some.inj H
      go_wp2
      go_ret
      exact ⟨rz, bz1 HB GE271⟩
     rw [if_pos c14] at H
     have c14b0 : decide (x24_2 < (l0_1.length : Int)) = true := decide_eq_true c14
     clear c14
     by_cases c15 : 0 ≤ x24_2
     case neg =>
      rw [if_neg c15] at H
      exact absurd H (by simp)
     rw [if_pos c15] at H
     have c15b0 : decide (0 ≤ x24_2) = true := decide_eq_true c15
     clear c15
     by_cases c16 : x24_2 < (l0_1.length : Int)
     case neg =>
      rw [if_neg c16] at H
      exact absurd H (by simp)
     rw [if_pos c16] at H
     have c16b0 : decide (x24_2 < (l0_1.length : Int)) = true := decide_eq_true c16
     clear c16
     have HC17 := Aside0.mk H
     clear H
     have p273 : 0 ≤ (x24_2 : Int) := dz
     have q273 : x24_2 < (l0_1.length : Int) := dz
     obtain ⟨ad273, e273, hx273_0⟩ := Kd.at_int HR0_1.out x24_2 p273 q273
     cases e273
     replace hx273_0 := xz HB hx273_0
     replace p273 := eq_true p273
     replace q273 := eq_true q273
     go_upto_region 6 with (fail)
     go_cut [57] (fun v57 wc => ∃ (kq : Nat) (x57_16 : Bool), v57 = .bool x57_16 ∧ Aside0 (impl_ruleOk.j2 kq a1 l0_1 (l0_1.length : Int) x24_2 x57_16 l0_0 l0_1 l0_2 = some r) ∧ Aside0 (kq ≤ k2) ∧ Aside0 (wc.heap[gb271]? = some (.cells #[(.slice A0_0 l0_0.length c0_0), (.slice (some ad273) l0_1.length c0_1), (.slice A0_2 l0_2.length c0_2)] 81 (0, 0))) ∧ Aside0 (Below w.heap.size w wc))
     case first =>
      have H := HC17.out
      clear HC17
      replace H := Option.bind_eq_some_iff.mp H
      obtain ⟨t274, A180, H⟩ := H
      have A18 := Aside0.mk A180
      clear A180
      by_cases c19 : t274 = true
      case neg =>
       replace c19 := Bool.eq_false_iff.mpr c19
       subst c19
       rw [if_neg nt_] at H
       have H' := Aside0.mk H
       clear H
       go_wp2_with (first | ((with_reducible refine gate_callee (f := 69) rfl ?_); refine goesL_ (some 32) rfl rfl Try.func69 (by kernel_rfl) rfl #[.int .i64 (rd l0_1 x24_2), .int .i64 0, .int .i64 (wrap64 (a1 - 1))] rfl az ?_; (with_reducible refine (impl_in.calls (rd l0_1 x24_2) 0 (wrap64 (a1 - 1)) false _ A18.out).mono ?_); rintro e w' ⟨rfl, ⟨nd, rfl⟩⟩; refine ⟨_, rfl, ?_⟩))
       go_meet
       case rel => exact ⟨_, (true), rq, H', ⟨by have := HJ2.out; have := HK2.out; first | omega | exact Nat.le_refl _⟩, ⟨kz BK271⟩, ⟨bz1 HB GE271⟩⟩
      subst c19
      rw [if_pos rfl] at H
      by_cases c20 : x24_2 > 0
      case neg =>
       rw [if_neg c20] at H
       have c20b0 : decide (0 < x24_2) = false := decide_eq_false c20
       clear c20
       (first | rw [c20b0] | (simp only [i64_w, i32_w]; rw [c20b0]) | skip)
       by_cases c30 : x24_2 < (l0_2.length : Int)
       case neg =>
        rw [if_neg c30] at H
        exact absurd H (by simp)
       rw [if_pos c30] at H
       have c30b0 : decide (x24_2 < (l0_2.length : Int)) = true := decide_eq_true c30
       clear c30
       replace H := Option.bind_eq_some_iff.mp H
       obtain ⟨t279, A310, H⟩ := H
       have A31 := Aside0.mk A310
       clear A310
       have H' := Aside0.mk H
       clear H
       go_wp2_with (first | ((with_reducible refine gate_callee (f := 69) rfl ?_); refine goesL_ (some 32) rfl rfl Try.func69 (by kernel_rfl) rfl #[.int .i64 (rd l0_1 x24_2), .int .i64 0, .int .i64 (wrap64 (a1 - 1))] rfl az ?_; (with_reducible refine (impl_in.calls (rd l0_1 x24_2) 0 (wrap64 (a1 - 1)) true _ A18.out).mono ?_); rintro e w' ⟨rfl, ⟨nd, rfl⟩⟩; refine ⟨_, rfl, ?_⟩; have hcz32_0 : wr.cell? ⟨gb271, 0, none⟩ = some (.slice A0_0 l0_0.length c0_0) := (blk_cell BK271.out 0).trans rfl; have hcz32_1 : wr.cell? ⟨gb271, 1, none⟩ = some (.slice (some ad273) l0_1.length c0_1) := (blk_cell BK271.out 1).trans rfl; have hcz32_2 : wr.cell? ⟨gb271, 2, none⟩ = some (.slice A0_2 l0_2.length c0_2) := (blk_cell BK271.out 2).trans rfl; have hfz32_0 := blk_frozen BK271.out 0; have hfz32_1 := blk_frozen BK271.out 1; have hfz32_2 := blk_frozen BK271.out 2; have p278 : 0 ≤ (x24_2 : Int) := dz; have q278 : x24_2 < (l0_2.length : Int) := dz; obtain ⟨ad278, A278_0, c278_0, e278, hx278_0, hl278_0, hi278_0⟩ := at_LITerm HR0_2.out x24_2 p278 q278; cases e278; replace hx278_0 := xz HB hx278_0; have HR278_0 := Aside0.mk hi278_0; have HC278_0 := Aside0.mk hl278_0; clear hi278_0 hl278_0; replace p278 := eq_true p278; replace q278 := eq_true q278) | (go_at_call 121; (with_reducible refine (impl_kindOf.calls k2 _ _ (rd_LITerm l0_2 x24_2) a1 t279 _ ?side1 HC278_0.out A31.out).mono ?_); (case side1 => repeat (first | exact (Kd.C_below HR278_0.out (bz1 HB GE271)) | (with_reducible refine Kd.C_alloc ?_ _) | (with_reducible refine Kd.C_drewN ?_ _) | (with_reducible refine Kd.C_drew ?_))); rintro e w33 ⟨rfl, hb⟩; replace BK271 := Aside0.mk (blk_below (g := gb271) (o := .cells #[.slice A0_0 l0_0.length c0_0, .slice (some ad273) l0_1.length c0_1, .slice (some ad278) l0_2.length c0_2] 81 (0, 0)) (kz BK271) hb); replace HB := Aside0.mk (below_step (bz1 HB GE271) hb); clear hb))
       go_meet
       case rel => exact ⟨_, ((t279 != 1)), rq, H', ⟨by have := HJ2.out; have := HK2.out; first | omega | exact Nat.le_refl _⟩, ⟨kz BK271⟩, ⟨bz1 HB GE271⟩⟩
      rw [if_pos c20] at H
      have c20b0 : decide (0 < x24_2) = true := decide_eq_true c20
      clear c20
      (first | rw [c20b0] | (simp only [i64_w, i32_w]; rw [c20b0]) | skip)
      obtain ⟨ji21, hji21⟩ : ∃ j_ : Int, (wrap64 (x24_2 - 1)) = j_ := ⟨_, rfl⟩
      replace H : (if 0 ≤ (ji21) then (if (ji21) < (l0_1.length : Int) then (if (rd l0_1 (ji21)) ≥ (rd l0_1 x24_2) then (impl_ruleOk.j2 k2 a1 l0_1 (l0_1.length : Int) x24_2 true l0_0 l0_1 l0_2) else (if x24_2 < (l0_2.length : Int) then ((impl_kindOf.f k2 (rd_LITerm l0_2 x24_2) a1).bind fun t277 => (impl_ruleOk.j2 k2 a1 l0_1 (l0_1.length : Int) x24_2 (t277 != 1) l0_0 l0_1 l0_2)) else (none))) else (none)) else (none)) = some r := by first | (rw [hji21] at H; exact H) | (simp only [hji21] at H ⊢; exact H)
      (try rw [hji21] at A18)
      have hji21w : (IntKind.i64.wrap (x24_2 - 1)) = ji21 := (i64_w _).trans hji21
      by_cases c22 : 0 ≤ (ji21)
      case neg =>
       rw [if_neg c22] at H
       exact absurd H (by simp)
      rw [if_pos c22] at H
      have c22b0 : decide (0 ≤ (ji21)) = true := decide_eq_true c22
      clear c22
      by_cases c23 : (ji21) < (l0_1.length : Int)
      case neg =>
       rw [if_neg c23] at H
       exact absurd H (by simp)
      rw [if_pos c23] at H
      have c23b0 : decide ((ji21) < (l0_1.length : Int)) = true := decide_eq_true c23
      clear c23
      by_cases c24 : (rd l0_1 (ji21)) ≥ (rd l0_1 x24_2)
      case pos =>
       rw [if_pos c24] at H
       have c24b0 : decide ((rd l0_1 x24_2) ≤ (rd l0_1 (ji21))) = true := decide_eq_true c24
       clear c24
       have H' := Aside0.mk H
       clear H
       go_wp2_with (first | ((with_reducible refine gate_callee (f := 69) rfl ?_); refine goesL_ (some 32) rfl rfl Try.func69 (by kernel_rfl) rfl #[.int .i64 (rd l0_1 x24_2), .int .i64 0, .int .i64 (wrap64 (a1 - 1))] rfl az ?_; (with_reducible refine (impl_in.calls (rd l0_1 x24_2) 0 (wrap64 (a1 - 1)) true _ A18.out).mono ?_); rintro e w' ⟨rfl, ⟨nd, rfl⟩⟩; refine ⟨_, rfl, ?_⟩; have hcz25_0 : wr.cell? ⟨gb271, 0, none⟩ = some (.slice A0_0 l0_0.length c0_0) := (blk_cell BK271.out 0).trans rfl; have hcz25_1 : wr.cell? ⟨gb271, 1, none⟩ = some (.slice (some ad273) l0_1.length c0_1) := (blk_cell BK271.out 1).trans rfl; have hcz25_2 : wr.cell? ⟨gb271, 2, none⟩ = some (.slice A0_2 l0_2.length c0_2) := (blk_cell BK271.out 2).trans rfl; have hfz25_0 := blk_frozen BK271.out 0; have hfz25_1 := blk_frozen BK271.out 1; have hfz25_2 := blk_frozen BK271.out 2; have p275 : 0 ≤ ((ji21) : Int) := dz; have q275 : (ji21) < (l0_1.length : Int) := dz; obtain ⟨ad275, e275, hx275_0⟩ := Kd.at_int HR0_1.out (ji21) p275 q275; obtain rfl : ad273 = ad275 := (by injection e275); replace hx275_0 := xz HB hx275_0; replace p275 := eq_true p275; replace q275 := eq_true q275))
       go_meet
       case rel => exact ⟨_, (true), rq, H', ⟨by have := HJ2.out; have := HK2.out; first | omega | exact Nat.le_refl _⟩, ⟨kz BK271⟩, ⟨bz1 HB GE271⟩⟩
      rw [if_neg c24] at H
      have c24b0 : decide ((rd l0_1 x24_2) ≤ (rd l0_1 (ji21))) = false := decide_eq_false c24
      clear c24
      by_cases c26 : x24_2 < (l0_2.length : Int)
      case neg =>
       rw [if_neg c26] at H
       exact absurd H (by simp)
      rw [if_pos c26] at H
      have c26b0 : decide (x24_2 < (l0_2.length : Int)) = true := decide_eq_true c26
      clear c26
      replace H := Option.bind_eq_some_iff.mp H
      obtain ⟨t277, A270, H⟩ := H
      have A27 := Aside0.mk A270
      clear A270
      have H' := Aside0.mk H
      clear H
      go_wp2_with (first | ((with_reducible refine gate_callee (f := 69) rfl ?_); refine goesL_ (some 32) rfl rfl Try.func69 (by kernel_rfl) rfl #[.int .i64 (rd l0_1 x24_2), .int .i64 0, .int .i64 (wrap64 (a1 - 1))] rfl az ?_; (with_reducible refine (impl_in.calls (rd l0_1 x24_2) 0 (wrap64 (a1 - 1)) true _ A18.out).mono ?_); rintro e w' ⟨rfl, ⟨nd, rfl⟩⟩; refine ⟨_, rfl, ?_⟩; have hcz28_0 : wr.cell? ⟨gb271, 0, none⟩ = some (.slice A0_0 l0_0.length c0_0) := (blk_cell BK271.out 0).trans rfl; have hcz28_1 : wr.cell? ⟨gb271, 1, none⟩ = some (.slice (some ad273) l0_1.length c0_1) := (blk_cell BK271.out 1).trans rfl; have hcz28_2 : wr.cell? ⟨gb271, 2, none⟩ = some (.slice A0_2 l0_2.length c0_2) := (blk_cell BK271.out 2).trans rfl; have hfz28_0 := blk_frozen BK271.out 0; have hfz28_1 := blk_frozen BK271.out 1; have hfz28_2 := blk_frozen BK271.out 2; have p275 : 0 ≤ ((ji21) : Int) := dz; have q275 : (ji21) < (l0_1.length : Int) := dz; obtain ⟨ad275, e275, hx275_0⟩ := Kd.at_int HR0_1.out (ji21) p275 q275; obtain rfl : ad273 = ad275 := (by injection e275); replace hx275_0 := xz HB hx275_0; replace p275 := eq_true p275; replace q275 := eq_true q275; have p276 : 0 ≤ (x24_2 : Int) := dz; have q276 : x24_2 < (l0_2.length : Int) := dz; obtain ⟨ad276, A276_0, c276_0, e276, hx276_0, hl276_0, hi276_0⟩ := at_LITerm HR0_2.out x24_2 p276 q276; cases e276; replace hx276_0 := xz HB hx276_0; have HR276_0 := Aside0.mk hi276_0; have HC276_0 := Aside0.mk hl276_0; clear hi276_0 hl276_0; replace p276 := eq_true p276; replace q276 := eq_true q276) | (go_at_call 121; (with_reducible refine (impl_kindOf.calls k2 _ _ (rd_LITerm l0_2 x24_2) a1 t277 _ ?side1 HC276_0.out A27.out).mono ?_); (case side1 => repeat (first | exact (Kd.C_below HR276_0.out (bz1 HB GE271)) | (with_reducible refine Kd.C_alloc ?_ _) | (with_reducible refine Kd.C_drewN ?_ _) | (with_reducible refine Kd.C_drew ?_))); rintro e w29 ⟨rfl, hb⟩; replace BK271 := Aside0.mk (blk_below (g := gb271) (o := .cells #[.slice A0_0 l0_0.length c0_0, .slice (some ad273) l0_1.length c0_1, .slice (some ad276) l0_2.length c0_2] 81 (0, 0)) (kz BK271) hb); replace HB := Aside0.mk (below_step (bz1 HB GE271) hb); clear hb))
      go_meet
      case rel => exact ⟨_, ((t277 != 1)), rq, H', ⟨by have := HJ2.out; have := HK2.out; first | omega | exact Nat.le_refl _⟩, ⟨kz BK271⟩, ⟨bz1 HB GE271⟩⟩
     case rest =>
      clear HC17
      try clear c1
      try clear c2
      try clear p2
      try clear q2
      try clear hx2
      try clear c3
      try clear c6
      try clear c6b0
      try clear c6b1
      try clear p6
      try clear c10
      try clear c12
      try clear c14
      try clear c14b0
      try clear c15
      try clear c15b0
      try clear c16
      try clear c16b0
      try clear c19
      try clear c20
      try clear c20b0
      try clear c22
      try clear c22b0
      try clear c23
      try clear c23b0
      try clear c24
      try clear c24b0
      try clear c26
      try clear c26b0
      try clear c27
      try clear p27
      try clear q27
      try clear hx27
      try clear c30
      try clear c30b0
      try clear hcz10_0
      try clear hcz10_1
      try clear hcz10_2
      try clear hcz13_0
      try clear hcz13_1
      try clear hcz13_2
      try clear hcz25_0
      try clear hcz25_1
      try clear hcz25_2
      try clear hcz28_0
      try clear hcz28_1
      try clear hcz28_2
      try clear hcz32_0
      try clear hcz32_1
      try clear hcz32_2
      try clear hcz7_0
      try clear hcz7_1
      try clear hcz7_2
      try clear hcz9_0
      try clear hcz9_1
      try clear hcz9_2
      try clear hfz10_0
      try clear hfz10_1
      try clear hfz10_2
      try clear hfz13_0
      try clear hfz13_1
      try clear hfz13_2
      try clear hfz25_0
      try clear hfz25_1
      try clear hfz25_2
      try clear hfz28_0
      try clear hfz28_1
      try clear hfz28_2
      try clear hfz32_0
      try clear hfz32_1
      try clear hfz32_2
      try clear hfz7_0
      try clear hfz7_1
      try clear hfz7_2
      try clear hfz9_0
      try clear hfz9_1
      try clear hfz9_2
      try clear hx273_0
      try clear hx275_0
      try clear hx276_0
      try clear hx278_0
      try clear p2
      try clear p273
      try clear p275
      try clear p276
      try clear p278
      try clear q273
      try clear q275
      try clear q276
      try clear q278
      obtain ⟨kq, x57_16, rfl, HA, HJ16, BK271, HB⟩ := hcut
      cases kq with
      | zero => exact absurd HA.out (by simp [impl_ruleOk.j2])
      | succ kj16 =>
       have H := HA.out
       clear HA
       simp only [impl_ruleOk.j2] at H
       by_cases c34 : x57_16 = true
       case pos =>
        subst c34
        rw [if_pos rfl] at H
        obtain rfl := Option.some.inj H
        go_wp2
        go_ret
        exact ⟨rz, bz1 HB GE271⟩
       replace c34 := Bool.eq_false_iff.mpr c34
       subst c34
       rw [if_neg nt_] at H
       have H' := Aside0.mk H
       clear H
       go_wp2
       go_roundg kj16
       case measure => have := HJ2.out; have := HK2.out; have := HJ16.out; omega
       case rel => exact ⟨(wrap64 (x24_2 + 1)), rq, H', ⟨by have := HJ2.out; have := HK2.out; have := HJ16.out; omega⟩, ⟨kz BK271⟩, ⟨bz1 HB GE271⟩⟩
end Go.Proofs.Ytoofhjflfpccdaa.PA
end
section
namespace Go.Proofs.Ytoofhjflfpccdaa.PA
open Go.RowKit Go.Proofs.YtoofhjflfpccdaaW.PrintWords Go.Proofs.YtoofhjflfpccdaaW.PrintLast Go.Proofs.YtoofhjflfpccdaaW.PrintMore
attribute [local go_sem] max2_int min2_int max_two min_two max_three min_three max_four min_four   -- for this text's walks alone
set_option linter.unusedVariables false
set_option linter.unusedSimpArgs false
set_option maxHeartbeats 8000000 in
set_option maxRecDepth 100000 in
theorem impl_SystemValid_2.calls (k : Nat) (A0_0 : Option Addr) (c0_0 : Nat) (l0_0 : List (ITerm)) (A0_1 : Option Addr) (c0_1 : Nat) (l0_1 : List Int) (A0_2 : Option Addr) (c0_2 : Nat) (l0_2 : List (List (ITerm))) (gc1 : Nat) (A1_0 : Option Addr) (c1_0 : Nat) (l1_0 : List (IVar)) (A1_1 : Option Addr) (c1_1 : Nat) (l1_1 : List (IRule)) (r : Bool) (w : World) (hr0_0 : Kd.C k107 w A0_0 l0_0.length l0_0) (hc0_0 : l0_0.length ≤ c0_0) (hr0_1 : Kd.C (Kd.int .i64) w A0_1 l0_1.length l0_1) (hc0_1 : l0_1.length ≤ c0_1) (hr0_2 : Kd.C (Kd.slice 107 k107) w A0_2 l0_2.length l0_2) (hc0_2 : l0_2.length ≤ c0_2) (hr1_0 : Kd.C k62 w A1_0 l1_0.length l1_0) (hc1_0 : l1_0.length ≤ c1_0) (hr1_1 : Kd.C k81 w A1_1 l1_1.length l1_1) (hc1_1 : l1_1.length ≤ c1_1) (hk1 : w.heap[gc1]? = some (.cells #[.slice A1_0 l1_0.length c1_0, .slice A1_1 l1_1.length c1_1] 31 (0, 0))) (h : impl_SystemValid_2.f k l0_0 l0_1 l0_2 l1_0 l1_1 = some r) :
  Calls Try.prog 99 #[.agg #[.slice A0_0 l0_0.length c0_0, .slice A0_1 l0_1.length c0_1, .slice A0_2 l0_2.length c0_2], .pointer (some ⟨gc1, 0, none⟩)] w fun e w' => e = .returned (.bool r) ∧ Below w.heap.size w w' := by
 have hu81 := Try.underlying81
 have HR0_0 := Aside0.mk hr0_0
 have HC0_0 := Aside0.mk hc0_0
 clear hr0_0 hc0_0
 have HR0_1 := Aside0.mk hr0_1
 have HC0_1 := Aside0.mk hc0_1
 clear hr0_1 hc0_1
 have HR0_2 := Aside0.mk hr0_2
 have HC0_2 := Aside0.mk hc0_2
 clear hr0_2 hc0_2
 have HR1_0 := Aside0.mk hr1_0
 have HC1_0 := Aside0.mk hc1_0
 clear hr1_0 hc1_0
 have HR1_1 := Aside0.mk hr1_1
 have HC1_1 := Aside0.mk hc1_1
 clear hr1_1 hc1_1
 have BKc1 := Aside0.mk hk1
 clear hk1
 have HB := Aside0.mk (Below.refl w.heap.size w)
 have H : ((impl_ruleOk.f k l0_0 l0_1 l0_2 (l1_0.length : Int)).bind fun t287 => (some (!t287))) = some r := h
 clear h
 replace H := Option.bind_eq_some_iff.mp H
 obtain ⟨t287, A30, H⟩ := H
 have A3 := Aside0.mk A30
 clear A30
 obtain rfl := Option.some.inj H
 go_enter Try.func99, Try.ntmps99
 go_wp2_with (first | ((with_reducible refine gate_dst (N := 2) rfl ?_); refine box_event ?hg (N := 2) ?hd (cs := #[.slice A0_0 l0_0.length c0_0, .slice A0_1 l0_1.length c0_1, .slice A0_2 l0_2.length c0_2]) (t := 81) ?hr ?_; (case hd => rfl); (case hg => rfl); (case hr => first | (go_simp; done) | (go_simp; rfl)); intro gb286 hg w4 hbox hb; have n0_ := Aside0.mk (blk_below (g := gc1) (o := .cells #[.slice A1_0 l1_0.length c1_0, .slice A1_1 l1_1.length c1_1] 31 (0, 0)) (kz BKc1) hb); have n1_ := Aside0.mk (below_step (bz HB) hb); have n2_ := Aside0.mk (hbox); have n3_ := Aside0.mk ((by rw [hg]; exact (below_size (bz HB)) : w.heap.size ≤ gb286)); have n4_ := Aside0.mk ((by rw [hg]; exact (below_size (bz HB)) : w.heap.size ≤ gb286)); have n5_ := Aside0.mk ((by rw [hg]; exact Nat.ne_of_lt (blk_lt (g := gc1) (o := .cells #[.slice A1_0 l1_0.length c1_0, .slice A1_1 l1_1.length c1_1] 31 (0, 0)) (kz BKc1)) : gc1 ≠ gb286)); have n6_ := Aside0.mk ((by rw [hg]; exact Nat.ne_of_gt (blk_lt (g := gc1) (o := .cells #[.slice A1_0 l1_0.length c1_0, .slice A1_1 l1_1.length c1_1] 31 (0, 0)) (kz BKc1)) : gb286 ≠ gc1)); clear BKc1; clear HB; have BKc1 := n0_; have HB := n1_; have BK286 := n2_; have GW286 := n3_; have GE286 := n4_; have NB285_286 := n5_; have NB286_285 := n6_; clear n0_ n1_ n2_ n3_ n4_ n5_ n6_; clear hb hbox hg; have hnb5 := NB286_285.out; have hnc5 := NB285_286.out; have hcz6_0 : w4.cell? ⟨gb286, 0, none⟩ = some (.slice A0_0 l0_0.length c0_0) := (blk_cell BK286.out 0).trans rfl; have hcz6_1 : w4.cell? ⟨gb286, 1, none⟩ = some (.slice A0_1 l0_1.length c0_1) := (blk_cell BK286.out 1).trans rfl; have hcz6_2 : w4.cell? ⟨gb286, 2, none⟩ = some (.slice A0_2 l0_2.length c0_2) := (blk_cell BK286.out 2).trans rfl; have hfz6_0 := blk_frozen BK286.out 0; have hfz6_1 := blk_frozen BK286.out 1; have hfz6_2 := blk_frozen BK286.out 2; have hcz7_0 : w4.cell? ⟨gc1, 0, none⟩ = some (.slice A1_0 l1_0.length c1_0) := (blk_cell BKc1.out 0).trans rfl; have hcz7_1 : w4.cell? ⟨gc1, 1, none⟩ = some (.slice A1_1 l1_1.length c1_1) := (blk_cell BKc1.out 1).trans rfl; have hfz7_0 := blk_frozen BKc1.out 0; have hfz7_1 := blk_frozen BKc1.out 1) | ((with_reducible refine gate_callee (f := 100) rfl ?_); refine goesL_ (some 8) rfl rfl Try.func100 (by kernel_rfl) rfl #[.agg #[.slice A0_0 l0_0.length c0_0, .slice A0_1 l0_1.length c0_1, .slice A0_2 l0_2.length c0_2], .int .i64 (l1_0.length : Int)] rfl az ?_; (with_reducible refine (impl_ruleOk.calls k _ _ l0_0 _ _ l0_1 _ _ l0_2 (l1_0.length : Int) t287 _ ?side1 HC0_0.out ?side3 HC0_1.out ?side5 HC0_2.out A3.out).mono ?_); (case side1 => exact cz HR0_0 HB); (case side3 => exact cz HR0_1 HB); (case side5 => exact cz HR0_2 HB); rintro e w8 ⟨rfl, hb⟩; refine ⟨_, rfl, ?_⟩; replace BKc1 := Aside0.mk (blk_below (g := gc1) (o := .cells #[.slice A1_0 l1_0.length c1_0, .slice A1_1 l1_1.length c1_1] 31 (0, 0)) (kz BKc1) hb); replace BK286 := Aside0.mk (blk_below (g := gb286) (o := .cells #[.slice A0_0 l0_0.length c0_0, .slice A0_1 l0_1.length c0_1, .slice A0_2 l0_2.length c0_2] 81 (0, 0)) (kz BK286) hb); replace HB := Aside0.mk (below_step (bz1 HB GE286) hb); clear hb))
 go_ret
 exact ⟨rz, bz1 HB GE286⟩
end Go.Proofs.Ytoofhjflfpccdaa.PA
end
section
namespace Go.Proofs.Ytoofhjflfpccdaa.PA
open Go.RowKit Go.Proofs.YtoofhjflfpccdaaW.PrintWords Go.Proofs.YtoofhjflfpccdaaW.PrintLast Go.Proofs.YtoofhjflfpccdaaW.PrintMore
attribute [local go_sem] max2_int min2_int max_two min_two max_three min_three max_four min_four   -- for this text's walks alone
set_option linter.unusedVariables false
set_option linter.unusedSimpArgs false
set_option maxHeartbeats 8000000 in
set_option maxRecDepth 100000 in
theorem slices_IndexFunc_at_impl_SystemValid_2.calls (k : Nat) (A0 : Option Addr) (c0 : Nat) (l0 : List (IRule))  (gc2 : Nat) (A2_0 : Option Addr) (c2_0 : Nat) (l2_0 : List (IVar)) (A2_1 : Option Addr) (c2_1 : Nat) (l2_1 : List (IRule)) (r : Int) (w : World) (hr0 : Kd.C k81 w A0 l0.length l0) (hc0 : l0.length ≤ c0) (hr2_0 : Kd.C k62 w A2_0 l2_0.length l2_0) (hc2_0 : l2_0.length ≤ c2_0) (hr2_1 : Kd.C k81 w A2_1 l2_1.length l2_1) (hc2_1 : l2_1.length ≤ c2_1) (hk2 : w.heap[gc2]? = some (.cells #[.slice A2_0 l2_0.length c2_0, .slice A2_1 l2_1.length c2_1] 31 (0, 0))) (h : slices_IndexFunc_at_impl_SystemValid_2.f k l0 l2_0 l2_1 = some r) :
  Calls Try.prog 120 #[.slice A0 l0.length c0, .func (.func 99) #[] #[.pointer (some ⟨gc2, 0, none⟩)]] w fun e w' => e = .returned (.int .i64 r) ∧ Below w.heap.size w w' := by
 have hu81 := Try.underlying81
 have HR0 := Aside0.mk hr0
 have HC0 := Aside0.mk hc0
 clear hr0 hc0
 have HR2_0 := Aside0.mk hr2_0
 have HC2_0 := Aside0.mk hc2_0
 clear hr2_0 hc2_0
 have HR2_1 := Aside0.mk hr2_1
 have HC2_1 := Aside0.mk hc2_1
 clear hr2_1 hc2_1
 have BKc2 := Aside0.mk hk2
 clear hk2
 have HB := Aside0.mk (Below.refl w.heap.size w)
 have H : (slices_IndexFunc_at_impl_SystemValid_2.l0 k l0 (l0.length : Int) 0 l2_0 l2_1) = some r := h
 clear h
 have H' := Aside0.mk H
 clear H
 go_enter Try.func120, Try.ntmps120
 go_wp2
 go_loopg [8] k (fun kq v8 w' => ∃ (x8_1 : Int), v8 = .int .i64 x8_1 ∧ Aside0 (slices_IndexFunc_at_impl_SystemValid_2.l0 kq l0 (l0.length : Int) x8_1 l2_0 l2_1 = some r) ∧ Aside0 (kq ≤ k) ∧ Aside0 (w'.heap[gc2]? = some (.cells #[(.slice A2_0 l2_0.length c2_0), (.slice A2_1 l2_1.length c2_1)] 31 (0, 0))) ∧ Aside0 (Below w.heap.size w w'))
 case atStart => exact ⟨(0), rq, H', ⟨Nat.le_refl _⟩, ⟨kz BKc2⟩, ⟨bz HB⟩⟩
 case round =>
  clear H'
  try clear c2
  try clear p2
  obtain ⟨x8_1, rfl, HA, HK1, BKc2, HB⟩ := hrel
  cases gk with
  | zero => exact absurd HA.out (by simp [slices_IndexFunc_at_impl_SystemValid_2.l0])
  | succ k1 =>
   have H := HA.out
   clear HA
   simp only [slices_IndexFunc_at_impl_SystemValid_2.l0] at H
   by_cases c4 : x8_1 < (l0.length : Int)
   case neg =>
    rw [if_neg c4] at H
    have c4b0 : decide (x8_1 < (l0.length : Int)) = false := decide_eq_false c4
    clear c4
    obtain rfl := Option.some.inj H
    go_wp2
    go_ret
    exact ⟨rz, bz HB⟩
   rw [if_pos c4] at H
   have c4b0 : decide (x8_1 < (l0.length : Int)) = true := decide_eq_true c4
   clear c4
   by_cases c5 : 0 ≤ x8_1
   case neg =>
    rw [if_neg c5] at H
    exact absurd H (by simp)
   rw [if_pos c5] at H
   have c5b0 : decide (0 ≤ x8_1) = true := decide_eq_true c5
   clear c5
   by_cases c6 : x8_1 < (l0.length : Int)
   case neg =>
    rw [if_neg c6] at H
    exact absurd H (by simp)
   rw [if_pos c6] at H
   have c6b0 : decide (x8_1 < (l0.length : Int)) = true := decide_eq_true c6
   clear c6
   replace H := Option.bind_eq_some_iff.mp H
   obtain ⟨t290, A70, H⟩ := H
   have A7 := Aside0.mk A70
   clear A70
   by_cases c8 : t290 = true
   case pos =>
    subst c8
    rw [if_pos rfl] at H
    obtain rfl := Option.some.inj H
    have p289 : 0 ≤ (x8_1 : Int) := dz
    have q289 : x8_1 < (l0.length : Int) := dz
    obtain ⟨ad289, A289_0, c289_0, A289_1, c289_1, A289_2, c289_2, e289, hx289_0, hx289_1, hx289_2, hl289_0, hi289_0, hl289_1, hi289_1, hl289_2, hi289_2⟩ := at_IRule HR0.out x8_1 p289 q289
    cases e289
    replace hx289_0 := xz HB hx289_0
    replace hx289_1 := xz HB hx289_1
    replace hx289_2 := xz HB hx289_2
    have HR289_0 := Aside0.mk hi289_0
    have HC289_0 := Aside0.mk hl289_0
    clear hi289_0 hl289_0
    have HR289_1 := Aside0.mk hi289_1
    have HC289_1 := Aside0.mk hl289_1
    clear hi289_1 hl289_1
    have HR289_2 := Aside0.mk hi289_2
    have HC289_2 := Aside0.mk hl289_2
    clear hi289_2 hl289_2
    replace p289 := eq_true p289
    replace q289 := eq_true q289
    go_wp2_with (first | ((with_reducible refine gate_value (cal := .tmp 11) rfl ?_); refine goesV_ (some 16) rfl rfl Try.func99 (by kernel_rfl) rfl #[.agg #[.slice A289_0 ((rd_IRule l0 x8_1).f0).length c289_0, .slice A289_1 ((rd_IRule l0 x8_1).f1).length c289_1, .slice A289_2 ((rd_IRule l0 x8_1).f2).length c289_2], .pointer (some ⟨gc2, 0, none⟩)] rfl rfl az ?_; (with_reducible refine (impl_SystemValid_2.calls k1 _ _ ((rd_IRule l0 x8_1).f0) _ _ ((rd_IRule l0 x8_1).f1) _ _ ((rd_IRule l0 x8_1).f2) gc2 A2_0 c2_0 l2_0 A2_1 c2_1 l2_1 true _ ?side1 HC289_0.out ?side3 HC289_1.out ?side5 HC289_2.out ?side7 HC2_0.out ?side9 HC2_1.out ?side11 A7.out).mono ?_); (case side1 => exact cz HR289_0 HB); (case side3 => exact cz HR289_1 HB); (case side5 => exact cz HR289_2 HB); (case side7 => exact cz HR2_0 HB); (case side9 => exact cz HR2_1 HB); (case side11 => exact kz BKc2); rintro e w9 ⟨rfl, hb⟩; refine ⟨_, rfl, ?_⟩; replace BKc2 := Aside0.mk (blk_below (g := gc2) (o := .cells #[.slice A2_0 l2_0.length c2_0, .slice A2_1 l2_1.length c2_1] 31 (0, 0)) (kz BKc2) hb); replace HB := Aside0.mk (below_step (bz HB) hb); clear hb))
    go_ret
    exact ⟨rz, bz HB⟩
   replace c8 := Bool.eq_false_iff.mpr c8
   subst c8
   rw [if_neg nt_] at H
   have H' := Aside0.mk H
   clear H
   have p289 : 0 ≤ (x8_1 : Int) := dz
   have q289 : x8_1 < (l0.length : Int) := dz
   obtain ⟨ad289, A289_0, c289_0, A289_1, c289_1, A289_2, c289_2, e289, hx289_0, hx289_1, hx289_2, hl289_0, hi289_0, hl289_1, hi289_1, hl289_2, hi289_2⟩ := at_IRule HR0.out x8_1 p289 q289
   cases e289
   replace hx289_0 := xz HB hx289_0
   replace hx289_1 := xz HB hx289_1
   replace hx289_2 := xz HB hx289_2
   have HR289_0 := Aside0.mk hi289_0
   have HC289_0 := Aside0.mk hl289_0
   clear hi289_0 hl289_0
   have HR289_1 := Aside0.mk hi289_1
   have HC289_1 := Aside0.mk hl289_1
   clear hi289_1 hl289_1
   have HR289_2 := Aside0.mk hi289_2
   have HC289_2 := Aside0.mk hl289_2
   clear hi289_2 hl289_2
   replace p289 := eq_true p289
   replace q289 := eq_true q289
   go_wp2_with (first | ((with_reducible refine gate_value (cal := .tmp 11) rfl ?_); refine goesV_ (some 16) rfl rfl Try.func99 (by kernel_rfl) rfl #[.agg #[.slice A289_0 ((rd_IRule l0 x8_1).f0).length c289_0, .slice A289_1 ((rd_IRule l0 x8_1).f1).length c289_1, .slice A289_2 ((rd_IRule l0 x8_1).f2).length c289_2], .pointer (some ⟨gc2, 0, none⟩)] rfl rfl az ?_; (with_reducible refine (impl_SystemValid_2.calls k1 _ _ ((rd_IRule l0 x8_1).f0) _ _ ((rd_IRule l0 x8_1).f1) _ _ ((rd_IRule l0 x8_1).f2) gc2 A2_0 c2_0 l2_0 A2_1 c2_1 l2_1 false _ ?side1 HC289_0.out ?side3 HC289_1.out ?side5 HC289_2.out ?side7 HC2_0.out ?side9 HC2_1.out ?side11 A7.out).mono ?_); (case side1 => exact cz HR289_0 HB); (case side3 => exact cz HR289_1 HB); (case side5 => exact cz HR289_2 HB); (case side7 => exact cz HR2_0 HB); (case side9 => exact cz HR2_1 HB); (case side11 => exact kz BKc2); rintro e w10 ⟨rfl, hb⟩; refine ⟨_, rfl, ?_⟩; replace BKc2 := Aside0.mk (blk_below (g := gc2) (o := .cells #[.slice A2_0 l2_0.length c2_0, .slice A2_1 l2_1.length c2_1] 31 (0, 0)) (kz BKc2) hb); replace HB := Aside0.mk (below_step (bz HB) hb); clear hb))
   go_roundg k1
   case measure => have := HK1.out; omega
   case rel => exact ⟨(wrap64 (x8_1 + 1)), rq, H', ⟨by have := HK1.out; omega⟩, ⟨kz BKc2⟩, ⟨bz HB⟩⟩
end Go.Proofs.Ytoofhjflfpccdaa.PA
end
section
namespace Go.Proofs.Ytoofhjflfpccdaa.PA
open Go.RowKit Go.Proofs.YtoofhjflfpccdaaW.PrintWords Go.Proofs.YtoofhjflfpccdaaW.PrintLast Go.Proofs.YtoofhjflfpccdaaW.PrintMore
attribute [local go_sem] max2_int min2_int max_two min_two max_three min_three max_four min_four   -- for this text's walks alone
set_option linter.unusedVariables false
set_option linter.unusedSimpArgs false
set_option maxHeartbeats 8000000 in
set_option maxRecDepth 100000 in
theorem slices_ContainsFunc_at_impl_SystemValid_2.calls (k : Nat) (A0 : Option Addr) (c0 : Nat) (l0 : List (IRule))  (gc2 : Nat) (A2_0 : Option Addr) (c2_0 : Nat) (l2_0 : List (IVar)) (A2_1 : Option Addr) (c2_1 : Nat) (l2_1 : List (IRule)) (r : Bool) (w : World) (hr0 : Kd.C k81 w A0 l0.length l0) (hc0 : l0.length ≤ c0) (hr2_0 : Kd.C k62 w A2_0 l2_0.length l2_0) (hc2_0 : l2_0.length ≤ c2_0) (hr2_1 : Kd.C k81 w A2_1 l2_1.length l2_1) (hc2_1 : l2_1.length ≤ c2_1) (hk2 : w.heap[gc2]? = some (.cells #[.slice A2_0 l2_0.length c2_0, .slice A2_1 l2_1.length c2_1] 31 (0, 0))) (h : slices_ContainsFunc_at_impl_SystemValid_2.f k l0 l2_0 l2_1 = some r) :
  Calls Try.prog 98 #[.slice A0 l0.length c0, .func (.func 99) #[] #[.pointer (some ⟨gc2, 0, none⟩)]] w fun e w' => e = .returned (.bool r) ∧ Below w.heap.size w w' := by
 have HR0 := Aside0.mk hr0
 have HC0 := Aside0.mk hc0
 clear hr0 hc0
 have HR2_0 := Aside0.mk hr2_0
 have HC2_0 := Aside0.mk hc2_0
 clear hr2_0 hc2_0
 have HR2_1 := Aside0.mk hr2_1
 have HC2_1 := Aside0.mk hc2_1
 clear hr2_1 hc2_1
 have BKc2 := Aside0.mk hk2
 clear hk2
 have HB := Aside0.mk (Below.refl w.heap.size w)
 have H : ((slices_IndexFunc_at_impl_SystemValid_2.f k l0 l2_0 l2_1).bind fun t292 => (some (decide (t292 ≥ 0)))) = some r := h
 clear h
 replace H := Option.bind_eq_some_iff.mp H
 obtain ⟨t292, A40, H⟩ := H
 have A4 := Aside0.mk A40
 clear A40
 obtain rfl := Option.some.inj H
 go_enter Try.func98, Try.ntmps98
 go_wp2_with (first | ((with_reducible refine gate_callee (f := 120) rfl ?_); refine goesL_ (some 7) rfl rfl Try.func120 (by kernel_rfl) rfl #[.slice A0 l0.length c0, .func (.func 99) #[] #[.pointer (some ⟨gc2, 0, none⟩)]] rfl az ?_; (with_reducible refine (slices_IndexFunc_at_impl_SystemValid_2.calls k _ _ l0  gc2 A2_0 c2_0 l2_0 A2_1 c2_1 l2_1 t292 _ ?side1 HC0.out ?side3 HC2_0.out ?side5 HC2_1.out ?side7 A4.out).mono ?_); (case side1 => exact cz0 HR0); (case side3 => exact cz0 HR2_0); (case side5 => exact cz0 HR2_1); (case side7 => exact kz BKc2); rintro e w5 ⟨rfl, hb⟩; refine ⟨_, rfl, ?_⟩; replace BKc2 := Aside0.mk (blk_below (g := gc2) (o := .cells #[.slice A2_0 l2_0.length c2_0, .slice A2_1 l2_1.length c2_1] 31 (0, 0)) (kz BKc2) hb); replace HB := Aside0.mk (below_step (bz HB) hb); clear hb))
 go_ret
 exact ⟨rz, bz HB⟩
end Go.Proofs.Ytoofhjflfpccdaa.PA
end
section
namespace Go.Proofs.Ytoofhjflfpccdaa.PA
open Go.RowKit Go.Proofs.YtoofhjflfpccdaaW.PrintWords Go.Proofs.YtoofhjflfpccdaaW.PrintLast Go.Proofs.YtoofhjflfpccdaaW.PrintMore
attribute [local go_sem] max2_int min2_int max_two min_two max_three min_three max_four min_four   -- for this text's walks alone
set_option linter.unusedVariables false
set_option linter.unusedSimpArgs false
set_option maxHeartbeats 8000000 in
set_option maxRecDepth 100000 in
theorem impl_SystemValid.calls (k : Nat) (A0_0 : Option Addr) (c0_0 : Nat) (l0_0 : List (IVar)) (A0_1 : Option Addr) (c0_1 : Nat) (l0_1 : List (IRule)) (r : Bool) (w : World) (hr0_0 : Kd.C k62 w A0_0 l0_0.length l0_0) (hc0_0 : l0_0.length ≤ c0_0) (hr0_1 : Kd.C k81 w A0_1 l0_1.length l0_1) (hc0_1 : l0_1.length ≤ c0_1) (h : impl_SystemValid.f k l0_0 l0_1 = some r) :
  Calls Try.prog 57 #[.agg #[.slice A0_0 l0_0.length c0_0, .slice A0_1 l0_1.length c0_1]] w fun e w' => e = .returned (.bool r) ∧ Below w.heap.size w w' := by
 have hu31 := Try.underlying31
 have HR0_0 := Aside0.mk hr0_0
 have HC0_0 := Aside0.mk hc0_0
 clear hr0_0 hc0_0
 have HR0_1 := Aside0.mk hr0_1
 have HC0_1 := Aside0.mk hc0_1
 clear hr0_1 hc0_1
 have HB := Aside0.mk (Below.refl w.heap.size w)
 have H : ((impl_in.f (l0_0.length : Int) 1 5).bind fun t294 => (if t294 = true then (if (l0_1.length : Int) > 8 then (impl_SystemValid.j0 k true l0_0 l0_1) else ((slices_ContainsFunc_at_impl_SystemValid_1.f k l0_0).bind fun t295 => (if t295 = true then (impl_SystemValid.j0 k true l0_0 l0_1) else ((impl_size.f k l0_0).bind fun t296 => (impl_SystemValid.j0 k (decide (t296 > 400)) l0_0 l0_1))))) else (impl_SystemValid.j0 k true l0_0 l0_1))) = some r := h
 clear h
 have HC2 := Aside0.mk H
 clear H
 go_enter Try.func57, Try.ntmps57
 go_upto_region 1 with (first | ((with_reducible refine gate_dst (N := 1) rfl ?_); (try (refine gate_guard (by rfl) ?_; dsimp only)); refine box_event ?hg (N := 1) ?hd (cs := #[.slice A0_0 l0_0.length c0_0, .slice A0_1 l0_1.length c0_1]) (t := 31) ?hr ?_; (case hd => rfl); (case hg => rfl); (case hr => first | (go_simp; done) | (go_simp; rfl)); intro gb293 hg w3 hbox hb; have n0_ := Aside0.mk (below_step (bz HB) hb); have n1_ := Aside0.mk (hbox); have n2_ := Aside0.mk ((by rw [hg]; exact (below_size (bz HB)) : w.heap.size ≤ gb293)); have n3_ := Aside0.mk ((by rw [hg]; exact (below_size (bz HB)) : w.heap.size ≤ gb293)); clear HB; have HB := n0_; have BK293 := n1_; have GW293 := n2_; have GE293 := n3_; clear n0_ n1_ n2_ n3_; clear hb hbox hg))
 (try simp only [Act.put, sb_, sc0_, sc1_])
 go_cut [24] (fun v24 wc => ∃ (kq : Nat) (x24_1 : Bool), v24 = .bool x24_1 ∧ Aside0 (impl_SystemValid.j0 kq x24_1 l0_0 l0_1 = some r) ∧ Aside0 (kq ≤ k) ∧ Aside0 (wc.heap[gb293]? = some (.cells #[(.slice A0_0 l0_0.length c0_0), (.slice A0_1 l0_1.length c0_1)] 31 (0, 0))) ∧ Aside0 (Below w.heap.size w wc))
 case first =>
  have H := HC2.out
  clear HC2
  replace H := Option.bind_eq_some_iff.mp H
  obtain ⟨t294, A40, H⟩ := H
  have A4 := Aside0.mk A40
  clear A40
  by_cases c5 : t294 = true
  case neg =>
   replace c5 := Bool.eq_false_iff.mpr c5
   subst c5
   rw [if_neg nt_] at H
   have H' := Aside0.mk H
   clear H
   have hcz17_0 : w3.cell? ⟨gb293, 0, none⟩ = some (.slice A0_0 l0_0.length c0_0) := (blk_cell BK293.out 0).trans rfl
   have hcz17_1 : w3.cell? ⟨gb293, 1, none⟩ = some (.slice A0_1 l0_1.length c0_1) := (blk_cell BK293.out 1).trans rfl
   have hfz17_0 := blk_frozen BK293.out 0
   have hfz17_1 := blk_frozen BK293.out 1
   go_wp2_with (first | ((with_reducible refine gate_callee (f := 69) rfl ?_); refine goesL_ (some 6) rfl rfl Try.func69 (by kernel_rfl) rfl #[.int .i64 (l0_0.length : Int), .int .i64 1, .int .i64 5] rfl az ?_; (with_reducible refine (impl_in.calls (l0_0.length : Int) 1 5 false _ A4.out).mono ?_); rintro e w' ⟨rfl, ⟨nd, rfl⟩⟩; refine ⟨_, rfl, ?_⟩))
   go_meet
   case rel => exact ⟨_, (true), rq, H', ⟨by first | omega | exact Nat.le_refl _⟩, ⟨kz BK293⟩, ⟨bz1 HB GE293⟩⟩
  subst c5
  rw [if_pos rfl] at H
  by_cases c6 : (l0_1.length : Int) > 8
  case pos =>
   rw [if_pos c6] at H
   have c6b0 : decide (8 < (l0_1.length : Int)) = true := decide_eq_true c6
   have c6b1 : decide (8 < l0_1.length) = true := decide_eq_true (by omega)
   clear c6
   (first | rw [c6b0] | (simp only [i64_w, i32_w]; rw [c6b0]) | skip)
   have H' := Aside0.mk H
   clear H
   have hcz7_0 : w3.cell? ⟨gb293, 0, none⟩ = some (.slice A0_0 l0_0.length c0_0) := (blk_cell BK293.out 0).trans rfl
   have hcz7_1 : w3.cell? ⟨gb293, 1, none⟩ = some (.slice A0_1 l0_1.length c0_1) := (blk_cell BK293.out 1).trans rfl
   have hfz7_0 := blk_frozen BK293.out 0
   have hfz7_1 := blk_frozen BK293.out 1
   go_wp2_with (first | ((with_reducible refine gate_callee (f := 69) rfl ?_); refine goesL_ (some 6) rfl rfl Try.func69 (by kernel_rfl) rfl #[.int .i64 (l0_0.length : Int), .int .i64 1, .int .i64 5] rfl az ?_; (with_reducible refine (impl_in.calls (l0_0.length : Int) 1 5 true _ A4.out).mono ?_); rintro e w' ⟨rfl, ⟨nd, rfl⟩⟩; refine ⟨_, rfl, ?_⟩))
   go_meet
   case rel => exact ⟨_, (true), rq, H', ⟨by first | omega | exact Nat.le_refl _⟩, ⟨kz BK293⟩, ⟨bz1 HB GE293⟩⟩
  rw [if_neg c6] at H
  have c6b0 : decide (8 < (l0_1.length : Int)) = false := decide_eq_false c6
  have c6b1 : decide (8 < l0_1.length) = false := decide_eq_false (by omega)
  clear c6
  (first | rw [c6b0] | (simp only [i64_w, i32_w]; rw [c6b0]) | skip)
  replace H := Option.bind_eq_some_iff.mp H
  obtain ⟨t295, A80, H⟩ := H
  have A8 := Aside0.mk A80
  clear A80
  by_cases c9 : t295 = true
  case pos =>
   subst c9
   rw [if_pos rfl] at H
   have H' := Aside0.mk H
   clear H
   have hcz10_0 : w3.cell? ⟨gb293, 0, none⟩ = some (.slice A0_0 l0_0.length c0_0) := (blk_cell BK293.out 0).trans rfl
   have hcz10_1 : w3.cell? ⟨gb293, 1, none⟩ = some (.slice A0_1 l0_1.length c0_1) := (blk_cell BK293.out 1).trans rfl
   have hfz10_0 := blk_frozen BK293.out 0
   have hfz10_1 := blk_frozen BK293.out 1
   go_wp2_with (first | ((with_reducible refine gate_callee (f := 69) rfl ?_); refine goesL_ (some 6) rfl rfl Try.func69 (by kernel_rfl) rfl #[.int .i64 (l0_0.length : Int), .int .i64 1, .int .i64 5] rfl az ?_; (with_reducible refine (impl_in.calls (l0_0.length : Int) 1 5 true _ A4.out).mono ?_); rintro e w' ⟨rfl, ⟨nd, rfl⟩⟩; refine ⟨_, rfl, ?_⟩) | (go_at_call 94; (with_reducible refine (slices_ContainsFunc_at_impl_SystemValid_1.calls k _ _ l0_0  true _ ?side1 HC0_0.out A8.out).mono ?_); (case side1 => repeat (first | exact (Kd.C_below HR0_0.out (bz1 HB GE293)) | (with_reducible refine Kd.C_alloc ?_ _) | (with_reducible refine Kd.C_drewN ?_ _) | (with_reducible refine Kd.C_drew ?_))); rintro e w11 ⟨rfl, hb⟩; replace BK293 := Aside0.mk (blk_below (g := gb293) (o := .cells #[.slice A0_0 l0_0.length c0_0, .slice A0_1 l0_1.length c0_1] 31 (0, 0)) (kz BK293) hb); replace HB := Aside0.mk (below_step (bz1 HB GE293) hb); clear hb))
   go_meet
   case rel => exact ⟨_, (true), rq, H', ⟨by first | omega | exact Nat.le_refl _⟩, ⟨kz BK293⟩, ⟨bz1 HB GE293⟩⟩
  replace c9 := Bool.eq_false_iff.mpr c9
  subst c9
  rw [if_neg nt_] at H
  replace H := Option.bind_eq_some_iff.mp H
  obtain ⟨t296, A120, H⟩ := H
  have A12 := Aside0.mk A120
  clear A120
  have H' := Aside0.mk H
  clear H
  have hcz13_0 : w3.cell? ⟨gb293, 0, none⟩ = some (.slice A0_0 l0_0.length c0_0) := (blk_cell BK293.out 0).trans rfl
  have hcz13_1 : w3.cell? ⟨gb293, 1, none⟩ = some (.slice A0_1 l0_1.length c0_1) := (blk_cell BK293.out 1).trans rfl
  have hfz13_0 := blk_frozen BK293.out 0
  have hfz13_1 := blk_frozen BK293.out 1
  go_wp2_with (first | ((with_reducible refine gate_callee (f := 69) rfl ?_); refine goesL_ (some 6) rfl rfl Try.func69 (by kernel_rfl) rfl #[.int .i64 (l0_0.length : Int), .int .i64 1, .int .i64 5] rfl az ?_; (with_reducible refine (impl_in.calls (l0_0.length : Int) 1 5 true _ A4.out).mono ?_); rintro e w' ⟨rfl, ⟨nd, rfl⟩⟩; refine ⟨_, rfl, ?_⟩) | (go_at_call 94; (with_reducible refine (slices_ContainsFunc_at_impl_SystemValid_1.calls k _ _ l0_0  false _ ?side1 ?side2 A8.out).mono ?_); (case side1 => repeat (first | exact (Kd.C_below HR0_0.out (bz1 HB GE293)) | (with_reducible refine Kd.C_alloc ?_ _) | (with_reducible refine Kd.C_drewN ?_ _) | (with_reducible refine Kd.C_drew ?_))); (case side2 => exact HC0_0.out); rintro e w14 ⟨rfl, hb⟩; replace BK293 := Aside0.mk (blk_below (g := gb293) (o := .cells #[.slice A0_0 l0_0.length c0_0, .slice A0_1 l0_1.length c0_1] 31 (0, 0)) (kz BK293) hb); replace HB := Aside0.mk (below_step (bz1 HB GE293) hb); clear hb; have hcz15_0 : w14.cell? ⟨gb293, 0, none⟩ = some (.slice A0_0 l0_0.length c0_0) := (blk_cell BK293.out 0).trans rfl; have hcz15_1 : w14.cell? ⟨gb293, 1, none⟩ = some (.slice A0_1 l0_1.length c0_1) := (blk_cell BK293.out 1).trans rfl; have hfz15_0 := blk_frozen BK293.out 0; have hfz15_1 := blk_frozen BK293.out 1) | (go_at_call 97; (with_reducible refine (impl_size.calls k _ _ l0_0 t296 _ ?side1 ?side2 A12.out).mono ?_); (case side1 => exact cz HR0_0 HB); (case side2 => exact HC0_0.out); rintro e w16 ⟨rfl, hb⟩; replace BK293 := Aside0.mk (blk_below (g := gb293) (o := .cells #[.slice A0_0 l0_0.length c0_0, .slice A0_1 l0_1.length c0_1] 31 (0, 0)) (kz BK293) hb); replace HB := Aside0.mk (below_step (bz1 HB GE293) hb); clear hb))
  go_meet
  case rel => exact ⟨_, (decide (t296 > 400)), rq, H', ⟨by first | omega | exact Nat.le_refl _⟩, ⟨kz BK293⟩, ⟨bz1 HB GE293⟩⟩
 case rest =>
  clear HC2
  try clear p2
  try clear c5
  try clear c6
  try clear c6b0
  try clear c6b1
  try clear c9
  try clear hcz10_0
  try clear hcz10_1
  try clear hcz13_0
  try clear hcz13_1
  try clear hcz15_0
  try clear hcz15_1
  try clear hcz17_0
  try clear hcz17_1
  try clear hcz7_0
  try clear hcz7_1
  try clear hfz10_0
  try clear hfz10_1
  try clear hfz13_0
  try clear hfz13_1
  try clear hfz15_0
  try clear hfz15_1
  try clear hfz17_0
  try clear hfz17_1
  try clear hfz7_0
  try clear hfz7_1
  obtain ⟨kq, x24_1, rfl, HA, HJ1, BK293, HB⟩ := hcut
  cases kq with
  | zero => exact absurd HA.out (by simp [impl_SystemValid.j0])
  | succ kj1 =>
   have H := HA.out
   clear HA
   simp only [impl_SystemValid.j0] at H
   by_cases c18 : x24_1 = true
   case pos =>
    subst c18
    rw [if_pos rfl] at H
    obtain rfl := Option.some.inj H
    go_wp2
    go_ret
    exact ⟨rz, bz1 HB GE293⟩
   replace c18 := Bool.eq_false_iff.mpr c18
   subst c18
   rw [if_neg nt_] at H
   replace H := Option.bind_eq_some_iff.mp H
   obtain ⟨t297, A190, H⟩ := H
   have A19 := Aside0.mk A190
   clear A190
   obtain rfl := Option.some.inj H
   have hcz20_0 : wc.cell? ⟨gb293, 0, none⟩ = some (.slice A0_0 l0_0.length c0_0) := (blk_cell BK293.out 0).trans rfl
   have hcz20_1 : wc.cell? ⟨gb293, 1, none⟩ = some (.slice A0_1 l0_1.length c0_1) := (blk_cell BK293.out 1).trans rfl
   have hfz20_0 := blk_frozen BK293.out 0
   have hfz20_1 := blk_frozen BK293.out 1
   go_wp2_with (first | ((with_reducible refine gate_callee (f := 98) rfl ?_); refine goesL_ (some 28) rfl rfl Try.func98 (by kernel_rfl) rfl #[.slice A0_1 l0_1.length c0_1, .func (.func 99) #[] #[.pointer (some ⟨gb293, 0, none⟩)]] rfl az ?_; (with_reducible refine (slices_ContainsFunc_at_impl_SystemValid_2.calls kj1 _ _ l0_1  gb293 A0_0 c0_0 l0_0 A0_1 c0_1 l0_1 t297 _ ?side1 HC0_1.out ?side3 HC0_0.out ?side5 HC0_1.out ?side7 A19.out).mono ?_); (case side1 => exact cz HR0_1 HB); (case side3 => exact cz HR0_0 HB); (case side5 => exact cz HR0_1 HB); (case side7 => exact kz BK293); rintro e w21 ⟨rfl, hb⟩; refine ⟨_, rfl, ?_⟩; replace BK293 := Aside0.mk (blk_below (g := gb293) (o := .cells #[.slice A0_0 l0_0.length c0_0, .slice A0_1 l0_1.length c0_1] 31 (0, 0)) (kz BK293) hb); replace HB := Aside0.mk (below_step (bz1 HB GE293) hb); clear hb))
   go_ret
   exact ⟨rz, bz1 HB GE293⟩
end Go.Proofs.Ytoofhjflfpccdaa.PA
end
