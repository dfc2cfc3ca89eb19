/- Walks of Go functions: each is shown to answer as the Lean function beside it tells, under the conditions that its theorem names. -/
import Derived.Test.YtoofhjflfpccdaaProg
import Derived.Below
import Derived.Deep.Draws
import Derived.Deep.AppendLies
import Derived.Maps.AppendAt
import Derived.OwnWalk
import Derived.Laws.BytesArg
import Derived.Laws.MakeOwn
import Derived.Laws.OwnMore
import Derived.Deep.OwnRows
import Derived.Tactics
import Derived.Lib.ConvBytes
import Derived.Laws.Slices
import Derived.WalkKit
import Derived.KernelRfl
import Derived.RowKit3
import Derived.Deep.LoopGhost
import Derived.Deep.QuietTactic
import Derived.BigQuiet
import Derived.WideLaws
import Derived.Deep.DeepCutAuto
import Derived.Deep.CutBlock
import Derived.Deep.RegionHeld3
import Derived.Laws.Rows
import Derived.Lib.AppendStr
import Derived.ArgAppend
import Derived.Laws.IdiomCopy
import Derived.OrdersHeld
import Derived.Laws.BitsLemmas
import Derived.RowKit
import Derived.Laws.StructEq
import Derived.Lib.SliceRun
import Derived.WalkSpells
import Derived.ChangeArms
import Derived.ChangeSlices
import Derived.Deep.Slices
import Derived.Test.YtoofhjflfpccdaaKD678a608cbb
section
namespace Go.Proofs.Ytoofhjflfpccdaa.PA
open Go.RowKit Go.Proofs.YtoofhjflfpccdaaW.PrintWords Go.Proofs.YtoofhjflfpccdaaW.PrintLast Go.Proofs.YtoofhjflfpccdaaW.PrintMore
attribute [local go_sem] max2_int min2_int max_two min_two max_three min_three max_four min_four   -- for this text's walks alone
set_option linter.unusedVariables false
set_option linter.unusedSimpArgs false
set_option maxHeartbeats 8000000 in
set_option maxRecDepth 100000 in
theorem laws_szVarS.calls (A0 : Option Addr) (c0 : Nat) (l0 : List (LVar)) (a1 : Int) (r : Int) (w : World) (hr0 : Kd.C k84 w A0 l0.length l0) (hc0 : l0.length ≤ c0) (h : laws_szVarS.f l0 a1 = some r) :
  Calls Try.prog 47 #[.slice A0 l0.length c0, .int .i64 a1] w fun e w' => e = .returned (.int .i64 r) ∧ Drawn0 w w' := by
 have HR0 := Aside0.mk hr0
 have HC0 := Aside0.mk hc0
 clear hr0 hc0
 have H : (if (wrap64 (a1 - (l0.length : Int))) < 0 then (some (-1)) else (some (wrap64 (a1 - (l0.length : Int))))) = some r := h
 clear h
 by_cases c3 : (wrap64 (a1 - (l0.length : Int))) < 0
 case pos =>
  rw [if_pos c3] at H
  have c3b0 : decide ((wrap64 (a1 - (l0.length : Int))) < 0) = true := decide_eq_true c3
  clear c3
  obtain rfl := Option.some.inj H
  go_enter Try.func47, Try.ntmps47
  go_wp2
  go_ret
  exact ⟨by first | rfl | (simp; done) | (simp [*]; done), by repeat (first | exact Drawn0.refl _ | apply Drawn0.step)⟩
 rw [if_neg c3] at H
 have c3b0 : decide ((wrap64 (a1 - (l0.length : Int))) < 0) = false := decide_eq_false c3
 clear c3
 obtain rfl := Option.some.inj H
 go_enter Try.func47, Try.ntmps47
 go_wp2
 go_ret
 exact ⟨by first | rfl | (simp; done) | (simp [*]; done), by repeat (first | exact Drawn0.refl _ | apply Drawn0.step)⟩
end Go.Proofs.Ytoofhjflfpccdaa.PA
end
section
namespace Go.Proofs.Ytoofhjflfpccdaa.PA
open Go.RowKit Go.Proofs.YtoofhjflfpccdaaW.PrintWords Go.Proofs.YtoofhjflfpccdaaW.PrintLast Go.Proofs.YtoofhjflfpccdaaW.PrintMore
attribute [local go_sem] max2_int min2_int max_two min_two max_three min_three max_four min_four   -- for this text's walks alone
set_option linter.unusedVariables false
set_option linter.unusedSimpArgs false
set_option maxHeartbeats 8000000 in
set_option maxRecDepth 100000 in
theorem laws_szTermS.calls (A0 : Option Addr) (c0 : Nat) (l0 : List (LTerm)) (a1 : Int) (r : Int) (w : World) (hr0 : Kd.C k112 w A0 l0.length l0) (hc0 : l0.length ≤ c0) (h : laws_szTermS.f l0 a1 = some r) :
  Calls Try.prog 111 #[.slice A0 l0.length c0, .int .i64 a1] w fun e w' => e = .returned (.int .i64 r) ∧ Drawn0 w w' := by
 have HR0 := Aside0.mk hr0
 have HC0 := Aside0.mk hc0
 clear hr0 hc0
 have H : (if (wrap64 (a1 - (l0.length : Int))) < 0 then (some (-1)) else (some (wrap64 (a1 - (l0.length : Int))))) = some r := h
 clear h
 by_cases c3 : (wrap64 (a1 - (l0.length : Int))) < 0
 case pos =>
  rw [if_pos c3] at H
  have c3b0 : decide ((wrap64 (a1 - (l0.length : Int))) < 0) = true := decide_eq_true c3
  clear c3
  obtain rfl := Option.some.inj H
  go_enter Try.func111, Try.ntmps111
  go_wp2
  go_ret
  exact ⟨by first | rfl | (simp; done) | (simp [*]; done), by repeat (first | exact Drawn0.refl _ | apply Drawn0.step)⟩
 rw [if_neg c3] at H
 have c3b0 : decide ((wrap64 (a1 - (l0.length : Int))) < 0) = false := decide_eq_false c3
 clear c3
 obtain rfl := Option.some.inj H
 go_enter Try.func111, Try.ntmps111
 go_wp2
 go_ret
 exact ⟨by first | rfl | (simp; done) | (simp [*]; done), by repeat (first | exact Drawn0.refl _ | apply Drawn0.step)⟩
end Go.Proofs.Ytoofhjflfpccdaa.PA
end
section
namespace Go.Proofs.Ytoofhjflfpccdaa.PA
open Go.RowKit Go.Proofs.YtoofhjflfpccdaaW.PrintWords Go.Proofs.YtoofhjflfpccdaaW.PrintLast Go.Proofs.YtoofhjflfpccdaaW.PrintMore
attribute [local go_sem] max2_int min2_int max_two min_two max_three min_three max_four min_four   -- for this text's walks alone
set_option linter.unusedVariables false
set_option linter.unusedSimpArgs false
set_option maxHeartbeats 8000000 in
set_option maxRecDepth 100000 in
theorem laws_szIntS.calls (A0 : Option Addr) (c0 : Nat) (l0 : List Int) (a1 : Int) (r : Int) (w : World) (hr0 : Kd.C (Kd.int .i64) w A0 l0.length l0) (hc0 : l0.length ≤ c0) (h : laws_szIntS.f l0 a1 = some r) :
  Calls Try.prog 112 #[.slice A0 l0.length c0, .int .i64 a1] w fun e w' => e = .returned (.int .i64 r) ∧ Drawn0 w w' := by
 have HR0 := Aside0.mk hr0
 have HC0 := Aside0.mk hc0
 clear hr0 hc0
 have H : (if (wrap64 (a1 - (l0.length : Int))) < 0 then (some (-1)) else (some (wrap64 (a1 - (l0.length : Int))))) = some r := h
 clear h
 by_cases c3 : (wrap64 (a1 - (l0.length : Int))) < 0
 case pos =>
  rw [if_pos c3] at H
  have c3b0 : decide ((wrap64 (a1 - (l0.length : Int))) < 0) = true := decide_eq_true c3
  clear c3
  obtain rfl := Option.some.inj H
  go_enter Try.func112, Try.ntmps112
  go_wp2
  go_ret
  exact ⟨by first | rfl | (simp; done) | (simp [*]; done), by repeat (first | exact Drawn0.refl _ | apply Drawn0.step)⟩
 rw [if_neg c3] at H
 have c3b0 : decide ((wrap64 (a1 - (l0.length : Int))) < 0) = false := decide_eq_false c3
 clear c3
 obtain rfl := Option.some.inj H
 go_enter Try.func112, Try.ntmps112
 go_wp2
 go_ret
 exact ⟨by first | rfl | (simp; done) | (simp [*]; done), by repeat (first | exact Drawn0.refl _ | apply Drawn0.step)⟩
end Go.Proofs.Ytoofhjflfpccdaa.PA
end
section
namespace Go.Proofs.Ytoofhjflfpccdaa.PA
open Go.RowKit Go.Proofs.YtoofhjflfpccdaaW.PrintWords Go.Proofs.YtoofhjflfpccdaaW.PrintLast Go.Proofs.YtoofhjflfpccdaaW.PrintMore
attribute [local go_sem] max2_int min2_int max_two min_two max_three min_three max_four min_four   -- for this text's walks alone
set_option linter.unusedVariables false
set_option linter.unusedSimpArgs false
set_option maxHeartbeats 8000000 in
set_option maxRecDepth 100000 in
theorem laws_szTermSS.calls (k : Nat) (A0 : Option Addr) (c0 : Nat) (l0 : List (List (LTerm))) (a1 : Int) (r : Int) (w : World) (hr0 : Kd.C (Kd.slice 112 k112) w A0 l0.length l0) (hc0 : l0.length ≤ c0) (h : laws_szTermSS.f k l0 a1 = some r) :
  Calls Try.prog 113 #[.slice A0 l0.length c0, .int .i64 a1] w fun e w' => e = .returned (.int .i64 r) ∧ Drawn0 w w' := by
 have HR0 := Aside0.mk hr0
 have HC0 := Aside0.mk hc0
 clear hr0 hc0
 have H : (if (wrap64 (a1 - (l0.length : Int))) < 0 then (some (-1)) else (laws_szTermSS.l0 k l0 (wrap64 (a1 - (l0.length : Int))) 0)) = some r := h
 clear h
 by_cases c3 : (wrap64 (a1 - (l0.length : Int))) < 0
 case pos =>
  rw [if_pos c3] at H
  have c3b0 : decide ((wrap64 (a1 - (l0.length : Int))) < 0) = true := decide_eq_true c3
  clear c3
  obtain rfl := Option.some.inj H
  go_enter Try.func113, Try.ntmps113
  go_wp2
  go_ret
  exact ⟨by first | rfl | (simp; done) | (simp [*]; done), by repeat (first | exact Drawn0.refl _ | apply Drawn0.step)⟩
 rw [if_neg c3] at H
 have c3b0 : decide ((wrap64 (a1 - (l0.length : Int))) < 0) = false := decide_eq_false c3
 clear c3
 have H' := Aside0.mk H
 clear H
 go_enter Try.func113, Try.ntmps113
 go_wp2
 go_loopg [1, 5] k (fun kq v1 v5 w' => ∃ (x1_1 : Int) (x5_1 : Int), v1 = .int .i64 x1_1 ∧ v5 = .int .i64 x5_1 ∧ Aside0 (laws_szTermSS.l0 kq l0 x1_1 x5_1 = some r) ∧ Aside0 (kq ≤ k) ∧ Drawn0 w w')
 case atStart => exact ⟨(wrap64 (a1 - (l0.length : Int))), (0), rq, rq, H', ⟨Nat.le_refl _⟩, by repeat (first | exact Drawn0.refl _ | apply Drawn0.step)⟩
 case round =>
  clear H'
  try clear c1
  try clear p2
  try clear c3
  try clear c3b0
  obtain ⟨x1_1, x5_1, rfl, rfl, HA, HK1, ⟨m1, rfl⟩⟩ := hrel
  cases gk with
  | zero => exact absurd HA.out (by simp [laws_szTermSS.l0])
  | succ k1 =>
   have H := HA.out
   clear HA
   simp only [laws_szTermSS.l0] at H
   by_cases c4 : x5_1 < (l0.length : Int)
   case neg =>
    rw [if_neg c4] at H
    have c4b0 : decide (x5_1 < (l0.length : Int)) = false := decide_eq_false c4
    clear c4
    obtain rfl := Option.some.inj H
    go_wp2
    go_ret
    exact ⟨by first | rfl | (simp; done) | (simp [*]; done), by repeat (first | exact Drawn0.refl _ | apply Drawn0.step)⟩
   rw [if_pos c4] at H
   have c4b0 : decide (x5_1 < (l0.length : Int)) = true := decide_eq_true c4
   clear c4
   by_cases c5 : 0 ≤ x5_1
   case neg =>
    rw [if_neg c5] at H
    exact absurd H (by simp)
   rw [if_pos c5] at H
   have c5b0 : decide (0 ≤ x5_1) = true := decide_eq_true c5
   clear c5
   replace H := Option.bind_eq_some_iff.mp H
   obtain ⟨t102, A60, H⟩ := H
   have A6 := Aside0.mk A60
   clear A60
   by_cases c7 : t102 < 0
   case pos =>
    rw [if_pos c7] at H
    have c7b0 : decide (t102 < 0) = true := decide_eq_true c7
    clear c7
    obtain rfl := Option.some.inj H
    have p101 : 0 ≤ (x5_1 : Int) := dz
    have q101 : x5_1 < (l0.length : Int) := dz
    obtain ⟨ad101, A101_0, c101_0, e101, hx101_0, hl101_0, hi101_0⟩ := at_LLTerm HR0.out x5_1 p101 q101
    cases e101
    have HR101_0 := Aside0.mk hi101_0
    have HC101_0 := Aside0.mk hl101_0
    clear hi101_0 hl101_0
    replace p101 := eq_true p101
    replace q101 := eq_true q101
    go_wp2_with (first | ((with_reducible refine gate_callee (f := 111) rfl ?_); refine goesL_ (some 23) rfl rfl Try.func111 (by kernel_rfl) rfl #[.slice A101_0 (rd_LLTerm l0 x5_1).length c101_0, .int .i64 x1_1] rfl az ?_; (with_reducible refine (laws_szTermS.calls _ _ (rd_LLTerm l0 x5_1) x1_1 t102 _ ?side1 HC101_0.out A6.out).mono ?_); (case side1 => exact cz0 HR101_0); rintro e w' ⟨rfl, ⟨nd, rfl⟩⟩; refine ⟨_, rfl, ?_⟩))
    go_ret
    exact ⟨by first | rfl | (simp; done) | (simp [*]; done), by repeat (first | exact Drawn0.refl _ | apply Drawn0.step)⟩
   rw [if_neg c7] at H
   have c7b0 : decide (t102 < 0) = false := decide_eq_false c7
   clear c7
   have H' := Aside0.mk H
   clear H
   have p101 : 0 ≤ (x5_1 : Int) := dz
   have q101 : x5_1 < (l0.length : Int) := dz
   obtain ⟨ad101, A101_0, c101_0, e101, hx101_0, hl101_0, hi101_0⟩ := at_LLTerm HR0.out x5_1 p101 q101
   cases e101
   have HR101_0 := Aside0.mk hi101_0
   have HC101_0 := Aside0.mk hl101_0
   clear hi101_0 hl101_0
   replace p101 := eq_true p101
   replace q101 := eq_true q101
   go_wp2_with (first | ((with_reducible refine gate_callee (f := 111) rfl ?_); refine goesL_ (some 23) rfl rfl Try.func111 (by kernel_rfl) rfl #[.slice A101_0 (rd_LLTerm l0 x5_1).length c101_0, .int .i64 x1_1] rfl az ?_; (with_reducible refine (laws_szTermS.calls _ _ (rd_LLTerm l0 x5_1) x1_1 t102 _ ?side1 HC101_0.out A6.out).mono ?_); (case side1 => exact cz0 HR101_0); rintro e w' ⟨rfl, ⟨nd, rfl⟩⟩; refine ⟨_, rfl, ?_⟩))
   go_roundg k1
   case measure => have := HK1.out; omega
   case rel => exact ⟨(t102), (wrap64 (x5_1 + 1)), rq, rq, H', ⟨by have := HK1.out; omega⟩, by repeat (first | exact Drawn0.refl _ | apply Drawn0.step)⟩
end Go.Proofs.Ytoofhjflfpccdaa.PA
end
section
namespace Go.Proofs.Ytoofhjflfpccdaa.PA
open Go.RowKit Go.Proofs.YtoofhjflfpccdaaW.PrintWords Go.Proofs.YtoofhjflfpccdaaW.PrintLast Go.Proofs.YtoofhjflfpccdaaW.PrintMore
attribute [local go_sem] max2_int min2_int max_two min_two max_three min_three max_four min_four   -- for this text's walks alone
set_option linter.unusedVariables false
set_option linter.unusedSimpArgs false
set_option maxHeartbeats 8000000 in
set_option maxRecDepth 100000 in
theorem laws_szRule.calls (k : Nat) (A0_0 : Option Addr) (c0_0 : Nat) (l0_0 : List (LTerm)) (A0_1 : Option Addr) (c0_1 : Nat) (l0_1 : List Int) (A0_2 : Option Addr) (c0_2 : Nat) (l0_2 : List (List (LTerm))) (a1 : Int) (r : Int) (w : World) (hr0_0 : Kd.C k112 w A0_0 l0_0.length l0_0) (hc0_0 : l0_0.length ≤ c0_0) (hr0_1 : Kd.C (Kd.int .i64) w A0_1 l0_1.length l0_1) (hc0_1 : l0_1.length ≤ c0_1) (hr0_2 : Kd.C (Kd.slice 112 k112) w A0_2 l0_2.length l0_2) (hc0_2 : l0_2.length ≤ c0_2) (h : laws_szRule.f k l0_0 l0_1 l0_2 a1 = some r) :
  Calls Try.prog 85 #[.agg #[.slice A0_0 l0_0.length c0_0, .slice A0_1 l0_1.length c0_1, .slice A0_2 l0_2.length c0_2], .int .i64 a1] w fun e w' => e = .returned (.int .i64 r) ∧ Below w.heap.size w w' := by
 have hu75 := Try.underlying75
 have HR0_0 := Aside0.mk hr0_0
 have HC0_0 := Aside0.mk hc0_0
 clear hr0_0 hc0_0
 have HR0_1 := Aside0.mk hr0_1
 have HC0_1 := Aside0.mk hc0_1
 clear hr0_1 hc0_1
 have HR0_2 := Aside0.mk hr0_2
 have HC0_2 := Aside0.mk hc0_2
 clear hr0_2 hc0_2
 have HB := Aside0.mk (Below.refl w.heap.size w)
 have H : ((laws_szTermS.f l0_0 a1).bind fun t104 => (if t104 < 0 then (some (-1)) else ((laws_szIntS.f l0_1 t104).bind fun t105 => (if t105 < 0 then (some (-1)) else ((laws_szTermSS.f k l0_2 t105).bind fun t106 => (if t106 < 0 then (some (-1)) else (some t106))))))) = some r := h
 clear h
 replace H := Option.bind_eq_some_iff.mp H
 obtain ⟨t104, A30, H⟩ := H
 have A3 := Aside0.mk A30
 clear A30
 by_cases c4 : t104 < 0
 case pos =>
  rw [if_pos c4] at H
  have c4b0 : decide (t104 < 0) = true := decide_eq_true c4
  clear c4
  obtain rfl := Option.some.inj H
  go_enter Try.func85, Try.ntmps85
  go_wp2_with (first | ((with_reducible refine gate_dst (N := 2) rfl ?_); refine box_event ?hg (N := 2) ?hd (cs := #[.slice A0_0 l0_0.length c0_0, .slice A0_1 l0_1.length c0_1, .slice A0_2 l0_2.length c0_2]) (t := 75) ?hr ?_; (case hd => rfl); (case hg => rfl); (case hr => first | (go_simp; done) | (go_simp; rfl)); intro gb103 hg w5 hbox hb; have n0_ := Aside0.mk (below_step (bz HB) hb); have n1_ := Aside0.mk (hbox); have n2_ := Aside0.mk ((by rw [hg]; exact (below_size (bz HB)) : w.heap.size ≤ gb103)); have n3_ := Aside0.mk ((by rw [hg]; exact (below_size (bz HB)) : w.heap.size ≤ gb103)); clear HB; have HB := n0_; have BK103 := n1_; have GW103 := n2_; have GE103 := n3_; clear n0_ n1_ n2_ n3_; clear hb hbox hg; have hcz6_0 : w5.cell? ⟨gb103, 0, none⟩ = some (.slice A0_0 l0_0.length c0_0) := (blk_cell BK103.out 0).trans rfl; have hcz6_1 : w5.cell? ⟨gb103, 1, none⟩ = some (.slice A0_1 l0_1.length c0_1) := (blk_cell BK103.out 1).trans rfl; have hcz6_2 : w5.cell? ⟨gb103, 2, none⟩ = some (.slice A0_2 l0_2.length c0_2) := (blk_cell BK103.out 2).trans rfl; have hfz6_0 := blk_frozen BK103.out 0; have hfz6_1 := blk_frozen BK103.out 1; have hfz6_2 := blk_frozen BK103.out 2) | ((with_reducible refine gate_callee (f := 111) rfl ?_); refine goesL_ (some 8) rfl rfl Try.func111 (by kernel_rfl) rfl #[.slice A0_0 l0_0.length c0_0, .int .i64 a1] rfl az ?_; (with_reducible refine (laws_szTermS.calls _ _ l0_0 a1 t104 _ ?side1 HC0_0.out A3.out).mono ?_); (case side1 => exact cz HR0_0 HB); rintro e w' ⟨rfl, ⟨nd, rfl⟩⟩; refine ⟨_, rfl, ?_⟩))
  go_ret
  exact ⟨rz, bz1 HB GE103⟩
 rw [if_neg c4] at H
 have c4b0 : decide (t104 < 0) = false := decide_eq_false c4
 clear c4
 replace H := Option.bind_eq_some_iff.mp H
 obtain ⟨t105, A70, H⟩ := H
 have A7 := Aside0.mk A70
 clear A70
 by_cases c8 : t105 < 0
 case pos =>
  rw [if_pos c8] at H
  have c8b0 : decide (t105 < 0) = true := decide_eq_true c8
  clear c8
  obtain rfl := Option.some.inj H
  go_enter Try.func85, Try.ntmps85
  go_wp2_with (first | ((with_reducible refine gate_dst (N := 2) rfl ?_); refine box_event ?hg (N := 2) ?hd (cs := #[.slice A0_0 l0_0.length c0_0, .slice A0_1 l0_1.length c0_1, .slice A0_2 l0_2.length c0_2]) (t := 75) ?hr ?_; (case hd => rfl); (case hg => rfl); (case hr => first | (go_simp; done) | (go_simp; rfl)); intro gb103 hg w9 hbox hb; have n0_ := Aside0.mk (below_step (bz HB) hb); have n1_ := Aside0.mk (hbox); have n2_ := Aside0.mk ((by rw [hg]; exact (below_size (bz HB)) : w.heap.size ≤ gb103)); have n3_ := Aside0.mk ((by rw [hg]; exact (below_size (bz HB)) : w.heap.size ≤ gb103)); clear HB; have HB := n0_; have BK103 := n1_; have GW103 := n2_; have GE103 := n3_; clear n0_ n1_ n2_ n3_; clear hb hbox hg; have hcz10_0 : w9.cell? ⟨gb103, 0, none⟩ = some (.slice A0_0 l0_0.length c0_0) := (blk_cell BK103.out 0).trans rfl; have hcz10_1 : w9.cell? ⟨gb103, 1, none⟩ = some (.slice A0_1 l0_1.length c0_1) := (blk_cell BK103.out 1).trans rfl; have hcz10_2 : w9.cell? ⟨gb103, 2, none⟩ = some (.slice A0_2 l0_2.length c0_2) := (blk_cell BK103.out 2).trans rfl; have hfz10_0 := blk_frozen BK103.out 0; have hfz10_1 := blk_frozen BK103.out 1; have hfz10_2 := blk_frozen BK103.out 2) | ((with_reducible refine gate_callee (f := 111) rfl ?_); refine goesL_ (some 8) rfl rfl Try.func111 (by kernel_rfl) rfl #[.slice A0_0 l0_0.length c0_0, .int .i64 a1] rfl az ?_; (with_reducible refine (laws_szTermS.calls _ _ l0_0 a1 t104 _ ?side1 HC0_0.out A3.out).mono ?_); (case side1 => exact cz HR0_0 HB); rintro e w' ⟨rfl, ⟨nd, rfl⟩⟩; refine ⟨_, rfl, ?_⟩) | ((with_reducible refine gate_callee (f := 112) rfl ?_); refine goesL_ (some 14) rfl rfl Try.func112 (by kernel_rfl) rfl #[.slice A0_1 l0_1.length c0_1, .int .i64 t104] rfl az ?_; (with_reducible refine (laws_szIntS.calls _ _ l0_1 t104 t105 _ ?side1 HC0_1.out A7.out).mono ?_); (case side1 => repeat (first | exact (Kd.C_below HR0_1.out (bz1 HB GE103)) | (with_reducible refine Kd.C_alloc ?_ _) | (with_reducible refine Kd.C_drewN ?_ _) | (with_reducible refine Kd.C_drew ?_))); rintro e w' ⟨rfl, ⟨nd, rfl⟩⟩; refine ⟨_, rfl, ?_⟩))
  go_ret
  exact ⟨rz, bz1 HB GE103⟩
 rw [if_neg c8] at H
 have c8b0 : decide (t105 < 0) = false := decide_eq_false c8
 clear c8
 replace H := Option.bind_eq_some_iff.mp H
 obtain ⟨t106, A110, H⟩ := H
 have A11 := Aside0.mk A110
 clear A110
 by_cases c12 : t106 < 0
 case pos =>
  rw [if_pos c12] at H
  have c12b0 : decide (t106 < 0) = true := decide_eq_true c12
  clear c12
  obtain rfl := Option.some.inj H
  go_enter Try.func85, Try.ntmps85
  go_wp2_with (first | ((with_reducible refine gate_dst (N := 2) rfl ?_); refine box_event ?hg (N := 2) ?hd (cs := #[.slice A0_0 l0_0.length c0_0, .slice A0_1 l0_1.length c0_1, .slice A0_2 l0_2.length c0_2]) (t := 75) ?hr ?_; (case hd => rfl); (case hg => rfl); (case hr => first | (go_simp; done) | (go_simp; rfl)); intro gb103 hg w13 hbox hb; have n0_ := Aside0.mk (below_step (bz HB) hb); have n1_ := Aside0.mk (hbox); have n2_ := Aside0.mk ((by rw [hg]; exact (below_size (bz HB)) : w.heap.size ≤ gb103)); have n3_ := Aside0.mk ((by rw [hg]; exact (below_size (bz HB)) : w.heap.size ≤ gb103)); clear HB; have HB := n0_; have BK103 := n1_; have GW103 := n2_; have GE103 := n3_; clear n0_ n1_ n2_ n3_; clear hb hbox hg; have hcz14_0 : w13.cell? ⟨gb103, 0, none⟩ = some (.slice A0_0 l0_0.length c0_0) := (blk_cell BK103.out 0).trans rfl; have hcz14_1 : w13.cell? ⟨gb103, 1, none⟩ = some (.slice A0_1 l0_1.length c0_1) := (blk_cell BK103.out 1).trans rfl; have hcz14_2 : w13.cell? ⟨gb103, 2, none⟩ = some (.slice A0_2 l0_2.length c0_2) := (blk_cell BK103.out 2).trans rfl; have hfz14_0 := blk_frozen BK103.out 0; have hfz14_1 := blk_frozen BK103.out 1; have hfz14_2 := blk_frozen BK103.out 2) | ((with_reducible refine gate_callee (f := 111) rfl ?_); refine goesL_ (some 8) rfl rfl Try.func111 (by kernel_rfl) rfl #[.slice A0_0 l0_0.length c0_0, .int .i64 a1] rfl az ?_; (with_reducible refine (laws_szTermS.calls _ _ l0_0 a1 t104 _ ?side1 HC0_0.out A3.out).mono ?_); (case side1 => exact cz HR0_0 HB); rintro e w' ⟨rfl, ⟨nd, rfl⟩⟩; refine ⟨_, rfl, ?_⟩) | ((with_reducible refine gate_callee (f := 112) rfl ?_); refine goesL_ (some 14) rfl rfl Try.func112 (by kernel_rfl) rfl #[.slice A0_1 l0_1.length c0_1, .int .i64 t104] rfl az ?_; (with_reducible refine (laws_szIntS.calls _ _ l0_1 t104 t105 _ ?side1 HC0_1.out A7.out).mono ?_); (case side1 => repeat (first | exact (Kd.C_below HR0_1.out (bz1 HB GE103)) | (with_reducible refine Kd.C_alloc ?_ _) | (with_reducible refine Kd.C_drewN ?_ _) | (with_reducible refine Kd.C_drew ?_))); rintro e w' ⟨rfl, ⟨nd, rfl⟩⟩; refine ⟨_, rfl, ?_⟩) | ((with_reducible refine gate_callee (f := 113) rfl ?_); refine goesL_ (some 20) rfl rfl Try.func113 (by kernel_rfl) rfl #[.slice A0_2 l0_2.length c0_2, .int .i64 t105] rfl az ?_; (with_reducible refine (laws_szTermSS.calls k _ _ l0_2 t105 t106 _ ?side1 HC0_2.out A11.out).mono ?_); (case side1 => repeat (first | exact (Kd.C_below HR0_2.out (bz1 HB GE103)) | (with_reducible refine Kd.C_alloc ?_ _) | (with_reducible refine Kd.C_drewN ?_ _) | (with_reducible refine Kd.C_drew ?_))); rintro e w' ⟨rfl, ⟨nd, rfl⟩⟩; refine ⟨_, rfl, ?_⟩))
  go_ret
  exact ⟨rz, bz1 HB GE103⟩
 rw [if_neg c12] at H
 have c12b0 : decide (t106 < 0) = false := decide_eq_false c12
 clear c12
 obtain rfl := Option.some.inj H
 go_enter Try.func85, Try.ntmps85
 go_wp2_with (first | ((with_reducible refine gate_dst (N := 2) rfl ?_); refine box_event ?hg (N := 2) ?hd (cs := #[.slice A0_0 l0_0.length c0_0, .slice A0_1 l0_1.length c0_1, .slice A0_2 l0_2.length c0_2]) (t := 75) ?hr ?_; (case hd => rfl); (case hg => rfl); (case hr => first | (go_simp; done) | (go_simp; rfl)); intro gb103 hg w15 hbox hb; have n0_ := Aside0.mk (below_step (bz HB) hb); have n1_ := Aside0.mk (hbox); have n2_ := Aside0.mk ((by rw [hg]; exact (below_size (bz HB)) : w.heap.size ≤ gb103)); have n3_ := Aside0.mk ((by rw [hg]; exact (below_size (bz HB)) : w.heap.size ≤ gb103)); clear HB; have HB := n0_; have BK103 := n1_; have GW103 := n2_; have GE103 := n3_; clear n0_ n1_ n2_ n3_; clear hb hbox hg; have hcz16_0 : w15.cell? ⟨gb103, 0, none⟩ = some (.slice A0_0 l0_0.length c0_0) := (blk_cell BK103.out 0).trans rfl; have hcz16_1 : w15.cell? ⟨gb103, 1, none⟩ = some (.slice A0_1 l0_1.length c0_1) := (blk_cell BK103.out 1).trans rfl; have hcz16_2 : w15.cell? ⟨gb103, 2, none⟩ = some (.slice A0_2 l0_2.length c0_2) := (blk_cell BK103.out 2).trans rfl; have hfz16_0 := blk_frozen BK103.out 0; have hfz16_1 := blk_frozen BK103.out 1; have hfz16_2 := blk_frozen BK103.out 2) | ((with_reducible refine gate_callee (f := 111) rfl ?_); refine goesL_ (some 8) rfl rfl Try.func111 (by kernel_rfl) rfl #[.slice A0_0 l0_0.length c0_0, .int .i64 a1] rfl az ?_; (with_reducible refine (laws_szTermS.calls _ _ l0_0 a1 t104 _ ?side1 HC0_0.out A3.out).mono ?_); (case side1 => exact cz HR0_0 HB); rintro e w' ⟨rfl, ⟨nd, rfl⟩⟩; refine ⟨_, rfl, ?_⟩) | ((with_reducible refine gate_callee (f := 112) rfl ?_); refine goesL_ (some 14) rfl rfl Try.func112 (by kernel_rfl) rfl #[.slice A0_1 l0_1.length c0_1, .int .i64 t104] rfl az ?_; (with_reducible refine (laws_szIntS.calls _ _ l0_1 t104 t105 _ ?side1 HC0_1.out A7.out).mono ?_); (case side1 => repeat (first | exact (Kd.C_below HR0_1.out (bz1 HB GE103)) | (with_reducible refine Kd.C_alloc ?_ _) | (with_reducible refine Kd.C_drewN ?_ _) | (with_reducible refine Kd.C_drew ?_))); rintro e w' ⟨rfl, ⟨nd, rfl⟩⟩; refine ⟨_, rfl, ?_⟩) | ((with_reducible refine gate_callee (f := 113) rfl ?_); refine goesL_ (some 20) rfl rfl Try.func113 (by kernel_rfl) rfl #[.slice A0_2 l0_2.length c0_2, .int .i64 t105] rfl az ?_; (with_reducible refine (laws_szTermSS.calls k _ _ l0_2 t105 t106 _ ?side1 HC0_2.out A11.out).mono ?_); (case side1 => repeat (first | exact (Kd.C_below HR0_2.out (bz1 HB GE103)) | (with_reducible refine Kd.C_alloc ?_ _) | (with_reducible refine Kd.C_drewN ?_ _) | (with_reducible refine Kd.C_drew ?_))); rintro e w' ⟨rfl, ⟨nd, rfl⟩⟩; refine ⟨_, rfl, ?_⟩))
 go_ret
 exact ⟨rz, bz1 HB GE103⟩
end Go.Proofs.Ytoofhjflfpccdaa.PA
end
section
namespace Go.Proofs.Ytoofhjflfpccdaa.PA
open Go.RowKit Go.Proofs.YtoofhjflfpccdaaW.PrintWords Go.Proofs.YtoofhjflfpccdaaW.PrintLast Go.Proofs.YtoofhjflfpccdaaW.PrintMore
attribute [local go_sem] max2_int min2_int max_two min_two max_three min_three max_four min_four   -- for this text's walks alone
set_option linter.unusedVariables false
set_option linter.unusedSimpArgs false
set_option maxHeartbeats 8000000 in
set_option maxRecDepth 100000 in
theorem laws_szRuleS.calls (k : Nat) (A0 : Option Addr) (c0 : Nat) (l0 : List (LRule)) (a1 : Int) (r : Int) (w : World) (hr0 : Kd.C k75 w A0 l0.length l0) (hc0 : l0.length ≤ c0) (h : laws_szRuleS.f k l0 a1 = some r) :
  Calls Try.prog 48 #[.slice A0 l0.length c0, .int .i64 a1] w fun e w' => e = .returned (.int .i64 r) ∧ Below w.heap.size w w' := by
 have hu75 := Try.underlying75
 have HR0 := Aside0.mk hr0
 have HC0 := Aside0.mk hc0
 clear hr0 hc0
 have HB := Aside0.mk (Below.refl w.heap.size w)
 have H : (if (wrap64 (a1 - (l0.length : Int))) < 0 then (some (-1)) else (laws_szRuleS.l0 k l0 (wrap64 (a1 - (l0.length : Int))) 0)) = some r := h
 clear h
 by_cases c3 : (wrap64 (a1 - (l0.length : Int))) < 0
 case pos =>
  rw [if_pos c3] at H
  have c3b0 : decide ((wrap64 (a1 - (l0.length : Int))) < 0) = true := decide_eq_true c3
  clear c3
  obtain rfl := Option.some.inj H
  go_enter Try.func48, Try.ntmps48
  go_wp2
  go_ret
  exact ⟨rz, bz HB⟩
 rw [if_neg c3] at H
 have c3b0 : decide ((wrap64 (a1 - (l0.length : Int))) < 0) = false := decide_eq_false c3
 clear c3
 have H' := Aside0.mk H
 clear H
 go_enter Try.func48, Try.ntmps48
 go_wp2
 go_loopg [1, 5] k (fun kq v1 v5 w' => ∃ (x1_1 : Int) (x5_1 : Int), v1 = .int .i64 x1_1 ∧ v5 = .int .i64 x5_1 ∧ Aside0 (laws_szRuleS.l0 kq l0 x1_1 x5_1 = some r) ∧ Aside0 (kq ≤ k) ∧ Aside0 (Below w.heap.size w w'))
 case atStart => exact ⟨(wrap64 (a1 - (l0.length : Int))), (0), rq, rq, H', ⟨Nat.le_refl _⟩, ⟨bz HB⟩⟩
 case round =>
  clear H'
  try clear p2
  try clear c3
  try clear c3b0
  obtain ⟨x1_1, x5_1, rfl, rfl, HA, HK1, HB⟩ := hrel
  cases gk with
  | zero => exact absurd HA.out (by simp [laws_szRuleS.l0])
  | succ k1 =>
   have H := HA.out
   clear HA
   simp only [laws_szRuleS.l0] at H
   by_cases c4 : x5_1 < (l0.length : Int)
   case neg =>
    rw [if_neg c4] at H
    have c4b0 : decide (x5_1 < (l0.length : Int)) = false := decide_eq_false c4
    clear c4
    obtain rfl := Option.some.inj H
    go_wp2
    go_ret
    exact ⟨rz, bz HB⟩
   rw [if_pos c4] at H
   have c4b0 : decide (x5_1 < (l0.length : Int)) = true := decide_eq_true c4
   clear c4
   by_cases c5 : 0 ≤ x5_1
   case neg =>
    rw [if_neg c5] at H
    exact absurd H (by simp)
   rw [if_pos c5] at H
   have c5b0 : decide (0 ≤ x5_1) = true := decide_eq_true c5
   clear c5
   replace H := Option.bind_eq_some_iff.mp H
   obtain ⟨t108, A60, H⟩ := H
   have A6 := Aside0.mk A60
   clear A60
   by_cases c7 : t108 < 0
   case pos =>
    rw [if_pos c7] at H
    have c7b0 : decide (t108 < 0) = true := decide_eq_true c7
    clear c7
    obtain rfl := Option.some.inj H
    have p107 : 0 ≤ (x5_1 : Int) := dz
    have q107 : x5_1 < (l0.length : Int) := dz
    obtain ⟨ad107, A107_0, c107_0, A107_1, c107_1, A107_2, c107_2, e107, hx107_0, hx107_1, hx107_2, hl107_0, hi107_0, hl107_1, hi107_1, hl107_2, hi107_2⟩ := at_LRule HR0.out x5_1 p107 q107
    cases e107
    replace hx107_0 := xz HB hx107_0
    replace hx107_1 := xz HB hx107_1
    replace hx107_2 := xz HB hx107_2
    have HR107_0 := Aside0.mk hi107_0
    have HC107_0 := Aside0.mk hl107_0
    clear hi107_0 hl107_0
    have HR107_1 := Aside0.mk hi107_1
    have HC107_1 := Aside0.mk hl107_1
    clear hi107_1 hl107_1
    have HR107_2 := Aside0.mk hi107_2
    have HC107_2 := Aside0.mk hl107_2
    clear hi107_2 hl107_2
    replace p107 := eq_true p107
    replace q107 := eq_true q107
    go_wp2_with (first | ((with_reducible refine gate_callee (f := 85) rfl ?_); refine goesL_ (some 23) rfl rfl Try.func85 (by kernel_rfl) rfl #[.agg #[.slice A107_0 ((rd_LRule l0 x5_1).f0).length c107_0, .slice A107_1 ((rd_LRule l0 x5_1).f1).length c107_1, .slice A107_2 ((rd_LRule l0 x5_1).f2).length c107_2], .int .i64 x1_1] rfl az ?_; (with_reducible refine (laws_szRule.calls k1 _ _ ((rd_LRule l0 x5_1).f0) _ _ ((rd_LRule l0 x5_1).f1) _ _ ((rd_LRule l0 x5_1).f2) x1_1 t108 _ ?side1 HC107_0.out ?side3 HC107_1.out ?side5 HC107_2.out A6.out).mono ?_); (case side1 => exact cz HR107_0 HB); (case side3 => exact cz HR107_1 HB); (case side5 => exact cz HR107_2 HB); rintro e w8 ⟨rfl, hb⟩; refine ⟨_, rfl, ?_⟩; replace HB := Aside0.mk (below_step (bz HB) hb); clear hb))
    go_ret
    exact ⟨rz, bz HB⟩
   rw [if_neg c7] at H
   have c7b0 : decide (t108 < 0) = false := decide_eq_false c7
   clear c7
   have H' := Aside0.mk H
   clear H
   have p107 : 0 ≤ (x5_1 : Int) := dz
   have q107 : x5_1 < (l0.length : Int) := dz
   obtain ⟨ad107, A107_0, c107_0, A107_1, c107_1, A107_2, c107_2, e107, hx107_0, hx107_1, hx107_2, hl107_0, hi107_0, hl107_1, hi107_1, hl107_2, hi107_2⟩ := at_LRule HR0.out x5_1 p107 q107
   cases e107
   replace hx107_0 := xz HB hx107_0
   replace hx107_1 := xz HB hx107_1
   replace hx107_2 := xz HB hx107_2
   have HR107_0 := Aside0.mk hi107_0
   have HC107_0 := Aside0.mk hl107_0
   clear hi107_0 hl107_0
   have HR107_1 := Aside0.mk hi107_1
   have HC107_1 := Aside0.mk hl107_1
   clear hi107_1 hl107_1
   have HR107_2 := Aside0.mk hi107_2
   have HC107_2 := Aside0.mk hl107_2
   clear hi107_2 hl107_2
   replace p107 := eq_true p107
   replace q107 := eq_true q107
   go_wp2_with (first | ((with_reducible refine gate_callee (f := 85) rfl ?_); refine goesL_ (some 23) rfl rfl Try.func85 (by kernel_rfl) rfl #[.agg #[.slice A107_0 ((rd_LRule l0 x5_1).f0).length c107_0, .slice A107_1 ((rd_LRule l0 x5_1).f1).length c107_1, .slice A107_2 ((rd_LRule l0 x5_1).f2).length c107_2], .int .i64 x1_1] rfl az ?_; (with_reducible refine (laws_szRule.calls k1 _ _ ((rd_LRule l0 x5_1).f0) _ _ ((rd_LRule l0 x5_1).f1) _ _ ((rd_LRule l0 x5_1).f2) x1_1 t108 _ ?side1 HC107_0.out ?side3 HC107_1.out ?side5 HC107_2.out A6.out).mono ?_); (case side1 => exact cz HR107_0 HB); (case side3 => exact cz HR107_1 HB); (case side5 => exact cz HR107_2 HB); rintro e w9 ⟨rfl, hb⟩; refine ⟨_, rfl, ?_⟩; replace HB := Aside0.mk (below_step (bz HB) hb); clear hb))
   go_roundg k1
   case measure => have := HK1.out; omega
   case rel => exact ⟨(t108), (wrap64 (x5_1 + 1)), rq, rq, H', ⟨by have := HK1.out; omega⟩, ⟨bz HB⟩⟩
end Go.Proofs.Ytoofhjflfpccdaa.PA
end
section
namespace Go.Proofs.Ytoofhjflfpccdaa.PA
open Go.RowKit Go.Proofs.YtoofhjflfpccdaaW.PrintWords Go.Proofs.YtoofhjflfpccdaaW.PrintLast Go.Proofs.YtoofhjflfpccdaaW.PrintMore
attribute [local go_sem] max2_int min2_int max_two min_two max_three min_three max_four min_four   -- for this text's walks alone
set_option linter.unusedVariables false
set_option linter.unusedSimpArgs false
set_option maxHeartbeats 8000000 in
set_option maxRecDepth 100000 in
theorem laws_szSystem.calls (k : Nat) (A0_0 : Option Addr) (c0_0 : Nat) (l0_0 : List (LVar)) (A0_1 : Option Addr) (c0_1 : Nat) (l0_1 : List (LRule)) (a1 : Int) (r : Int) (w : World) (hr0_0 : Kd.C k84 w A0_0 l0_0.length l0_0) (hc0_0 : l0_0.length ≤ c0_0) (hr0_1 : Kd.C k75 w A0_1 l0_1.length l0_1) (hc0_1 : l0_1.length ≤ c0_1) (h : laws_szSystem.f k l0_0 l0_1 a1 = some r) :
  Calls Try.prog 15 #[.agg #[.slice A0_0 l0_0.length c0_0, .slice A0_1 l0_1.length c0_1], .int .i64 a1] w fun e w' => e = .returned (.int .i64 r) ∧ Below w.heap.size w w' := by
 have hu25 := Try.underlying25
 have HR0_0 := Aside0.mk hr0_0
 have HC0_0 := Aside0.mk hc0_0
 clear hr0_0 hc0_0
 have HR0_1 := Aside0.mk hr0_1
 have HC0_1 := Aside0.mk hc0_1
 clear hr0_1 hc0_1
 have HB := Aside0.mk (Below.refl w.heap.size w)
 have H : ((laws_szVarS.f l0_0 a1).bind fun t110 => (if t110 < 0 then (some (-1)) else ((laws_szRuleS.f k l0_1 t110).bind fun t111 => (if t111 < 0 then (some (-1)) else (some t111))))) = some r := h
 clear h
 replace H := Option.bind_eq_some_iff.mp H
 obtain ⟨t110, A30, H⟩ := H
 have A3 := Aside0.mk A30
 clear A30
 by_cases c4 : t110 < 0
 case pos =>
  rw [if_pos c4] at H
  have c4b0 : decide (t110 < 0) = true := decide_eq_true c4
  clear c4
  obtain rfl := Option.some.inj H
  go_enter Try.func15, Try.ntmps15
  go_wp2_with (first | ((with_reducible refine gate_dst (N := 2) rfl ?_); refine box_event ?hg (N := 2) ?hd (cs := #[.slice A0_0 l0_0.length c0_0, .slice A0_1 l0_1.length c0_1]) (t := 25) ?hr ?_; (case hd => rfl); (case hg => rfl); (case hr => first | (go_simp; done) | (go_simp; rfl)); intro gb109 hg w5 hbox hb; have n0_ := Aside0.mk (below_step (bz HB) hb); have n1_ := Aside0.mk (hbox); have n2_ := Aside0.mk ((by rw [hg]; exact (below_size (bz HB)) : w.heap.size ≤ gb109)); have n3_ := Aside0.mk ((by rw [hg]; exact (below_size (bz HB)) : w.heap.size ≤ gb109)); clear HB; have HB := n0_; have BK109 := n1_; have GW109 := n2_; have GE109 := n3_; clear n0_ n1_ n2_ n3_; clear hb hbox hg; have hcz6_0 : w5.cell? ⟨gb109, 0, none⟩ = some (.slice A0_0 l0_0.length c0_0) := (blk_cell BK109.out 0).trans rfl; have hcz6_1 : w5.cell? ⟨gb109, 1, none⟩ = some (.slice A0_1 l0_1.length c0_1) := (blk_cell BK109.out 1).trans rfl; have hfz6_0 := blk_frozen BK109.out 0; have hfz6_1 := blk_frozen BK109.out 1) | ((with_reducible refine gate_callee (f := 47) rfl ?_); refine goesL_ (some 8) rfl rfl Try.func47 (by kernel_rfl) rfl #[.slice A0_0 l0_0.length c0_0, .int .i64 a1] rfl az ?_; (with_reducible refine (laws_szVarS.calls _ _ l0_0 a1 t110 _ ?side1 HC0_0.out A3.out).mono ?_); (case side1 => exact cz HR0_0 HB); rintro e w' ⟨rfl, ⟨nd, rfl⟩⟩; refine ⟨_, rfl, ?_⟩))
  go_ret
  exact ⟨rz, bz1 HB GE109⟩
 rw [if_neg c4] at H
 have c4b0 : decide (t110 < 0) = false := decide_eq_false c4
 clear c4
 replace H := Option.bind_eq_some_iff.mp H
 obtain ⟨t111, A70, H⟩ := H
 have A7 := Aside0.mk A70
 clear A70
 by_cases c8 : t111 < 0
 case pos =>
  rw [if_pos c8] at H
  have c8b0 : decide (t111 < 0) = true := decide_eq_true c8
  clear c8
  obtain rfl := Option.some.inj H
  go_enter Try.func15, Try.ntmps15
  go_wp2_with (first | ((with_reducible refine gate_dst (N := 2) rfl ?_); refine box_event ?hg (N := 2) ?hd (cs := #[.slice A0_0 l0_0.length c0_0, .slice A0_1 l0_1.length c0_1]) (t := 25) ?hr ?_; (case hd => rfl); (case hg => rfl); (case hr => first | (go_simp; done) | (go_simp; rfl)); intro gb109 hg w9 hbox hb; have n0_ := Aside0.mk (below_step (bz HB) hb); have n1_ := Aside0.mk (hbox); have n2_ := Aside0.mk ((by rw [hg]; exact (below_size (bz HB)) : w.heap.size ≤ gb109)); have n3_ := Aside0.mk ((by rw [hg]; exact (below_size (bz HB)) : w.heap.size ≤ gb109)); clear HB; have HB := n0_; have BK109 := n1_; have GW109 := n2_; have GE109 := n3_; clear n0_ n1_ n2_ n3_; clear hb hbox hg; have hcz10_0 : w9.cell? ⟨gb109, 0, none⟩ = some (.slice A0_0 l0_0.length c0_0) := (blk_cell BK109.out 0).trans rfl; have hcz10_1 : w9.cell? ⟨gb109, 1, none⟩ = some (.slice A0_1 l0_1.length c0_1) := (blk_cell BK109.out 1).trans rfl; have hfz10_0 := blk_frozen BK109.out 0; have hfz10_1 := blk_frozen BK109.out 1) | ((with_reducible refine gate_callee (f := 47) rfl ?_); refine goesL_ (some 8) rfl rfl Try.func47 (by kernel_rfl) rfl #[.slice A0_0 l0_0.length c0_0, .int .i64 a1] rfl az ?_; (with_reducible refine (laws_szVarS.calls _ _ l0_0 a1 t110 _ ?side1 HC0_0.out A3.out).mono ?_); (case side1 => exact cz HR0_0 HB); rintro e w' ⟨rfl, ⟨nd, rfl⟩⟩; refine ⟨_, rfl, ?_⟩) | ((with_reducible refine gate_callee (f := 48) rfl ?_); refine goesL_ (some 14) rfl rfl Try.func48 (by kernel_rfl) rfl #[.slice A0_1 l0_1.length c0_1, .int .i64 t110] rfl az ?_; (with_reducible refine (laws_szRuleS.calls k _ _ l0_1 t110 t111 _ ?side1 HC0_1.out A7.out).mono ?_); (case side1 => repeat (first | exact (Kd.C_below HR0_1.out (bz1 HB GE109)) | (with_reducible refine Kd.C_alloc ?_ _) | (with_reducible refine Kd.C_drewN ?_ _) | (with_reducible refine Kd.C_drew ?_))); rintro e w11 ⟨rfl, hb⟩; refine ⟨_, rfl, ?_⟩; replace BK109 := Aside0.mk (blk_below (g := gb109) (o := .cells #[.slice A0_0 l0_0.length c0_0, .slice A0_1 l0_1.length c0_1] 25 (0, 0)) (kz BK109) hb); replace HB := Aside0.mk (below_step (bz1 HB GE109) hb); clear hb))
  go_ret
  exact ⟨rz, bz1 HB GE109⟩
 rw [if_neg c8] at H
 have c8b0 : decide (t111 < 0) = false := decide_eq_false c8
 clear c8
 obtain rfl := Option.some.inj H
 go_enter Try.func15, Try.ntmps15
 go_wp2_with (first | ((with_reducible refine gate_dst (N := 2) rfl ?_); refine box_event ?hg (N := 2) ?hd (cs := #[.slice A0_0 l0_0.length c0_0, .slice A0_1 l0_1.length c0_1]) (t := 25) ?hr ?_; (case hd => rfl); (case hg => rfl); (case hr => first | (go_simp; done) | (go_simp; rfl)); intro gb109 hg w12 hbox hb; have n0_ := Aside0.mk (below_step (bz HB) hb); have n1_ := Aside0.mk (hbox); have n2_ := Aside0.mk ((by rw [hg]; exact (below_size (bz HB)) : w.heap.size ≤ gb109)); have n3_ := Aside0.mk ((by rw [hg]; exact (below_size (bz HB)) : w.heap.size ≤ gb109)); clear HB; have HB := n0_; have BK109 := n1_; have GW109 := n2_; have GE109 := n3_; clear n0_ n1_ n2_ n3_; clear hb hbox hg; have hcz13_0 : w12.cell? ⟨gb109, 0, none⟩ = some (.slice A0_0 l0_0.length c0_0) := (blk_cell BK109.out 0).trans rfl; have hcz13_1 : w12.cell? ⟨gb109, 1, none⟩ = some (.slice A0_1 l0_1.length c0_1) := (blk_cell BK109.out 1).trans rfl; have hfz13_0 := blk_frozen BK109.out 0; have hfz13_1 := blk_frozen BK109.out 1) | ((with_reducible refine gate_callee (f := 47) rfl ?_); refine goesL_ (some 8) rfl rfl Try.func47 (by kernel_rfl) rfl #[.slice A0_0 l0_0.length c0_0, .int .i64 a1] rfl az ?_; (with_reducible refine (laws_szVarS.calls _ _ l0_0 a1 t110 _ ?side1 HC0_0.out A3.out).mono ?_); (case side1 => exact cz HR0_0 HB); rintro e w' ⟨rfl, ⟨nd, rfl⟩⟩; refine ⟨_, rfl, ?_⟩) | ((with_reducible refine gate_callee (f := 48) rfl ?_); refine goesL_ (some 14) rfl rfl Try.func48 (by kernel_rfl) rfl #[.slice A0_1 l0_1.length c0_1, .int .i64 t110] rfl az ?_; (with_reducible refine (laws_szRuleS.calls k _ _ l0_1 t110 t111 _ ?side1 HC0_1.out A7.out).mono ?_); (case side1 => repeat (first | exact (Kd.C_below HR0_1.out (bz1 HB GE109)) | (with_reducible refine Kd.C_alloc ?_ _) | (with_reducible refine Kd.C_drewN ?_ _) | (with_reducible refine Kd.C_drew ?_))); rintro e w14 ⟨rfl, hb⟩; refine ⟨_, rfl, ?_⟩; replace BK109 := Aside0.mk (blk_below (g := gb109) (o := .cells #[.slice A0_0 l0_0.length c0_0, .slice A0_1 l0_1.length c0_1] 25 (0, 0)) (kz BK109) hb); replace HB := Aside0.mk (below_step (bz1 HB GE109) hb); clear hb))
 go_ret
 exact ⟨rz, bz1 HB GE109⟩
end Go.Proofs.Ytoofhjflfpccdaa.PA
end
section
namespace Go.Proofs.Ytoofhjflfpccdaa.PA
open Go.RowKit Go.Proofs.YtoofhjflfpccdaaW.PrintWords Go.Proofs.YtoofhjflfpccdaaW.PrintLast Go.Proofs.YtoofhjflfpccdaaW.PrintMore
attribute [local go_sem] max2_int min2_int max_two min_two max_three min_three max_four min_four   -- for this text's walks alone
set_option linter.unusedVariables false
set_option linter.unusedSimpArgs false
set_option maxHeartbeats 8000000 in
set_option maxRecDepth 100000 in
theorem laws_toIntS.calls (k : Nat) (A0 : Option Addr) (c0 : Nat) (l0 : List Int) (r : List Int) (w : World) (hr0 : Kd.C (Kd.int .i64) w A0 l0.length l0) (hc0 : l0.length ≤ c0) (h : laws_toIntS.f k l0 = some r) :
  Calls Try.prog 27 #[.slice A0 l0.length c0] w fun e w' => ∃ v0_ : Value, e = .returned (v0_) ∧ Kd.R (Kd.int .i64) 3 w' w.heap.size (fun _ => True) v0_ r ∧ Below w.heap.size w w' := by
 have HR0 := Aside0.mk hr0
 have HC0 := Aside0.mk hc0
 clear hr0 hc0
 have HB := Aside0.mk (Below.refl w.heap.size w)
 have H : (if 0 ≤ (l0.length : Int) then (if ((l0.length : Int) : Int).toNat ≤ 35184372088832 then (laws_toIntS.l0 k l0 (List.replicate ((l0.length : Int) : Int).toNat 0) 0) else (none)) else (none)) = some r := h
 clear h
 by_cases c2 : 0 ≤ (l0.length : Int)
 case neg =>
  rw [if_neg c2] at H
  exact absurd H (by simp)
 rw [if_pos c2] at H
 have c2b0 := eq_true c2
 have c2b1 : decide (0 ≤ (l0.length : Int)) = true := decide_eq_true c2
 clear c2
 by_cases c3 : ((l0.length : Int) : Int).toNat ≤ 35184372088832
 case neg =>
  rw [if_neg c3] at H
  exact absurd H (by simp)
 rw [if_pos c3] at H
 have c3b0 := eq_true c3
 have c3b1 : decide (((l0.length : Int) : Int).toNat ≤ 35184372088832) = true := decide_eq_true c3
 clear c3
 obtain ⟨y185, hy185⟩ : ∃ y_ : List Int, y_ = (List.replicate ((l0.length : Int) : Int).toNat 0) := ⟨_, rfl⟩
 replace H : (laws_toIntS.l0 k l0 y185 0) = some r := by first | (rw [hy185]; with_reducible exact H) | (have H2_ := (Option.bind_some _ _).symm.trans H; rw [hy185]; with_reducible exact H2_) | (have H2_ := (Option.bind_some _ _).symm.trans H; with_reducible exact H2_) | with_reducible exact H | (rw [hy185]; exact H) | exact H
 have Ny185 := Aside0.mk hy185
 clear hy185
 have H' := Aside0.mk H
 clear H
 go_enter Try.func27, Try.ntmps27
 go_wp2_with (first | ((with_reducible refine gate_dst (N := 7) rfl ?_); refine Kd.R_make (Kd.int .i64) _ 3 rfl (N := 7) rfl 35 _ _ rfl (l0.length : Int) rfl rfl Try.underlying35 (.int .i64 0) 8 info3 rfl (by decide) (by omega) 0 (ok := fun _ => True) (okp := fun _ => True) rfl (fun _ hk => hk) trivial (dz) (Nat.le_trans (Nat.mul_le_mul_right _ (dz : (l0.length : Int).toNat ≤ 35184372088832)) (by omega)) (Below.refl _ _) (Nat.le_refl _) ?_; intro v186 w4 ho5 hb hg_ hnew_; clear hg_ hnew_; (first | rw [← Ny185.out] at ho5 | (simp only [Int.reduceToNat] at ho5; rw [← Ny185.out] at ho5)); have HO187 := Aside0.mk (Kd.R_lower ho5 (below_size (bz HB))); replace HB := Aside0.mk (below_step (bz HB) hb); clear hb ho5))
 go_loopg [4] k (fun kq v4 w' => ∃ (x3_1 : List Int) (x4_1 : Int), v4 = .int .i64 x4_1 ∧ Aside0 (laws_toIntS.l0 kq l0 x3_1 x4_1 = some r) ∧ Aside0 (kq ≤ k) ∧ Aside0 (Kd.R (Kd.int .i64) 3 w' w.heap.size (fun _ => True) v186 x3_1) ∧ Aside0 (Below w.heap.size w w'))
 case atStart => exact ⟨(y185), (0), rq, H', ⟨Nat.le_refl _⟩, ⟨ozR HO187⟩, ⟨bz HB⟩⟩
 case round =>
  clear H'
  try clear c2
  try clear c2b0
  try clear c2b1
  try clear p2
  try clear c3
  try clear c3b0
  try clear c3b1
  obtain ⟨x3_1, x4_1, rfl, HA, HK1, HO_3, HB⟩ := hrel
  cases gk with
  | zero => exact absurd HA.out (by simp [laws_toIntS.l0])
  | succ k1 =>
   have H := HA.out
   clear HA
   simp only [laws_toIntS.l0] at H
   by_cases c6 : x4_1 < (l0.length : Int)
   case neg =>
    rw [if_neg c6] at H
    have c6b0 : decide (x4_1 < (l0.length : Int)) = false := decide_eq_false c6
    clear c6
    obtain rfl := Option.some.inj H
    go_wp2
    go_ret
    exact ⟨_, rz, ozR HO_3, bz HB⟩
   rw [if_pos c6] at H
   have c6b0 : decide (x4_1 < (l0.length : Int)) = true := decide_eq_true c6
   clear c6
   by_cases c7 : 0 ≤ x4_1
   case neg =>
    rw [if_neg c7] at H
    exact absurd H (by simp)
   rw [if_pos c7] at H
   have c7b0 : decide (0 ≤ x4_1) = true := decide_eq_true c7
   clear c7
   by_cases c8 : x4_1 < (x3_1.length : Int)
   case neg =>
    rw [if_neg c8] at H
    exact absurd H (by simp)
   rw [if_pos c8] at H
   have c8b0 : decide (x4_1 < (x3_1.length : Int)) = true := decide_eq_true c8
   clear c8
   obtain ⟨y189, hy189⟩ : ∃ y_ : List Int, y_ = (x3_1.set (x4_1 : Int).toNat (rd l0 x4_1)) := ⟨_, rfl⟩
   replace H : (laws_toIntS.l0 k1 l0 y189 (wrap64 (x4_1 + 1))) = some r := by first | (rw [hy189]; with_reducible exact H) | (have H2_ := (Option.bind_some _ _).symm.trans H; rw [hy189]; with_reducible exact H2_) | (have H2_ := (Option.bind_some _ _).symm.trans H; with_reducible exact H2_) | with_reducible exact H | (rw [hy189]; exact H) | exact H
   have Ny189 := Aside0.mk hy189
   clear hy189
   have H' := Aside0.mk H
   clear H
   have p188 : 0 ≤ (x4_1 : Int) := dz
   have q188 : x4_1 < (l0.length : Int) := dz
   obtain ⟨ad188, e188, hx188_0⟩ := Kd.at_int HR0.out x4_1 p188 q188
   cases e188
   replace hx188_0 := xz HB hx188_0
   replace p188 := eq_true p188
   replace q188 := eq_true q188
   have p9 : 0 ≤ (x4_1 : Int) := dz
   have q9 : (x4_1 : Int) < ((x3_1.length : Int) : Int) := dz
   obtain ⟨go9, co9, eo9, gb9, gl9, cl9, HG9⟩ := Kd.R_form HO_3.out (by omega)
   (first | cases eo9 | (injection eo9 with ea_ en_ ec_; (first | subst ea_ | (injection ea_ with ea_; subst ea_)); subst ec_; clear en_))
   have GB9 := Aside0.mk gb9
   have GG9 := Aside0.mk HG9
   clear gb9 gl9 HG9
   obtain ⟨hx9_0, hf9_0⟩ := Kd.R_celln 0 HO_3.out (x4_1 : Int) p9 q9
   replace p9 := eq_true p9
   replace q9 := eq_true q9
   have HP10 := Kd.R_putg HO_3.out (x4_1 : Int) (rd l0 x4_1)
   go_wp2_with (first | ((with_reducible refine gate_store (t := 3) (p := 20) rfl ?_); refine store_event (t := 3) (p := 20) (v := ?vo_w11) (w1 := (wr.setCell ⟨go9, (x4_1 : Int).toNat, none⟩ (.int .i64 (rd l0 x4_1)))) ?hg ?ho ?hn ?hr ?_; (case ho => rfl); (case hg => rfl); (case hn => rfl); (case hr => first | (go_simp; done) | (go_simp; rfl)); intro w11 hw; have hg : wr.grownBy w11 (some go9) := (by rw [hw]; exact HP10.2); have hp_ : Kd.R (Kd.int .i64) 3 w11 w.heap.size (fun _ => True) (.slice (some ⟨go9, 0, none⟩) x3_1.length co9) y189 := (by rw [hw, Ny189.out]; exact HP10.1); clear HP10; replace HO_3 := Aside0.mk (hp_); replace HB := Aside0.mk ((by rw [hw]; exact below_set (HB.out) GB9.out : Below w.heap.size w w11)); clear hg hw hp_))
   go_roundg k1
   case measure => have := HK1.out; omega
   case rel => exact ⟨(y189), (wrap64 (x4_1 + 1)), rq, H', ⟨by have := HK1.out; omega⟩, ⟨ozR HO_3⟩, ⟨bz HB⟩⟩
end Go.Proofs.Ytoofhjflfpccdaa.PA
end
section
namespace Go.Proofs.Ytoofhjflfpccdaa.PA
open Go.RowKit Go.Proofs.YtoofhjflfpccdaaW.PrintWords Go.Proofs.YtoofhjflfpccdaaW.PrintLast Go.Proofs.YtoofhjflfpccdaaW.PrintMore
attribute [local go_sem] max2_int min2_int max_two min_two max_three min_three max_four min_four   -- for this text's walks alone
set_option linter.unusedVariables false
set_option linter.unusedSimpArgs false
set_option maxHeartbeats 8000000 in
set_option maxRecDepth 100000 in
theorem laws_toVar.calls (a0_0 : Int) (a0_1 : Int) (a0_2 : Int) (r1 : Int) (r2 : Int) (r3 : Int) (w : World) (h : laws_toVar.f a0_0 a0_1 a0_2 = some (r1, r2, r3)) :
  Calls Try.prog 89 #[.agg #[.int .i64 a0_0, .int .i64 a0_1, .int .i64 a0_2]] w fun e w' => e = .returned (.agg #[.int .i64 r1, .int .i64 r2, .int .i64 r3]) ∧ Below w.heap.size w w' := by
 have hu84 := Try.underlying84
 have hu62 := Try.underlying62
 have HB := Aside0.mk (Below.refl w.heap.size w)
 have H : (some (a0_0, a0_1, a0_2)) = some (r1, r2, r3) := h
 clear h
 simp only [Option.some.injEq, Prod.mk.injEq] at H
 obtain ⟨rfl, rfl, rfl⟩ := H
 go_enter Try.func89, Try.ntmps89
 go_wp2_with (first | ((with_reducible refine gate_dst (N := 1) rfl ?_); refine box_event ?hg (N := 1) ?hd (cs := #[.int .i64 a0_0, .int .i64 a0_1, .int .i64 a0_2]) (t := 84) ?hr ?_; (case hd => rfl); (case hg => rfl); (case hr => first | (go_simp; done) | (go_simp; rfl)); intro gb174 hg w2 hbox hb; have n0_ := Aside0.mk (below_step (bz HB) hb); have n1_ := Aside0.mk (hbox); have n2_ := Aside0.mk ((by rw [hg]; exact (below_size (bz HB)) : w.heap.size ≤ gb174)); have n3_ := Aside0.mk ((by rw [hg]; exact (below_size (bz HB)) : w.heap.size ≤ gb174)); clear HB; have HB := n0_; have BK174 := n1_; have GW174 := n2_; have GE174 := n3_; clear n0_ n1_ n2_ n3_; clear hb hbox hg) | ((with_reducible refine gate_dst (N := 2) rfl ?_); refine box_event ?hg (N := 2) ?hd (cs := #[.int .i64 0, .int .i64 0, .int .i64 0]) (t := 62) ?hr ?_; (case hd => rfl); (case hg => rfl); (case hr => first | (go_simp; done) | (go_simp; rfl)); intro gb175 hg w3 hbox hb; have n0_ := Aside0.mk (blk_below (g := gb174) (o := .cells #[.int .i64 a0_0, .int .i64 a0_1, .int .i64 a0_2] 84 (0, 0)) (kz BK174) hb); have n1_ := Aside0.mk (below_step (bz1 HB GE174) hb); have n2_ := Aside0.mk (hbox); have n3_ := Aside0.mk ((by rw [hg]; exact (below_size (bz1 HB GE174)) : w.heap.size ≤ gb175)); have n4_ := Aside0.mk ((by rw [hg]; exact (below_size (bz1 HB GE174)) : w.heap.size ≤ gb175)); have n5_ := Aside0.mk ((by rw [hg]; exact Nat.ne_of_lt (blk_lt (g := gb174) (o := .cells #[.int .i64 a0_0, .int .i64 a0_1, .int .i64 a0_2] 84 (0, 0)) (kz BK174)) : gb174 ≠ gb175)); have n6_ := Aside0.mk ((by rw [hg]; exact Nat.ne_of_gt (blk_lt (g := gb174) (o := .cells #[.int .i64 a0_0, .int .i64 a0_1, .int .i64 a0_2] 84 (0, 0)) (kz BK174)) : gb175 ≠ gb174)); clear BK174; clear HB; have BK174 := n0_; have HB := n1_; have BK175 := n2_; have GW175 := n3_; have GE175 := n4_; have NB174_175 := n5_; have NB175_174 := n6_; clear n0_ n1_ n2_ n3_ n4_ n5_ n6_; clear hb hbox hg) | ((with_reducible refine gate_dst (N := 3) rfl ?_); refine box_event ?hg (N := 3) ?hd (cs := #[.int .i64 0, .int .i64 0, .int .i64 0]) (t := 62) ?hr ?_; (case hd => rfl); (case hg => rfl); (case hr => first | (go_simp; done) | (go_simp; rfl)); intro gb176 hg w4 hbox hb; have n0_ := Aside0.mk (blk_below (g := gb174) (o := .cells #[.int .i64 a0_0, .int .i64 a0_1, .int .i64 a0_2] 84 (0, 0)) (kz BK174) hb); have n1_ := Aside0.mk (blk_below (g := gb175) (o := .cells #[.int .i64 0, .int .i64 0, .int .i64 0] 62 (0, 0)) (kz BK175) hb); have n2_ := Aside0.mk (below_step (bz2 HB GE174 GE175) hb); have n3_ := Aside0.mk (hbox); have n4_ := Aside0.mk ((by rw [hg]; exact (below_size (bz2 HB GE174 GE175)) : w.heap.size ≤ gb176)); have n5_ := Aside0.mk ((by rw [hg]; exact (below_size (bz2 HB GE174 GE175)) : w.heap.size ≤ gb176)); have n6_ := Aside0.mk ((by rw [hg]; exact Nat.ne_of_lt (blk_lt (g := gb174) (o := .cells #[.int .i64 a0_0, .int .i64 a0_1, .int .i64 a0_2] 84 (0, 0)) (kz BK174)) : gb174 ≠ gb176)); have n7_ := Aside0.mk ((by rw [hg]; exact Nat.ne_of_gt (blk_lt (g := gb174) (o := .cells #[.int .i64 a0_0, .int .i64 a0_1, .int .i64 a0_2] 84 (0, 0)) (kz BK174)) : gb176 ≠ gb174)); have n8_ := Aside0.mk ((by rw [hg]; exact Nat.ne_of_lt (blk_lt (g := gb175) (o := .cells #[.int .i64 0, .int .i64 0, .int .i64 0] 62 (0, 0)) (kz BK175)) : gb175 ≠ gb176)); have n9_ := Aside0.mk ((by rw [hg]; exact Nat.ne_of_gt (blk_lt (g := gb175) (o := .cells #[.int .i64 0, .int .i64 0, .int .i64 0] 62 (0, 0)) (kz BK175)) : gb176 ≠ gb175)); clear BK174; clear BK175; clear HB; have BK174 := n0_; have BK175 := n1_; have HB := n2_; have BK176 := n3_; have GW176 := n4_; have GE176 := n5_; have NB174_176 := n6_; have NB176_174 := n7_; have NB175_176 := n8_; have NB176_175 := n9_; clear n0_ n1_ n2_ n3_ n4_ n5_ n6_ n7_ n8_ n9_; clear hb hbox hg; have hnb5 := NB174_175.out; have hnc5 := NB175_174.out; have hnb6 := NB174_176.out; have hnc6 := NB176_174.out; have hcz7_0 : w4.cell? ⟨gb174, 0, none⟩ = some (.int .i64 a0_0) := (blk_cell BK174.out 0).trans rfl; have hcz7_1 : w4.cell? ⟨gb174, 1, none⟩ = some (.int .i64 a0_1) := (blk_cell BK174.out 1).trans rfl; have hcz7_2 : w4.cell? ⟨gb174, 2, none⟩ = some (.int .i64 a0_2) := (blk_cell BK174.out 2).trans rfl; have hfz7_0 := blk_frozen BK174.out 0; have hfz7_1 := blk_frozen BK174.out 1; have hfz7_2 := blk_frozen BK174.out 2; have hnb8 := NB176_175.out; have hnc8 := NB175_176.out; have hcz9_0 : w4.cell? ⟨gb176, 0, none⟩ = some (.int .i64 0) := (blk_cell BK176.out 0).trans rfl; have hcz9_1 : w4.cell? ⟨gb176, 1, none⟩ = some (.int .i64 0) := (blk_cell BK176.out 1).trans rfl; have hcz9_2 : w4.cell? ⟨gb176, 2, none⟩ = some (.int .i64 0) := (blk_cell BK176.out 2).trans rfl; have hfz9_0 := blk_frozen BK176.out 0; have hfz9_1 := blk_frozen BK176.out 1; have hfz9_2 := blk_frozen BK176.out 2; have hcz10_0 : w4.cell? ⟨gb175, 0, none⟩ = some (.int .i64 0) := (blk_cell BK175.out 0).trans rfl; have hcz10_1 : w4.cell? ⟨gb175, 1, none⟩ = some (.int .i64 0) := (blk_cell BK175.out 1).trans rfl; have hcz10_2 : w4.cell? ⟨gb175, 2, none⟩ = some (.int .i64 0) := (blk_cell BK175.out 2).trans rfl; have hfz10_0 := blk_frozen BK175.out 0; have hfz10_1 := blk_frozen BK175.out 1; have hfz10_2 := blk_frozen BK175.out 2))
 refine bodyPost_ret (results_cell_row rfl _ _ gb175 62 #[.int .i64 a0_0, .int .i64 a0_1, .int .i64 a0_2] (0, 0) _ rfl (by (with_reducible repeat (first | refine blk_drewN ?_ _ | refine blk_drew ?_ | refine blk_alloc ?_ _)); refine blk_put (cs := #[.int .i64 a0_0, .int .i64 a0_1, .int .i64 0]) ?_ 2 _ rfl; (with_reducible repeat (first | refine blk_drewN ?_ _ | refine blk_drew ?_ | refine blk_alloc ?_ _)); refine blk_put (cs := #[.int .i64 a0_0, .int .i64 0, .int .i64 0]) ?_ 1 _ rfl; (with_reducible repeat (first | refine blk_drewN ?_ _ | refine blk_drew ?_ | refine blk_alloc ?_ _)); refine blk_put (cs := #[.int .i64 0, .int .i64 0, .int .i64 0]) ?_ 0 _ rfl; (with_reducible repeat (first | refine blk_drewN ?_ _ | refine blk_drew ?_ | refine blk_alloc ?_ _)); refine blk_far ?_ NB175_176.out _; (with_reducible repeat (first | refine blk_drewN ?_ _ | refine blk_drew ?_ | refine blk_alloc ?_ _)); refine blk_far ?_ NB175_176.out _; (with_reducible repeat (first | refine blk_drewN ?_ _ | refine blk_drew ?_ | refine blk_alloc ?_ _)); refine blk_far ?_ NB175_176.out _; exact kz BK175) Try.underlying62 rfl (by kernel_rfl)) rfl ?_
 exact ⟨rz, bz3 HB GE174 GE175 GE176⟩
end Go.Proofs.Ytoofhjflfpccdaa.PA
end
section
namespace Go.Proofs.Ytoofhjflfpccdaa.PA
open Go.RowKit Go.Proofs.YtoofhjflfpccdaaW.PrintWords Go.Proofs.YtoofhjflfpccdaaW.PrintLast Go.Proofs.YtoofhjflfpccdaaW.PrintMore
attribute [local go_sem] max2_int min2_int max_two min_two max_three min_three max_four min_four   -- for this text's walks alone
set_option linter.unusedVariables false
set_option linter.unusedSimpArgs false
set_option maxHeartbeats 8000000 in
set_option maxRecDepth 100000 in
theorem laws_toVarS.calls (k : Nat) (A0 : Option Addr) (c0 : Nat) (l0 : List (LVar)) (r : List (IVar)) (w : World) (hr0 : Kd.C k84 w A0 l0.length l0) (hc0 : l0.length ≤ c0) (h : laws_toVarS.f k l0 = some r) :
  Calls Try.prog 52 #[.slice A0 l0.length c0] w fun e w' => ∃ v0_ : Value, e = .returned (v0_) ∧ Kd.R k62 62 w' w.heap.size (fun _ => True) v0_ r ∧ Below w.heap.size w w' := by
 have hu84 := Try.underlying84
 have hu62 := Try.underlying62
 have HR0 := Aside0.mk hr0
 have HC0 := Aside0.mk hc0
 clear hr0 hc0
 have HB := Aside0.mk (Below.refl w.heap.size w)
 have H : (if 0 ≤ (l0.length : Int) then (if ((l0.length : Int) : Int).toNat ≤ 11728124029610 then (laws_toVarS.l0 k l0 (List.replicate ((l0.length : Int) : Int).toNat zIVar) 0) else (none)) else (none)) = some r := h
 clear h
 by_cases c2 : 0 ≤ (l0.length : Int)
 case neg =>
  rw [if_neg c2] at H
  exact absurd H (by simp)
 rw [if_pos c2] at H
 have c2b0 := eq_true c2
 have c2b1 : decide (0 ≤ (l0.length : Int)) = true := decide_eq_true c2
 clear c2
 by_cases c3 : ((l0.length : Int) : Int).toNat ≤ 11728124029610
 case neg =>
  rw [if_neg c3] at H
  exact absurd H (by simp)
 rw [if_pos c3] at H
 have c3b0 := eq_true c3
 have c3b1 : decide (((l0.length : Int) : Int).toNat ≤ 11728124029610) = true := decide_eq_true c3
 clear c3
 obtain ⟨y177, hy177⟩ : ∃ y_ : List (IVar), y_ = (List.replicate ((l0.length : Int) : Int).toNat zIVar) := ⟨_, rfl⟩
 replace H : (laws_toVarS.l0 k l0 y177 0) = some r := by first | (rw [hy177]; with_reducible exact H) | (have H2_ := (Option.bind_some _ _).symm.trans H; rw [hy177]; with_reducible exact H2_) | (have H2_ := (Option.bind_some _ _).symm.trans H; with_reducible exact H2_) | with_reducible exact H | (rw [hy177]; exact H) | exact H
 have Ny177 := Aside0.mk hy177
 clear hy177
 have H' := Aside0.mk H
 clear H
 go_enter Try.func52, Try.ntmps52
 go_wp2_with (first | ((with_reducible refine gate_dst (N := 7) rfl ?_); refine Kd.R_make k62 _ 62 rfl (N := 7) rfl 28 _ _ rfl (l0.length : Int) rfl rfl Try.underlying28 (.agg #[(.int .i64 0), (.int .i64 0), (.int .i64 0)]) 24 info62 rfl (by decide) (by omega) zIVar (ok := fun _ => True) (okp := fun _ => True) (k62_mkM _ _ _ zIVar ) (fun _ hk => hk) trivial (dz) (Nat.le_trans (Nat.mul_le_mul_right _ (dz : (l0.length : Int).toNat ≤ 11728124029610)) (by omega)) (Below.refl _ _) (Nat.le_refl _) ?_; intro v178 w4 ho5 hb hg_ hnew_; clear hg_ hnew_; (first | rw [← Ny177.out] at ho5 | (simp only [Int.reduceToNat] at ho5; rw [← Ny177.out] at ho5)); have HO179 := Aside0.mk (Kd.R_lower ho5 (below_size (bz HB))); replace HB := Aside0.mk (below_step (bz HB) hb); clear hb ho5))
 go_loopg [4] k (fun kq v4 w' => ∃ (x3_1 : List (IVar)) (x4_1 : Int), v4 = .int .i64 x4_1 ∧ Aside0 (laws_toVarS.l0 kq l0 x3_1 x4_1 = some r) ∧ Aside0 (kq ≤ k) ∧ Aside0 (Kd.R k62 62 w' w.heap.size (fun _ => True) v178 x3_1) ∧ Aside0 (Below w.heap.size w w'))
 case atStart => exact ⟨(y177), (0), rq, H', ⟨Nat.le_refl _⟩, ⟨ozR HO179⟩, ⟨bz HB⟩⟩
 case round =>
  clear H'
  try clear c2
  try clear c2b0
  try clear c2b1
  try clear p2
  try clear c3
  try clear c3b0
  try clear c3b1
  try clear c5
  obtain ⟨x3_1, x4_1, rfl, HA, HK1, HO_3, HB⟩ := hrel
  cases gk with
  | zero => exact absurd HA.out (by simp [laws_toVarS.l0])
  | succ k1 =>
   have H := HA.out
   clear HA
   simp only [laws_toVarS.l0] at H
   by_cases c6 : x4_1 < (l0.length : Int)
   case neg =>
    rw [if_neg c6] at H
    have c6b0 : decide (x4_1 < (l0.length : Int)) = false := decide_eq_false c6
    clear c6
    obtain rfl := Option.some.inj H
    go_wp2
    go_ret
    exact ⟨_, rz, ozR HO_3, bz HB⟩
   rw [if_pos c6] at H
   have c6b0 : decide (x4_1 < (l0.length : Int)) = true := decide_eq_true c6
   clear c6
   by_cases c7 : 0 ≤ x4_1
   case neg =>
    rw [if_neg c7] at H
    exact absurd H (by simp)
   rw [if_pos c7] at H
   have c7b0 : decide (0 ≤ x4_1) = true := decide_eq_true c7
   clear c7
   replace H := Option.bind_eq_some_iff.mp H
   obtain ⟨⟨t181, t182, t183⟩, A80, H⟩ := H
   dsimp only at H
   have A8 := Aside0.mk A80
   clear A80
   by_cases c9 : x4_1 < (x3_1.length : Int)
   case neg =>
    rw [if_neg c9] at H
    exact absurd H (by simp)
   rw [if_pos c9] at H
   have c9b0 : decide (x4_1 < (x3_1.length : Int)) = true := decide_eq_true c9
   clear c9
   obtain ⟨y184, hy184⟩ : ∃ y_ : List (IVar), y_ = (x3_1.set (x4_1 : Int).toNat (⟨t181, t182, t183⟩ : IVar)) := ⟨_, rfl⟩
   replace H : (laws_toVarS.l0 k1 l0 y184 (wrap64 (x4_1 + 1))) = some r := by first | (rw [hy184]; with_reducible exact H) | (have H2_ := (Option.bind_some _ _).symm.trans H; rw [hy184]; with_reducible exact H2_) | (have H2_ := (Option.bind_some _ _).symm.trans H; with_reducible exact H2_) | with_reducible exact H | (rw [hy184]; exact H) | exact H
   have Ny184 := Aside0.mk hy184
   clear hy184
   have H' := Aside0.mk H
   clear H
   have p180 : 0 ≤ (x4_1 : Int) := dz
   have q180 : x4_1 < (l0.length : Int) := dz
   obtain ⟨ad180, e180, hx180_0, hx180_1, hx180_2⟩ := at_LVar HR0.out x4_1 p180 q180
   cases e180
   replace hx180_0 := xz HB hx180_0
   replace hx180_1 := xz HB hx180_1
   replace hx180_2 := xz HB hx180_2
   replace p180 := eq_true p180
   replace q180 := eq_true q180
   go_wp2_with (first | ((with_reducible refine gate_callee (f := 89) rfl ?_); refine goesL_ (some 20) rfl rfl Try.func89 (by kernel_rfl) rfl #[.agg #[.int .i64 ((rd_LVar l0 x4_1).f0), .int .i64 ((rd_LVar l0 x4_1).f1), .int .i64 ((rd_LVar l0 x4_1).f2)]] rfl az ?_; (with_reducible refine (laws_toVar.calls ((rd_LVar l0 x4_1).f0) ((rd_LVar l0 x4_1).f1) ((rd_LVar l0 x4_1).f2) t181 t182 t183 _ A8.out).mono ?_); rintro e w11 ⟨rfl, hb⟩; refine ⟨_, rfl, ?_⟩; replace HO_3 := Aside0.mk (Kd.R_below (ozR HO_3) hb); replace HB := Aside0.mk (below_step (bz HB) hb); clear hb; have p10 : 0 ≤ (x4_1 : Int) := dz; have q10 : (x4_1 : Int) < ((x3_1.length : Int) : Int) := dz; obtain ⟨go10, co10, eo10, gb10, gl10, cl10, HG10⟩ := Kd.R_form HO_3.out (by omega); (first | cases eo10 | (injection eo10 with ea_ en_ ec_; (first | subst ea_ | (injection ea_ with ea_; subst ea_)); subst ec_; clear en_)); have GB10 := Aside0.mk gb10; have GG10 := Aside0.mk HG10; clear gb10 gl10 HG10; obtain ⟨ce10, hcl10, hM10, hcc10, hfr10⟩ := Kd.R_elem HO_3.out zIVar (x4_1 : Int) p10 q10; obtain rfl := k62_openM hM10; have hx10_0 : w11.cell? ⟨go10, (x4_1 : Int).toNat * 3, none⟩ = some (.int .i64 ((rd_IVar x3_1 x4_1).f0)) := hcc10 0 _ rfl; have hx10_1 : w11.cell? ⟨go10, (x4_1 : Int).toNat * 3 + 1, none⟩ = some (.int .i64 ((rd_IVar x3_1 x4_1).f1)) := hcc10 1 _ rfl; have hx10_2 : w11.cell? ⟨go10, (x4_1 : Int).toNat * 3 + 2, none⟩ = some (.int .i64 ((rd_IVar x3_1 x4_1).f2)) := hcc10 2 _ rfl; have hf10_0 : w11.frozen? ⟨go10, (x4_1 : Int).toNat * 3, none⟩ = false := hfr10 0; have hf10_1 : w11.frozen? ⟨go10, (x4_1 : Int).toNat * 3 + 1, none⟩ = false := hfr10 1; have hf10_2 : w11.frozen? ⟨go10, (x4_1 : Int).toNat * 3 + 2, none⟩ = false := hfr10 2; (try clear hcl10); (try clear hcc10); (try clear hfr10); (try clear hM10); replace p10 := eq_true p10; replace q10 := eq_true q10; have HX12 := Aside0.mk (show Kd.R k62 62 w11 w.heap.size (fun _ => True) (.slice (some ⟨go10, 0, none⟩) x3_1.length co10) x3_1 from (ozR HO_3)); obtain ⟨ce12, hcl12, hM12, hcc12, hfr12⟩ := Kd.R_elem HX12.out zIVar (x4_1 : Int) (dz) (by have h_ : (x4_1 : Int) < ((x3_1.length : Int) : Int) := dz; first | exact h_ | (have e_ := (Kd.R_reads' HO_3.out).1; omega) | simpa using h_); obtain rfl := k62_openM hM12; have HP12 := Kd.R_seg HX12.out (x4_1 : Int) (dz) (by have h_ : (x4_1 : Int) < ((x3_1.length : Int) : Int) := dz; first | exact h_ | (have e_ := (Kd.R_reads' HO_3.out).1; omega) | simpa using h_) (seg := [.int .i64 t181, .int .i64 t182, .int .i64 t183]) (j := 0) hcl12 hcc12 (show 3 ≤ 3 from by decide) (x' := (⟨t181, t182, t183⟩ : IVar)) (k62_mkM _ _ _ (⟨t181, t182, t183⟩ : IVar) ) (fun _ hk => hk); have hx12_0 := hcc12 0 _ rfl; (try simp only [show (k62).sz = 3 from rfl, Nat.mul_one, Nat.add_zero] at hx12_0); have hf12_0 := hfr12 0; (try simp only [show (k62).sz = 3 from rfl, Nat.mul_one, Nat.add_zero] at hf12_0); have hx12_1 := hcc12 1 _ rfl; (try simp only [show (k62).sz = 3 from rfl, Nat.mul_one, Nat.add_zero] at hx12_1); have hf12_1 := hfr12 1; (try simp only [show (k62).sz = 3 from rfl, Nat.mul_one, Nat.add_zero] at hf12_1); have hx12_2 := hcc12 2 _ rfl; (try simp only [show (k62).sz = 3 from rfl, Nat.mul_one, Nat.add_zero] at hx12_2); have hf12_2 := hfr12 2; (try simp only [show (k62).sz = 3 from rfl, Nat.mul_one, Nat.add_zero] at hf12_2); (try clear hcl12); (try clear hcc12); (try clear hfr12); (try clear hM12)) | ((with_reducible refine gate_store (t := 62) (p := 21) rfl ?_); refine store_event (t := 62) (p := 21) (v := ?vo_w13) (w1 := (((w11.setCell ⟨go10, (x4_1 : Int).toNat * 3, none⟩ (.int .i64 t181)).setCell ⟨go10, (x4_1 : Int).toNat * 3 + 1, none⟩ (.int .i64 t182)).setCell ⟨go10, (x4_1 : Int).toNat * 3 + 2, none⟩ (.int .i64 t183))) ?hg ?ho ?hn ?hr ?_; (case ho => rfl); (case hg => rfl); (case hn => rfl); (case hr => first | (go_simp; done) | (go_simp; rfl)); intro w13 hw; have hg : w11.grownBy w13 (some go10) := (by rw [hw]; exact HP12.2); have hp_ : Kd.R k62 62 w13 w.heap.size (fun _ => True) (.slice (some ⟨go10, 0, none⟩) x3_1.length co10) y184 := (by rw [hw, Ny184.out]; exact HP12.1); clear HP12; replace HO_3 := Aside0.mk (hp_); replace HB := Aside0.mk ((by rw [hw]; exact below_set (below_set (below_set (HB.out) GB10.out) GB10.out) GB10.out : Below w.heap.size w w13)); clear hg hw hp_))
   go_roundg k1
   case measure => have := HK1.out; omega
   case rel => exact ⟨(y184), (wrap64 (x4_1 + 1)), rq, H', ⟨by have := HK1.out; omega⟩, ⟨ozR HO_3⟩, ⟨bz HB⟩⟩
end Go.Proofs.Ytoofhjflfpccdaa.PA
end
section
namespace Go.Proofs.Ytoofhjflfpccdaa.PA
open Go.RowKit Go.Proofs.YtoofhjflfpccdaaW.PrintWords Go.Proofs.YtoofhjflfpccdaaW.PrintLast Go.Proofs.YtoofhjflfpccdaaW.PrintMore
attribute [local go_sem] max2_int min2_int max_two min_two max_three min_three max_four min_four   -- for this text's walks alone
set_option linter.unusedVariables false
set_option linter.unusedSimpArgs false
set_option maxHeartbeats 8000000 in
set_option maxRecDepth 100000 in
theorem laws_toTerm.calls (a0_0 : Int) (a0_1 : Int) (a0_2 : Int) (a0_3 : Int) (r1 : Int) (r2 : Int) (r3 : Int) (r4 : Int) (w : World) (h : laws_toTerm.f a0_0 a0_1 a0_2 a0_3 = some (r1, r2, r3, r4)) :
  Calls Try.prog 126 #[.agg #[.int .i64 a0_0, .int .i64 a0_1, .int .i64 a0_2, .int .i64 a0_3]] w fun e w' => e = .returned (.agg #[.int .i64 r1, .int .i64 r2, .int .i64 r3, .int .i64 r4]) ∧ Below w.heap.size w w' := by
 have hu112 := Try.underlying112
 have hu107 := Try.underlying107
 have HB := Aside0.mk (Below.refl w.heap.size w)
 have H : (some (a0_0, a0_1, a0_2, a0_3)) = some (r1, r2, r3, r4) := h
 clear h
 simp only [Option.some.injEq, Prod.mk.injEq] at H
 obtain ⟨rfl, rfl, rfl, rfl⟩ := H
 go_enter Try.func126, Try.ntmps126
 go_wp2_with (first | ((with_reducible refine gate_dst (N := 1) rfl ?_); refine box_event ?hg (N := 1) ?hd (cs := #[.int .i64 a0_0, .int .i64 a0_1, .int .i64 a0_2, .int .i64 a0_3]) (t := 112) ?hr ?_; (case hd => rfl); (case hg => rfl); (case hr => first | (go_simp; done) | (go_simp; rfl)); intro gb190 hg w2 hbox hb; have n0_ := Aside0.mk (below_step (bz HB) hb); have n1_ := Aside0.mk (hbox); have n2_ := Aside0.mk ((by rw [hg]; exact (below_size (bz HB)) : w.heap.size ≤ gb190)); have n3_ := Aside0.mk ((by rw [hg]; exact (below_size (bz HB)) : w.heap.size ≤ gb190)); clear HB; have HB := n0_; have BK190 := n1_; have GW190 := n2_; have GE190 := n3_; clear n0_ n1_ n2_ n3_; clear hb hbox hg) | ((with_reducible refine gate_dst (N := 2) rfl ?_); refine box_event ?hg (N := 2) ?hd (cs := #[.int .i64 0, .int .i64 0, .int .i64 0, .int .i64 0]) (t := 107) ?hr ?_; (case hd => rfl); (case hg => rfl); (case hr => first | (go_simp; done) | (go_simp; rfl)); intro gb191 hg w3 hbox hb; have n0_ := Aside0.mk (blk_below (g := gb190) (o := .cells #[.int .i64 a0_0, .int .i64 a0_1, .int .i64 a0_2, .int .i64 a0_3] 112 (0, 0)) (kz BK190) hb); have n1_ := Aside0.mk (below_step (bz1 HB GE190) hb); have n2_ := Aside0.mk (hbox); have n3_ := Aside0.mk ((by rw [hg]; exact (below_size (bz1 HB GE190)) : w.heap.size ≤ gb191)); have n4_ := Aside0.mk ((by rw [hg]; exact (below_size (bz1 HB GE190)) : w.heap.size ≤ gb191)); have n5_ := Aside0.mk ((by rw [hg]; exact Nat.ne_of_lt (blk_lt (g := gb190) (o := .cells #[.int .i64 a0_0, .int .i64 a0_1, .int .i64 a0_2, .int .i64 a0_3] 112 (0, 0)) (kz BK190)) : gb190 ≠ gb191)); have n6_ := Aside0.mk ((by rw [hg]; exact Nat.ne_of_gt (blk_lt (g := gb190) (o := .cells #[.int .i64 a0_0, .int .i64 a0_1, .int .i64 a0_2, .int .i64 a0_3] 112 (0, 0)) (kz BK190)) : gb191 ≠ gb190)); clear BK190; clear HB; have BK190 := n0_; have HB := n1_; have BK191 := n2_; have GW191 := n3_; have GE191 := n4_; have NB190_191 := n5_; have NB191_190 := n6_; clear n0_ n1_ n2_ n3_ n4_ n5_ n6_; clear hb hbox hg) | ((with_reducible refine gate_dst (N := 3) rfl ?_); refine box_event ?hg (N := 3) ?hd (cs := #[.int .i64 0, .int .i64 0, .int .i64 0, .int .i64 0]) (t := 107) ?hr ?_; (case hd => rfl); (case hg => rfl); (case hr => first | (go_simp; done) | (go_simp; rfl)); intro gb192 hg w4 hbox hb; have n0_ := Aside0.mk (blk_below (g := gb190) (o := .cells #[.int .i64 a0_0, .int .i64 a0_1, .int .i64 a0_2, .int .i64 a0_3] 112 (0, 0)) (kz BK190) hb); have n1_ := Aside0.mk (blk_below (g := gb191) (o := .cells #[.int .i64 0, .int .i64 0, .int .i64 0, .int .i64 0] 107 (0, 0)) (kz BK191) hb); have n2_ := Aside0.mk (below_step (bz2 HB GE190 GE191) hb); have n3_ := Aside0.mk (hbox); have n4_ := Aside0.mk ((by rw [hg]; exact (below_size (bz2 HB GE190 GE191)) : w.heap.size ≤ gb192)); have n5_ := Aside0.mk ((by rw [hg]; exact (below_size (bz2 HB GE190 GE191)) : w.heap.size ≤ gb192)); have n6_ := Aside0.mk ((by rw [hg]; exact Nat.ne_of_lt (blk_lt (g := gb190) (o := .cells #[.int .i64 a0_0, .int .i64 a0_1, .int .i64 a0_2, .int .i64 a0_3] 112 (0, 0)) (kz BK190)) : gb190 ≠ gb192)); have n7_ := Aside0.mk ((by rw [hg]; exact Nat.ne_of_gt (blk_lt (g := gb190) (o := .cells #[.int .i64 a0_0, .int .i64 a0_1, .int .i64 a0_2, .int .i64 a0_3] 112 (0, 0)) (kz BK190)) : gb192 ≠ gb190)); have n8_ := Aside0.mk ((by rw [hg]; exact Nat.ne_of_lt (blk_lt (g := gb191) (o := .cells #[.int .i64 0, .int .i64 0, .int .i64 0, .int .i64 0] 107 (0, 0)) (kz BK191)) : gb191 ≠ gb192)); have n9_ := Aside0.mk ((by rw [hg]; exact Nat.ne_of_gt (blk_lt (g := gb191) (o := .cells #[.int .i64 0, .int .i64 0, .int .i64 0, .int .i64 0] 107 (0, 0)) (kz BK191)) : gb192 ≠ gb191)); clear BK190; clear BK191; clear HB; have BK190 := n0_; have BK191 := n1_; have HB := n2_; have BK192 := n3_; have GW192 := n4_; have GE192 := n5_; have NB190_192 := n6_; have NB192_190 := n7_; have NB191_192 := n8_; have NB192_191 := n9_; clear n0_ n1_ n2_ n3_ n4_ n5_ n6_ n7_ n8_ n9_; clear hb hbox hg; have hnb5 := NB190_191.out; have hnc5 := NB191_190.out; have hnb6 := NB190_192.out; have hnc6 := NB192_190.out; have hcz7_0 : w4.cell? ⟨gb190, 0, none⟩ = some (.int .i64 a0_0) := (blk_cell BK190.out 0).trans rfl; have hcz7_1 : w4.cell? ⟨gb190, 1, none⟩ = some (.int .i64 a0_1) := (blk_cell BK190.out 1).trans rfl; have hcz7_2 : w4.cell? ⟨gb190, 2, none⟩ = some (.int .i64 a0_2) := (blk_cell BK190.out 2).trans rfl; have hcz7_3 : w4.cell? ⟨gb190, 3, none⟩ = some (.int .i64 a0_3) := (blk_cell BK190.out 3).trans rfl; have hfz7_0 := blk_frozen BK190.out 0; have hfz7_1 := blk_frozen BK190.out 1; have hfz7_2 := blk_frozen BK190.out 2; have hfz7_3 := blk_frozen BK190.out 3; have hnb8 := NB192_191.out; have hnc8 := NB191_192.out; have hcz9_0 : w4.cell? ⟨gb192, 0, none⟩ = some (.int .i64 0) := (blk_cell BK192.out 0).trans rfl; have hcz9_1 : w4.cell? ⟨gb192, 1, none⟩ = some (.int .i64 0) := (blk_cell BK192.out 1).trans rfl; have hcz9_2 : w4.cell? ⟨gb192, 2, none⟩ = some (.int .i64 0) := (blk_cell BK192.out 2).trans rfl; have hcz9_3 : w4.cell? ⟨gb192, 3, none⟩ = some (.int .i64 0) := (blk_cell BK192.out 3).trans rfl; have hfz9_0 := blk_frozen BK192.out 0; have hfz9_1 := blk_frozen BK192.out 1; have hfz9_2 := blk_frozen BK192.out 2; have hfz9_3 := blk_frozen BK192.out 3; have hcz10_0 : w4.cell? ⟨gb191, 0, none⟩ = some (.int .i64 0) := (blk_cell BK191.out 0).trans rfl; have hcz10_1 : w4.cell? ⟨gb191, 1, none⟩ = some (.int .i64 0) := (blk_cell BK191.out 1).trans rfl; have hcz10_2 : w4.cell? ⟨gb191, 2, none⟩ = some (.int .i64 0) := (blk_cell BK191.out 2).trans rfl; have hcz10_3 : w4.cell? ⟨gb191, 3, none⟩ = some (.int .i64 0) := (blk_cell BK191.out 3).trans rfl; have hfz10_0 := blk_frozen BK191.out 0; have hfz10_1 := blk_frozen BK191.out 1; have hfz10_2 := blk_frozen BK191.out 2; have hfz10_3 := blk_frozen BK191.out 3))
 refine bodyPost_ret (results_cell_row rfl _ _ gb191 107 #[.int .i64 a0_0, .int .i64 a0_1, .int .i64 a0_2, .int .i64 a0_3] (0, 0) _ rfl (by (with_reducible repeat (first | refine blk_drewN ?_ _ | refine blk_drew ?_ | refine blk_alloc ?_ _)); refine blk_put (cs := #[.int .i64 a0_0, .int .i64 a0_1, .int .i64 a0_2, .int .i64 0]) ?_ 3 _ rfl; (with_reducible repeat (first | refine blk_drewN ?_ _ | refine blk_drew ?_ | refine blk_alloc ?_ _)); refine blk_put (cs := #[.int .i64 a0_0, .int .i64 a0_1, .int .i64 0, .int .i64 0]) ?_ 2 _ rfl; (with_reducible repeat (first | refine blk_drewN ?_ _ | refine blk_drew ?_ | refine blk_alloc ?_ _)); refine blk_put (cs := #[.int .i64 a0_0, .int .i64 0, .int .i64 0, .int .i64 0]) ?_ 1 _ rfl; (with_reducible repeat (first | refine blk_drewN ?_ _ | refine blk_drew ?_ | refine blk_alloc ?_ _)); refine blk_put (cs := #[.int .i64 0, .int .i64 0, .int .i64 0, .int .i64 0]) ?_ 0 _ rfl; (with_reducible repeat (first | refine blk_drewN ?_ _ | refine blk_drew ?_ | refine blk_alloc ?_ _)); refine blk_far ?_ NB191_192.out _; (with_reducible repeat (first | refine blk_drewN ?_ _ | refine blk_drew ?_ | refine blk_alloc ?_ _)); refine blk_far ?_ NB191_192.out _; (with_reducible repeat (first | refine blk_drewN ?_ _ | refine blk_drew ?_ | refine blk_alloc ?_ _)); refine blk_far ?_ NB191_192.out _; (with_reducible repeat (first | refine blk_drewN ?_ _ | refine blk_drew ?_ | refine blk_alloc ?_ _)); refine blk_far ?_ NB191_192.out _; exact kz BK191) Try.underlying107 rfl (by kernel_rfl)) rfl ?_
 exact ⟨rz, bz3 HB GE190 GE191 GE192⟩
end Go.Proofs.Ytoofhjflfpccdaa.PA
end
section
namespace Go.Proofs.Ytoofhjflfpccdaa.PA
open Go.RowKit Go.Proofs.YtoofhjflfpccdaaW.PrintWords Go.Proofs.YtoofhjflfpccdaaW.PrintLast Go.Proofs.YtoofhjflfpccdaaW.PrintMore
attribute [local go_sem] max2_int min2_int max_two min_two max_three min_three max_four min_four   -- for this text's walks alone
set_option linter.unusedVariables false
set_option linter.unusedSimpArgs false
set_option maxHeartbeats 8000000 in
set_option maxRecDepth 100000 in
theorem laws_toTermS.calls (k : Nat) (A0 : Option Addr) (c0 : Nat) (l0 : List (LTerm)) (r : List (ITerm)) (w : World) (hr0 : Kd.C k112 w A0 l0.length l0) (hc0 : l0.length ≤ c0) (h : laws_toTermS.f k l0 = some r) :
  Calls Try.prog 115 #[.slice A0 l0.length c0] w fun e w' => ∃ v0_ : Value, e = .returned (v0_) ∧ Kd.R k107 107 w' w.heap.size (fun _ => True) v0_ r ∧ Below w.heap.size w w' := by
 have hu112 := Try.underlying112
 have hu107 := Try.underlying107
 have HR0 := Aside0.mk hr0
 have HC0 := Aside0.mk hc0
 clear hr0 hc0
 have HB := Aside0.mk (Below.refl w.heap.size w)
 have H : (if 0 ≤ (l0.length : Int) then (if ((l0.length : Int) : Int).toNat ≤ 8796093022208 then (laws_toTermS.l0 k l0 (List.replicate ((l0.length : Int) : Int).toNat zITerm) 0) else (none)) else (none)) = some r := h
 clear h
 by_cases c2 : 0 ≤ (l0.length : Int)
 case neg =>
  rw [if_neg c2] at H
  exact absurd H (by simp)
 rw [if_pos c2] at H
 have c2b0 := eq_true c2
 have c2b1 : decide (0 ≤ (l0.length : Int)) = true := decide_eq_true c2
 clear c2
 by_cases c3 : ((l0.length : Int) : Int).toNat ≤ 8796093022208
 case neg =>
  rw [if_neg c3] at H
  exact absurd H (by simp)
 rw [if_pos c3] at H
 have c3b0 := eq_true c3
 have c3b1 : decide (((l0.length : Int) : Int).toNat ≤ 8796093022208) = true := decide_eq_true c3
 clear c3
 obtain ⟨y193, hy193⟩ : ∃ y_ : List (ITerm), y_ = (List.replicate ((l0.length : Int) : Int).toNat zITerm) := ⟨_, rfl⟩
 replace H : (laws_toTermS.l0 k l0 y193 0) = some r := by first | (rw [hy193]; with_reducible exact H) | (have H2_ := (Option.bind_some _ _).symm.trans H; rw [hy193]; with_reducible exact H2_) | (have H2_ := (Option.bind_some _ _).symm.trans H; with_reducible exact H2_) | with_reducible exact H | (rw [hy193]; exact H) | exact H
 have Ny193 := Aside0.mk hy193
 clear hy193
 have H' := Aside0.mk H
 clear H
 go_enter Try.func115, Try.ntmps115
 go_wp2_with (first | ((with_reducible refine gate_dst (N := 7) rfl ?_); refine Kd.R_make k107 _ 107 rfl (N := 7) rfl 78 _ _ rfl (l0.length : Int) rfl rfl Try.underlying78 (.agg #[(.int .i64 0), (.int .i64 0), (.int .i64 0), (.int .i64 0)]) 32 info107 rfl (by decide) (by omega) zITerm (ok := fun _ => True) (okp := fun _ => True) (k107_mkM _ _ _ zITerm ) (fun _ hk => hk) trivial (dz) (Nat.le_trans (Nat.mul_le_mul_right _ (dz : (l0.length : Int).toNat ≤ 8796093022208)) (by omega)) (Below.refl _ _) (Nat.le_refl _) ?_; intro v194 w4 ho5 hb hg_ hnew_; clear hg_ hnew_; (first | rw [← Ny193.out] at ho5 | (simp only [Int.reduceToNat] at ho5; rw [← Ny193.out] at ho5)); have HO195 := Aside0.mk (Kd.R_lower ho5 (below_size (bz HB))); replace HB := Aside0.mk (below_step (bz HB) hb); clear hb ho5))
 go_loopg [4] k (fun kq v4 w' => ∃ (x3_1 : List (ITerm)) (x4_1 : Int), v4 = .int .i64 x4_1 ∧ Aside0 (laws_toTermS.l0 kq l0 x3_1 x4_1 = some r) ∧ Aside0 (kq ≤ k) ∧ Aside0 (Kd.R k107 107 w' w.heap.size (fun _ => True) v194 x3_1) ∧ Aside0 (Below w.heap.size w w'))
 case atStart => exact ⟨(y193), (0), rq, H', ⟨Nat.le_refl _⟩, ⟨ozR HO195⟩, ⟨bz HB⟩⟩
 case round =>
  clear H'
  try clear c1
  try clear c2
  try clear c2b0
  try clear c2b1
  try clear p2
  try clear c3
  try clear c3b0
  try clear c3b1
  obtain ⟨x3_1, x4_1, rfl, HA, HK1, HO_3, HB⟩ := hrel
  cases gk with
  | zero => exact absurd HA.out (by simp [laws_toTermS.l0])
  | succ k1 =>
   have H := HA.out
   clear HA
   simp only [laws_toTermS.l0] at H
   by_cases c6 : x4_1 < (l0.length : Int)
   case neg =>
    rw [if_neg c6] at H
    have c6b0 : decide (x4_1 < (l0.length : Int)) = false := decide_eq_false c6
    clear c6
    obtain rfl := Option.some.inj H
    go_wp2
    go_ret
    exact ⟨_, rz, ozR HO_3, bz HB⟩
   rw [if_pos c6] at H
   have c6b0 : decide (x4_1 < (l0.length : Int)) = true := decide_eq_true c6
   clear c6
   by_cases c7 : 0 ≤ x4_1
   case neg =>
    rw [if_neg c7] at H
    exact absurd H (by simp)
   rw [if_pos c7] at H
   have c7b0 : decide (0 ≤ x4_1) = true := decide_eq_true c7
   clear c7
   replace H := Option.bind_eq_some_iff.mp H
   obtain ⟨⟨t197, t198, t199, t200⟩, A80, H⟩ := H
   dsimp only at H
   have A8 := Aside0.mk A80
   clear A80
   by_cases c9 : x4_1 < (x3_1.length : Int)
   case neg =>
    rw [if_neg c9] at H
    exact absurd H (by simp)
   rw [if_pos c9] at H
   have c9b0 : decide (x4_1 < (x3_1.length : Int)) = true := decide_eq_true c9
   clear c9
   obtain ⟨y201, hy201⟩ : ∃ y_ : List (ITerm), y_ = (x3_1.set (x4_1 : Int).toNat (⟨t197, t198, t199, t200⟩ : ITerm)) := ⟨_, rfl⟩
   replace H : (laws_toTermS.l0 k1 l0 y201 (wrap64 (x4_1 + 1))) = some r := by first | (rw [hy201]; with_reducible exact H) | (have H2_ := (Option.bind_some _ _).symm.trans H; rw [hy201]; with_reducible exact H2_) | (have H2_ := (Option.bind_some _ _).symm.trans H; with_reducible exact H2_) | with_reducible exact H | (rw [hy201]; exact H) | exact H
   have Ny201 := Aside0.mk hy201
   clear hy201
   have H' := Aside0.mk H
   clear H
   have p196 : 0 ≤ (x4_1 : Int) := dz
   have q196 : x4_1 < (l0.length : Int) := dz
   obtain ⟨ad196, e196, hx196_0, hx196_1, hx196_2, hx196_3⟩ := at_LTerm HR0.out x4_1 p196 q196
   cases e196
   replace hx196_0 := xz HB hx196_0
   replace hx196_1 := xz HB hx196_1
   replace hx196_2 := xz HB hx196_2
   replace hx196_3 := xz HB hx196_3
   replace p196 := eq_true p196
   replace q196 := eq_true q196
   go_wp2_with (first | ((with_reducible refine gate_callee (f := 126) rfl ?_); refine goesL_ (some 20) rfl rfl Try.func126 (by kernel_rfl) rfl #[.agg #[.int .i64 ((rd_LTerm l0 x4_1).f0), .int .i64 ((rd_LTerm l0 x4_1).f1), .int .i64 ((rd_LTerm l0 x4_1).f2), .int .i64 ((rd_LTerm l0 x4_1).f3)]] rfl az ?_; (with_reducible refine (laws_toTerm.calls ((rd_LTerm l0 x4_1).f0) ((rd_LTerm l0 x4_1).f1) ((rd_LTerm l0 x4_1).f2) ((rd_LTerm l0 x4_1).f3) t197 t198 t199 t200 _ A8.out).mono ?_); rintro e w11 ⟨rfl, hb⟩; refine ⟨_, rfl, ?_⟩; replace HO_3 := Aside0.mk (Kd.R_below (ozR HO_3) hb); replace HB := Aside0.mk (below_step (bz HB) hb); clear hb; have p10 : 0 ≤ (x4_1 : Int) := dz; have q10 : (x4_1 : Int) < ((x3_1.length : Int) : Int) := dz; obtain ⟨go10, co10, eo10, gb10, gl10, cl10, HG10⟩ := Kd.R_form HO_3.out (by omega); (first | cases eo10 | (injection eo10 with ea_ en_ ec_; (first | subst ea_ | (injection ea_ with ea_; subst ea_)); subst ec_; clear en_)); have GB10 := Aside0.mk gb10; have GG10 := Aside0.mk HG10; clear gb10 gl10 HG10; obtain ⟨ce10, hcl10, hM10, hcc10, hfr10⟩ := Kd.R_elem HO_3.out zITerm (x4_1 : Int) p10 q10; obtain rfl := k107_openM hM10; have hx10_0 : w11.cell? ⟨go10, (x4_1 : Int).toNat * 4, none⟩ = some (.int .i64 ((rd_ITerm x3_1 x4_1).f0)) := hcc10 0 _ rfl; have hx10_1 : w11.cell? ⟨go10, (x4_1 : Int).toNat * 4 + 1, none⟩ = some (.int .i64 ((rd_ITerm x3_1 x4_1).f1)) := hcc10 1 _ rfl; have hx10_2 : w11.cell? ⟨go10, (x4_1 : Int).toNat * 4 + 2, none⟩ = some (.int .i64 ((rd_ITerm x3_1 x4_1).f2)) := hcc10 2 _ rfl; have hx10_3 : w11.cell? ⟨go10, (x4_1 : Int).toNat * 4 + 3, none⟩ = some (.int .i64 ((rd_ITerm x3_1 x4_1).f3)) := hcc10 3 _ rfl; have hf10_0 : w11.frozen? ⟨go10, (x4_1 : Int).toNat * 4, none⟩ = false := hfr10 0; have hf10_1 : w11.frozen? ⟨go10, (x4_1 : Int).toNat * 4 + 1, none⟩ = false := hfr10 1; have hf10_2 : w11.frozen? ⟨go10, (x4_1 : Int).toNat * 4 + 2, none⟩ = false := hfr10 2; have hf10_3 : w11.frozen? ⟨go10, (x4_1 : Int).toNat * 4 + 3, none⟩ = false := hfr10 3; (try clear hcl10); (try clear hcc10); (try clear hfr10); (try clear hM10); replace p10 := eq_true p10; replace q10 := eq_true q10; have HX12 := Aside0.mk (show Kd.R k107 107 w11 w.heap.size (fun _ => True) (.slice (some ⟨go10, 0, none⟩) x3_1.length co10) x3_1 from (ozR HO_3)); obtain ⟨ce12, hcl12, hM12, hcc12, hfr12⟩ := Kd.R_elem HX12.out zITerm (x4_1 : Int) (dz) (by have h_ : (x4_1 : Int) < ((x3_1.length : Int) : Int) := dz; first | exact h_ | (have e_ := (Kd.R_reads' HO_3.out).1; omega) | simpa using h_); obtain rfl := k107_openM hM12; have HP12 := Kd.R_seg HX12.out (x4_1 : Int) (dz) (by have h_ : (x4_1 : Int) < ((x3_1.length : Int) : Int) := dz; first | exact h_ | (have e_ := (Kd.R_reads' HO_3.out).1; omega) | simpa using h_) (seg := [.int .i64 t197, .int .i64 t198, .int .i64 t199, .int .i64 t200]) (j := 0) hcl12 hcc12 (show 4 ≤ 4 from by decide) (x' := (⟨t197, t198, t199, t200⟩ : ITerm)) (k107_mkM _ _ _ (⟨t197, t198, t199, t200⟩ : ITerm) ) (fun _ hk => hk); have hx12_0 := hcc12 0 _ rfl; (try simp only [show (k107).sz = 4 from rfl, Nat.mul_one, Nat.add_zero] at hx12_0); have hf12_0 := hfr12 0; (try simp only [show (k107).sz = 4 from rfl, Nat.mul_one, Nat.add_zero] at hf12_0); have hx12_1 := hcc12 1 _ rfl; (try simp only [show (k107).sz = 4 from rfl, Nat.mul_one, Nat.add_zero] at hx12_1); have hf12_1 := hfr12 1; (try simp only [show (k107).sz = 4 from rfl, Nat.mul_one, Nat.add_zero] at hf12_1); have hx12_2 := hcc12 2 _ rfl; (try simp only [show (k107).sz = 4 from rfl, Nat.mul_one, Nat.add_zero] at hx12_2); have hf12_2 := hfr12 2; (try simp only [show (k107).sz = 4 from rfl, Nat.mul_one, Nat.add_zero] at hf12_2); have hx12_3 := hcc12 3 _ rfl; (try simp only [show (k107).sz = 4 from rfl, Nat.mul_one, Nat.add_zero] at hx12_3); have hf12_3 := hfr12 3; (try simp only [show (k107).sz = 4 from rfl, Nat.mul_one, Nat.add_zero] at hf12_3); (try clear hcl12); (try clear hcc12); (try clear hfr12); (try clear hM12)) | ((with_reducible refine gate_store (t := 107) (p := 21) rfl ?_); refine store_event (t := 107) (p := 21) (v := ?vo_w13) (w1 := ((((w11.setCell ⟨go10, (x4_1 : Int).toNat * 4, none⟩ (.int .i64 t197)).setCell ⟨go10, (x4_1 : Int).toNat * 4 + 1, none⟩ (.int .i64 t198)).setCell ⟨go10, (x4_1 : Int).toNat * 4 + 2, none⟩ (.int .i64 t199)).setCell ⟨go10, (x4_1 : Int).toNat * 4 + 3, none⟩ (.int .i64 t200))) ?hg ?ho ?hn ?hr ?_; (case ho => rfl); (case hg => rfl); (case hn => rfl); (case hr => first | (go_simp; done) | (go_simp; rfl)); intro w13 hw; have hg : w11.grownBy w13 (some go10) := (by rw [hw]; exact HP12.2); have hp_ : Kd.R k107 107 w13 w.heap.size (fun _ => True) (.slice (some ⟨go10, 0, none⟩) x3_1.length co10) y201 := (by rw [hw, Ny201.out]; exact HP12.1); clear HP12; replace HO_3 := Aside0.mk (hp_); replace HB := Aside0.mk ((by rw [hw]; exact below_set (below_set (below_set (below_set (HB.out) GB10.out) GB10.out) GB10.out) GB10.out : Below w.heap.size w w13)); clear hg hw hp_))
   go_roundg k1
   case measure => have := HK1.out; omega
   case rel => exact ⟨(y201), (wrap64 (x4_1 + 1)), rq, H', ⟨by have := HK1.out; omega⟩, ⟨ozR HO_3⟩, ⟨bz HB⟩⟩
end Go.Proofs.Ytoofhjflfpccdaa.PA
end
section
namespace Go.Proofs.Ytoofhjflfpccdaa.PA
open Go.RowKit Go.Proofs.YtoofhjflfpccdaaW.PrintWords Go.Proofs.YtoofhjflfpccdaaW.PrintLast Go.Proofs.YtoofhjflfpccdaaW.PrintMore
attribute [local go_sem] max2_int min2_int max_two min_two max_three min_three max_four min_four   -- for this text's walks alone
set_option linter.unusedVariables false
set_option linter.unusedSimpArgs false
set_option maxHeartbeats 8000000 in
set_option maxRecDepth 100000 in
theorem laws_toTermSS.calls (k : Nat) (A0 : Option Addr) (c0 : Nat) (l0 : List (List (LTerm))) (r : List (List (ITerm))) (w : World) (hr0 : Kd.C (Kd.slice 112 k112) w A0 l0.length l0) (hc0 : l0.length ≤ c0) (h : laws_toTermSS.f k l0 = some r) :
  Calls Try.prog 116 #[.slice A0 l0.length c0] w fun e w' => ∃ v0_ : Value, e = .returned (v0_) ∧ Kd.S (Kd.slice 107 k107) 78 w' w.heap.size (fun _ => True) v0_ r ∧ Below w.heap.size w w' := by
 have HR0 := Aside0.mk hr0
 have HC0 := Aside0.mk hc0
 clear hr0 hc0
 have HB := Aside0.mk (Below.refl w.heap.size w)
 have H : (if 0 ≤ (l0.length : Int) then (if ((l0.length : Int) : Int).toNat ≤ 11728124029610 then (laws_toTermSS.l0 k l0 (List.replicate ((l0.length : Int) : Int).toNat []) 0) else (none)) else (none)) = some r := h
 clear h
 by_cases c2 : 0 ≤ (l0.length : Int)
 case neg =>
  rw [if_neg c2] at H
  exact absurd H (by simp)
 rw [if_pos c2] at H
 have c2b0 := eq_true c2
 have c2b1 : decide (0 ≤ (l0.length : Int)) = true := decide_eq_true c2
 clear c2
 by_cases c3 : ((l0.length : Int) : Int).toNat ≤ 11728124029610
 case neg =>
  rw [if_neg c3] at H
  exact absurd H (by simp)
 rw [if_pos c3] at H
 have c3b0 := eq_true c3
 have c3b1 : decide (((l0.length : Int) : Int).toNat ≤ 11728124029610) = true := decide_eq_true c3
 clear c3
 obtain ⟨y202, hy202⟩ : ∃ y_ : List (List (ITerm)), y_ = (List.replicate ((l0.length : Int) : Int).toNat []) := ⟨_, rfl⟩
 replace H : (laws_toTermSS.l0 k l0 y202 0) = some r := by first | (rw [hy202]; with_reducible exact H) | (have H2_ := (Option.bind_some _ _).symm.trans H; rw [hy202]; with_reducible exact H2_) | (have H2_ := (Option.bind_some _ _).symm.trans H; with_reducible exact H2_) | with_reducible exact H | (rw [hy202]; exact H) | exact H
 have Ny202 := Aside0.mk hy202
 clear hy202
 have H' := Aside0.mk H
 clear H
 go_enter Try.func116, Try.ntmps116
 go_wp2_with (first | ((with_reducible refine gate_dst (N := 7) rfl ?_); refine Kd.S_make (Kd.slice 107 k107) _ 78 rfl (N := 7) rfl 79 _ _ rfl (l0.length : Int) rfl rfl Try.underlying79 (.slice none 0 0) 24 info78 rfl (by decide) (by omega) [] (ok := fun _ => True) (okp := fun _ => True) ⟨_, rfl, Kd.R_nil _ _ _ _ _⟩ (fun _ hk => hk) trivial (dz) (Nat.le_trans (Nat.mul_le_mul_right _ (dz : (l0.length : Int).toNat ≤ 11728124029610)) (by omega)) (Below.refl _ _) (Nat.le_refl _) ?_; intro v203 w4 ho5 hb hg_ hnew_; clear hg_ hnew_; (first | rw [← Ny202.out] at ho5 | (simp only [Int.reduceToNat] at ho5; rw [← Ny202.out] at ho5)); have HO204 := Aside0.mk (Kd.S_lower ho5 (below_size (bz HB))); replace HB := Aside0.mk (below_step (bz HB) hb); clear hb ho5))
 go_loopg [4] k (fun kq v4 w' => ∃ (x3_1 : List (List (ITerm))) (x4_1 : Int), v4 = .int .i64 x4_1 ∧ Aside0 (laws_toTermSS.l0 kq l0 x3_1 x4_1 = some r) ∧ Aside0 (kq ≤ k) ∧ Aside0 (Kd.S (Kd.slice 107 k107) 78 w' w.heap.size (fun _ => True) v203 x3_1) ∧ Aside0 (Below w.heap.size w w'))
 case atStart => exact ⟨(y202), (0), rq, H', ⟨Nat.le_refl _⟩, ⟨ozS HO204⟩, ⟨bz HB⟩⟩
 case round =>
  clear H'
  try clear c1
  try clear c2
  try clear c2b0
  try clear c2b1
  try clear p2
  try clear c3
  try clear c3b0
  try clear c3b1
  obtain ⟨x3_1, x4_1, rfl, HA, HK1, HO_3, HB⟩ := hrel
  cases gk with
  | zero => exact absurd HA.out (by simp [laws_toTermSS.l0])
  | succ k1 =>
   have H := HA.out
   clear HA
   simp only [laws_toTermSS.l0] at H
   by_cases c6 : x4_1 < (l0.length : Int)
   case neg =>
    rw [if_neg c6] at H
    have c6b0 : decide (x4_1 < (l0.length : Int)) = false := decide_eq_false c6
    clear c6
    obtain rfl := Option.some.inj H
    go_wp2
    go_ret
    exact ⟨_, rz, ozS HO_3, bz HB⟩
   rw [if_pos c6] at H
   have c6b0 : decide (x4_1 < (l0.length : Int)) = true := decide_eq_true c6
   clear c6
   by_cases c7 : 0 ≤ x4_1
   case neg =>
    rw [if_neg c7] at H
    exact absurd H (by simp)
   rw [if_pos c7] at H
   have c7b0 : decide (0 ≤ x4_1) = true := decide_eq_true c7
   clear c7
   replace H := Option.bind_eq_some_iff.mp H
   obtain ⟨t206, A80, H⟩ := H
   have A8 := Aside0.mk A80
   clear A80
   by_cases c9 : x4_1 < (x3_1.length : Int)
   case neg =>
    rw [if_neg c9] at H
    exact absurd H (by simp)
   rw [if_pos c9] at H
   have c9b0 : decide (x4_1 < (x3_1.length : Int)) = true := decide_eq_true c9
   clear c9
   obtain ⟨y209, hy209⟩ : ∃ y_ : List (List (ITerm)), y_ = (x3_1.set (x4_1 : Int).toNat t206) := ⟨_, rfl⟩
   replace H : (laws_toTermSS.l0 k1 l0 y209 (wrap64 (x4_1 + 1))) = some r := by first | (rw [hy209]; with_reducible exact H) | (have H2_ := (Option.bind_some _ _).symm.trans H; rw [hy209]; with_reducible exact H2_) | (have H2_ := (Option.bind_some _ _).symm.trans H; with_reducible exact H2_) | with_reducible exact H | (rw [hy209]; exact H) | exact H
   have Ny209 := Aside0.mk hy209
   clear hy209
   have H' := Aside0.mk H
   clear H
   have p205 : 0 ≤ (x4_1 : Int) := dz
   have q205 : x4_1 < (l0.length : Int) := dz
   obtain ⟨ad205, A205_0, c205_0, e205, hx205_0, hl205_0, hi205_0⟩ := at_LLTerm HR0.out x4_1 p205 q205
   cases e205
   replace hx205_0 := xz HB hx205_0
   have HR205_0 := Aside0.mk hi205_0
   have HC205_0 := Aside0.mk hl205_0
   clear hi205_0 hl205_0
   replace p205 := eq_true p205
   replace q205 := eq_true q205
   go_wp2_with (first | ((with_reducible refine gate_callee (f := 115) rfl ?_); refine goesL_ (some 20) rfl rfl Try.func115 (by kernel_rfl) rfl #[.slice A205_0 (rd_LLTerm l0 x4_1).length c205_0] rfl az ?_; (with_reducible refine (laws_toTermS.calls k1 _ _ (rd_LLTerm l0 x4_1) t206 _ ?side1 HC205_0.out A8.out).mono ?_); (case side1 => exact cz HR205_0 HB); rintro e w11 ⟨v207, rfl, ho0, hb⟩; refine ⟨_, rfl, ?_⟩; replace HO_3 := Aside0.mk (Kd.S_elder' (ozS HO_3) (Kd.R_base ho0) hb); have HO208 := Aside0.mk (Kd.R_lower ho0 (below_size (bz HB))); replace HB := Aside0.mk (below_step (bz HB) hb); clear hb; (try clear ho0); have p10 : 0 ≤ (x4_1 : Int) := dz; have q10 : (x4_1 : Int) < ((x3_1.length : Int) : Int) := dz; obtain ⟨go10, co10, eo10, gb10, gl10, cl10, HG10⟩ := Kd.S_form HO_3.out (by omega); (first | cases eo10 | (injection eo10 with ea_ en_ ec_; (first | subst ea_ | (injection ea_ with ea_; subst ea_)); subst ec_; clear en_)); have GB10 := Aside0.mk gb10; have GG10 := Aside0.mk HG10; clear gb10 gl10 HG10; obtain ⟨_, ce10, hcl10, hM10, hcc10, hfr10, _, _⟩ := Kd.S_elem HO_3.out [] (x4_1 : Int) p10 q10; obtain ⟨ve10_0, rfl, ge10_0⟩ := hM10; have hx10_0 := hcc10 0 _ rfl; have hf10_0 := hfr10 0; (try simp only [show ((Kd.slice 107 k107)).sz = 1 from rfl, Nat.mul_one, Nat.add_zero] at hx10_0); (try simp only [show ((Kd.slice 107 k107)).sz = 1 from rfl, Nat.mul_one, Nat.add_zero] at hf10_0); (try clear hcl10); (try clear hcc10); (try clear hfr10); (try clear hM10); replace p10 := eq_true p10; replace q10 := eq_true q10; have n_ := Aside0.mk (Kd.S_mono (ok' := (fun k_ => some k_ ≠ (v207 : Value).ownBlock)) HO_3.out (fun k_ hk => hk.2)); clear HO_3; have HO_3 := n_; clear n_; have HX12 := Aside0.mk (show Kd.S (Kd.slice 107 k107) 78 w11 w.heap.size (fun k_ => ((fun _ => True)) k_ ∧ ¬ ((fun k_ => some k_ = (v207 : Value).ownBlock)) k_) (.slice (some ⟨go10, 0, none⟩) x3_1.length co10) x3_1 from (by (with_reducible repeat (first | apply Kd.S_alloc | apply Kd.S_drewN | apply Kd.S_drew)); exact Kd.S_mono HO_3.out (fun k_ hk => ⟨trivial, fun e_ => hk e_⟩))); obtain ⟨oki12, ce12, hcl12, hM12, hcc12, hfr12, hoki12, hH12⟩ := Kd.S_elem HX12.out [] (x4_1 : Int) (dz) (by have h_ : (x4_1 : Int) < ((x3_1.length : Int) : Int) := dz; first | exact h_ | (have e_ := (Kd.S_reads' HO_3.out).1; omega) | simpa using h_); obtain ⟨ve12_0, rfl, ge12_0⟩ := hM12; have HP12 := Kd.S_seg hH12 (dz) (by have h_ : (x4_1 : Int) < ((x3_1.length : Int) : Int) := dz; first | exact h_ | (have e_ := (Kd.S_reads' HO_3.out).1; omega) | simpa using h_) (seg := [v207]) (j := 0) (show 1 ≤ 1 from by decide) (x' := t206) (Kd.M_row (Kd.R_mono (Kd.R_tight rfl (Kd.R_mono (ok' := fun k_ => ((fun _ => True)) k_ ∧ k_ ≠ go10) (Kd.R_apart' (HO208.out) (Kd.S_typed HO_3.out) (by decide)) (fun k_ hk => ⟨trivial, fun e_ => (hk.2) (by rw [e_]; rfl)⟩))) (fun _ h_ => Or.inr (h_)))) (fun _ hk => hk) (fun k_ hk_ => ((Kd.R_mono (ok' := fun k_ => ((fun _ => True)) k_ ∧ k_ ≠ go10) (Kd.R_apart' (HO208.out) (Kd.S_typed HO_3.out) (by decide)) (fun k_ hk => ⟨trivial, fun e_ => (hk.2) (by rw [e_]; rfl)⟩))).1 k_ hk_.symm); have hx12_0 := hcc12 0 _ rfl; (try simp only [show ((Kd.slice 107 k107)).sz = 1 from rfl, Nat.mul_one, Nat.add_zero] at hx12_0); have hf12_0 := hfr12 0; (try simp only [show ((Kd.slice 107 k107)).sz = 1 from rfl, Nat.mul_one, Nat.add_zero] at hf12_0); (try clear hcl12); (try clear hcc12); (try clear hfr12); (try clear hM12); (try clear hoki12); (try clear hH12); (try simp only [show ((Kd.slice 107 k107)).sz = 1 from rfl, Nat.mul_one, Nat.add_zero] at HP12)) | ((with_reducible refine gate_store (t := 78) (p := 21) rfl ?_); refine store_event (t := 78) (p := 21) (v := ?vo_w13) (w1 := (w11.setCell ⟨go10, (x4_1 : Int).toNat, none⟩ (v207))) ?hg ?ho ?hn ?hr ?_; (case ho => rfl); (case hg => rfl); (case hn => rfl); (case hr => first | (go_simp; done) | (go_simp; rfl) | ((obtain ⟨_, _, ez_⟩ := Kd.R_slice HO208.out; subst ez_); first | (go_simp; done) | (go_simp; rfl))); intro w13 hw; have hg : w11.grownBy w13 (some go10) := (by rw [hw]; exact HP12.2); have hp_ : Kd.S (Kd.slice 107 k107) 78 w13 w.heap.size (fun _ => True) (.slice (some ⟨go10, 0, none⟩) x3_1.length co10) y209 := (by rw [hw, Ny209.out]; exact HP12.1); clear HP12; replace HO_3 := Aside0.mk (hp_); replace HB := Aside0.mk ((by rw [hw]; exact below_set (HB.out) GB10.out : Below w.heap.size w w13)); clear HO208; clear hg hw hp_))
   go_roundg k1
   case measure => have := HK1.out; omega
   case rel => exact ⟨(y209), (wrap64 (x4_1 + 1)), rq, H', ⟨by have := HK1.out; omega⟩, ⟨ozS HO_3⟩, ⟨bz HB⟩⟩
end Go.Proofs.Ytoofhjflfpccdaa.PA
end
section
namespace Go.Proofs.Ytoofhjflfpccdaa.PA
open Go.RowKit Go.Proofs.YtoofhjflfpccdaaW.PrintWords Go.Proofs.YtoofhjflfpccdaaW.PrintLast Go.Proofs.YtoofhjflfpccdaaW.PrintMore
attribute [local go_sem] max2_int min2_int max_two min_two max_three min_three max_four min_four   -- for this text's walks alone
set_option linter.unusedVariables false
set_option linter.unusedSimpArgs false
set_option maxHeartbeats 8000000 in
set_option maxRecDepth 100000 in
theorem laws_toRule.calls (k : Nat) (A0_0 : Option Addr) (c0_0 : Nat) (l0_0 : List (LTerm)) (A0_1 : Option Addr) (c0_1 : Nat) (l0_1 : List Int) (A0_2 : Option Addr) (c0_2 : Nat) (l0_2 : List (List (LTerm))) (r1 : List (ITerm)) (r2 : List Int) (r3 : List (List (ITerm))) (w : World) (hr0_0 : Kd.C k112 w A0_0 l0_0.length l0_0) (hc0_0 : l0_0.length ≤ c0_0) (hr0_1 : Kd.C (Kd.int .i64) w A0_1 l0_1.length l0_1) (hc0_1 : l0_1.length ≤ c0_1) (hr0_2 : Kd.C (Kd.slice 112 k112) w A0_2 l0_2.length l0_2) (hc0_2 : l0_2.length ≤ c0_2) (h : laws_toRule.f k l0_0 l0_1 l0_2 = some (r1, r2, r3)) :
  Calls Try.prog 90 #[.agg #[.slice A0_0 l0_0.length c0_0, .slice A0_1 l0_1.length c0_1, .slice A0_2 l0_2.length c0_2]] w fun e w' => ∃ v0_ v1_ v2_ : Value, e = .returned (.agg #[v0_, v1_, v2_]) ∧ Kd.R k107 107 w' w.heap.size (fun _ => True) v0_ r1 ∧ Kd.R (Kd.int .i64) 3 w' w.heap.size (fun _ => True) v1_ r2 ∧ Kd.S (Kd.slice 107 k107) 78 w' w.heap.size (fun k_ => some k_ ≠ (v0_ : Value).ownBlock) v2_ r3 ∧ Below w.heap.size w w' := by
 have hu75 := Try.underlying75
 have hu81 := Try.underlying81
 have HR0_0 := Aside0.mk hr0_0
 have HC0_0 := Aside0.mk hc0_0
 clear hr0_0 hc0_0
 have HR0_1 := Aside0.mk hr0_1
 have HC0_1 := Aside0.mk hc0_1
 clear hr0_1 hc0_1
 have HR0_2 := Aside0.mk hr0_2
 have HC0_2 := Aside0.mk hc0_2
 clear hr0_2 hc0_2
 have HB := Aside0.mk (Below.refl w.heap.size w)
 have H : ((laws_toTermS.f k l0_0).bind fun t213 => ((laws_toIntS.f k l0_1).bind fun t216 => ((laws_toTermSS.f k l0_2).bind fun t219 => (some (t213, t216, t219))))) = some (r1, r2, r3) := h
 clear h
 replace H := Option.bind_eq_some_iff.mp H
 obtain ⟨t213, A20, H⟩ := H
 have A2 := Aside0.mk A20
 clear A20
 replace H := Option.bind_eq_some_iff.mp H
 obtain ⟨t216, A30, H⟩ := H
 have A3 := Aside0.mk A30
 clear A30
 replace H := Option.bind_eq_some_iff.mp H
 obtain ⟨t219, A40, H⟩ := H
 have A4 := Aside0.mk A40
 clear A40
 simp only [Option.some.injEq, Prod.mk.injEq] at H
 obtain ⟨rfl, rfl, rfl⟩ := H
 go_enter Try.func90, Try.ntmps90
 go_wp2_with (first | ((with_reducible refine gate_dst (N := 1) rfl ?_); refine box_event ?hg (N := 1) ?hd (cs := #[.slice A0_0 l0_0.length c0_0, .slice A0_1 l0_1.length c0_1, .slice A0_2 l0_2.length c0_2]) (t := 75) ?hr ?_; (case hd => rfl); (case hg => rfl); (case hr => first | (go_simp; done) | (go_simp; rfl)); intro gb210 hg w5 hbox hb; have n0_ := Aside0.mk (below_step (bz HB) hb); have n1_ := Aside0.mk (hbox); have n2_ := Aside0.mk ((by rw [hg]; exact (below_size (bz HB)) : w.heap.size ≤ gb210)); have n3_ := Aside0.mk ((by rw [hg]; exact (below_size (bz HB)) : w.heap.size ≤ gb210)); clear HB; have HB := n0_; have BK210 := n1_; have GW210 := n2_; have GE210 := n3_; clear n0_ n1_ n2_ n3_; clear hb hbox hg) | ((with_reducible refine gate_dst (N := 2) rfl ?_); refine box_event ?hg (N := 2) ?hd (cs := #[.slice none 0 0, .slice none 0 0, .slice none 0 0]) (t := 81) ?hr ?_; (case hd => rfl); (case hg => rfl); (case hr => first | (go_simp; done) | (go_simp; rfl)); intro gb211 hg w6 hbox hb; have n0_ := Aside0.mk (blk_below (g := gb210) (o := .cells #[.slice A0_0 l0_0.length c0_0, .slice A0_1 l0_1.length c0_1, .slice A0_2 l0_2.length c0_2] 75 (0, 0)) (kz BK210) hb); have n1_ := Aside0.mk (below_step (bz1 HB GE210) hb); have n2_ := Aside0.mk (hbox); have n3_ := Aside0.mk ((by rw [hg]; exact (below_size (bz1 HB GE210)) : w.heap.size ≤ gb211)); have n4_ := Aside0.mk ((by rw [hg]; exact (below_size (bz1 HB GE210)) : w.heap.size ≤ gb211)); have n5_ := Aside0.mk ((by rw [hg]; exact Nat.ne_of_lt (blk_lt (g := gb210) (o := .cells #[.slice A0_0 l0_0.length c0_0, .slice A0_1 l0_1.length c0_1, .slice A0_2 l0_2.length c0_2] 75 (0, 0)) (kz BK210)) : gb210 ≠ gb211)); have n6_ := Aside0.mk ((by rw [hg]; exact Nat.ne_of_gt (blk_lt (g := gb210) (o := .cells #[.slice A0_0 l0_0.length c0_0, .slice A0_1 l0_1.length c0_1, .slice A0_2 l0_2.length c0_2] 75 (0, 0)) (kz BK210)) : gb211 ≠ gb210)); clear BK210; clear HB; have BK210 := n0_; have HB := n1_; have BK211 := n2_; have GW211 := n3_; have GE211 := n4_; have NB210_211 := n5_; have NB211_210 := n6_; clear n0_ n1_ n2_ n3_ n4_ n5_ n6_; clear hb hbox hg) | ((with_reducible refine gate_dst (N := 3) rfl ?_); refine box_event ?hg (N := 3) ?hd (cs := #[.slice none 0 0, .slice none 0 0, .slice none 0 0]) (t := 81) ?hr ?_; (case hd => rfl); (case hg => rfl); (case hr => first | (go_simp; done) | (go_simp; rfl)); intro gb212 hg w7 hbox hb; have n0_ := Aside0.mk (blk_below (g := gb210) (o := .cells #[.slice A0_0 l0_0.length c0_0, .slice A0_1 l0_1.length c0_1, .slice A0_2 l0_2.length c0_2] 75 (0, 0)) (kz BK210) hb); have n1_ := Aside0.mk (blk_below (g := gb211) (o := .cells #[.slice none 0 0, .slice none 0 0, .slice none 0 0] 81 (0, 0)) (kz BK211) hb); have n2_ := Aside0.mk (below_step (bz2 HB GE210 GE211) hb); have n3_ := Aside0.mk (hbox); have n4_ := Aside0.mk ((by rw [hg]; exact (below_size (bz2 HB GE210 GE211)) : w.heap.size ≤ gb212)); have n5_ := Aside0.mk ((by rw [hg]; exact (below_size (bz2 HB GE210 GE211)) : w.heap.size ≤ gb212)); have n6_ := Aside0.mk ((by rw [hg]; exact Nat.ne_of_lt (blk_lt (g := gb210) (o := .cells #[.slice A0_0 l0_0.length c0_0, .slice A0_1 l0_1.length c0_1, .slice A0_2 l0_2.length c0_2] 75 (0, 0)) (kz BK210)) : gb210 ≠ gb212)); have n7_ := Aside0.mk ((by rw [hg]; exact Nat.ne_of_gt (blk_lt (g := gb210) (o := .cells #[.slice A0_0 l0_0.length c0_0, .slice A0_1 l0_1.length c0_1, .slice A0_2 l0_2.length c0_2] 75 (0, 0)) (kz BK210)) : gb212 ≠ gb210)); have n8_ := Aside0.mk ((by rw [hg]; exact Nat.ne_of_lt (blk_lt (g := gb211) (o := .cells #[.slice none 0 0, .slice none 0 0, .slice none 0 0] 81 (0, 0)) (kz BK211)) : gb211 ≠ gb212)); have n9_ := Aside0.mk ((by rw [hg]; exact Nat.ne_of_gt (blk_lt (g := gb211) (o := .cells #[.slice none 0 0, .slice none 0 0, .slice none 0 0] 81 (0, 0)) (kz BK211)) : gb212 ≠ gb211)); clear BK210; clear BK211; clear HB; have BK210 := n0_; have BK211 := n1_; have HB := n2_; have BK212 := n3_; have GW212 := n4_; have GE212 := n5_; have NB210_212 := n6_; have NB212_210 := n7_; have NB211_212 := n8_; have NB212_211 := n9_; clear n0_ n1_ n2_ n3_ n4_ n5_ n6_ n7_ n8_ n9_; clear hb hbox hg; have hnb8 := NB210_211.out; have hnc8 := NB211_210.out; have hnb9 := NB210_212.out; have hnc9 := NB212_210.out; have hcz10_0 : w7.cell? ⟨gb210, 0, none⟩ = some (.slice A0_0 l0_0.length c0_0) := (blk_cell BK210.out 0).trans rfl; have hcz10_1 : w7.cell? ⟨gb210, 1, none⟩ = some (.slice A0_1 l0_1.length c0_1) := (blk_cell BK210.out 1).trans rfl; have hcz10_2 : w7.cell? ⟨gb210, 2, none⟩ = some (.slice A0_2 l0_2.length c0_2) := (blk_cell BK210.out 2).trans rfl; have hfz10_0 := blk_frozen BK210.out 0; have hfz10_1 := blk_frozen BK210.out 1; have hfz10_2 := blk_frozen BK210.out 2) | ((with_reducible refine gate_callee (f := 115) rfl ?_); refine goesL_ (some 6) rfl rfl Try.func115 (by kernel_rfl) rfl #[.slice A0_0 l0_0.length c0_0] rfl az ?_; (with_reducible refine (laws_toTermS.calls k _ _ l0_0 t213 _ ?side1 HC0_0.out A2.out).mono ?_); (case side1 => exact cz HR0_0 HB); rintro e w11 ⟨v214, rfl, ho0, hb⟩; refine ⟨_, rfl, ?_⟩; have HO215 := Aside0.mk (Kd.R_lower ho0 (below_size (bz3 HB GE210 GE211 GE212))); replace BK210 := Aside0.mk (blk_below (g := gb210) (o := .cells #[.slice A0_0 l0_0.length c0_0, .slice A0_1 l0_1.length c0_1, .slice A0_2 l0_2.length c0_2] 75 (0, 0)) (kz BK210) hb); replace BK211 := Aside0.mk (blk_below (g := gb211) (o := .cells #[.slice none 0 0, .slice none 0 0, .slice none 0 0] 81 (0, 0)) (kz BK211) hb); replace BK212 := Aside0.mk (blk_below (g := gb212) (o := .cells #[.slice none 0 0, .slice none 0 0, .slice none 0 0] 81 (0, 0)) (kz BK212) hb); replace HB := Aside0.mk (below_step (bz3 HB GE210 GE211 GE212) hb); clear hb; (try clear ho0); obtain ⟨Ao12, co12, eo12⟩ := Kd.R_slice HO215.out; subst eo12; have hnb13 := NB212_211.out; have hnc13 := NB211_212.out; have hcz14_0 : w11.cell? ⟨gb212, 0, none⟩ = some (.slice none 0 0) := (blk_cell BK212.out 0).trans rfl; have hcz14_1 : w11.cell? ⟨gb212, 1, none⟩ = some (.slice none 0 0) := (blk_cell BK212.out 1).trans rfl; have hcz14_2 : w11.cell? ⟨gb212, 2, none⟩ = some (.slice none 0 0) := (blk_cell BK212.out 2).trans rfl; have hfz14_0 := blk_frozen BK212.out 0; have hfz14_1 := blk_frozen BK212.out 1; have hfz14_2 := blk_frozen BK212.out 2; have hcz15_0 : w11.cell? ⟨gb210, 0, none⟩ = some (.slice A0_0 l0_0.length c0_0) := (blk_cell BK210.out 0).trans rfl; have hcz15_1 : w11.cell? ⟨gb210, 1, none⟩ = some (.slice A0_1 l0_1.length c0_1) := (blk_cell BK210.out 1).trans rfl; have hcz15_2 : w11.cell? ⟨gb210, 2, none⟩ = some (.slice A0_2 l0_2.length c0_2) := (blk_cell BK210.out 2).trans rfl; have hfz15_0 := blk_frozen BK210.out 0; have hfz15_1 := blk_frozen BK210.out 1; have hfz15_2 := blk_frozen BK210.out 2) | ((with_reducible refine gate_callee (f := 27) rfl ?_); refine goesL_ (some 10) rfl rfl Try.func27 (by kernel_rfl) rfl #[.slice A0_1 l0_1.length c0_1] rfl az ?_; (with_reducible refine (laws_toIntS.calls k _ _ l0_1 t216 _ ?side1 HC0_1.out A3.out).mono ?_); (case side1 => exact Kd.C_below HR0_1.out (bz3 HB GE210 GE211 GE212)); rintro e w16 ⟨v217, rfl, ho0, hb⟩; refine ⟨_, rfl, ?_⟩; replace HO215 := Aside0.mk (Kd.R_below (by (with_reducible repeat (first | apply Kd.R_alloc | apply Kd.R_drewN | apply Kd.R_drew)); exact (Kd.R_mono (Kd.R_far (p := ⟨gb212, 0, none⟩) (Kd.R_types HO215.out BK212.out (by decide)) (fun _ hk => hk.2) (.slice Ao12 t213.length co12)) (fun _ h_ => h_.1))) hb); have HO218 := Aside0.mk (Kd.R_lower ho0 (below_size (bz3 HB GE210 GE211 GE212))); replace BK210 := Aside0.mk (blk_below (g := gb210) (o := .cells #[.slice A0_0 l0_0.length c0_0, .slice A0_1 l0_1.length c0_1, .slice A0_2 l0_2.length c0_2] 75 (0, 0)) (by (with_reducible repeat (first | refine blk_drewN ?_ _ | refine blk_drew ?_ | refine blk_alloc ?_ _)); refine blk_far ?_ NB210_212.out _; exact kz BK210) hb); replace BK211 := Aside0.mk (blk_below (g := gb211) (o := .cells #[.slice none 0 0, .slice none 0 0, .slice none 0 0] 81 (0, 0)) (by (with_reducible repeat (first | refine blk_drewN ?_ _ | refine blk_drew ?_ | refine blk_alloc ?_ _)); refine blk_far ?_ NB211_212.out _; exact kz BK211) hb); replace BK212 := Aside0.mk (blk_below (g := gb212) (o := .cells #[.slice Ao12 t213.length co12, .slice none 0 0, .slice none 0 0] 81 (0, 0)) (by (with_reducible repeat (first | refine blk_drewN ?_ _ | refine blk_drew ?_ | refine blk_alloc ?_ _)); refine blk_put (cs := #[.slice none 0 0, .slice none 0 0, .slice none 0 0]) ?_ 0 _ rfl; exact kz BK212) hb); replace HB := Aside0.mk (below_step (bz3 HB GE210 GE211 GE212) hb); clear hb; (try clear hk); (try clear ho0); obtain ⟨Ao17, co17, eo17⟩ := Kd.R_slice HO218.out; subst eo17; have hcz18_0 : w16.cell? ⟨gb212, 0, none⟩ = some (.slice Ao12 t213.length co12) := (blk_cell BK212.out 0).trans rfl; have hcz18_1 : w16.cell? ⟨gb212, 1, none⟩ = some (.slice none 0 0) := (blk_cell BK212.out 1).trans rfl; have hcz18_2 : w16.cell? ⟨gb212, 2, none⟩ = some (.slice none 0 0) := (blk_cell BK212.out 2).trans rfl; have hfz18_0 := blk_frozen BK212.out 0; have hfz18_1 := blk_frozen BK212.out 1; have hfz18_2 := blk_frozen BK212.out 2; have hcz19_0 : w16.cell? ⟨gb210, 0, none⟩ = some (.slice A0_0 l0_0.length c0_0) := (blk_cell BK210.out 0).trans rfl; have hcz19_1 : w16.cell? ⟨gb210, 1, none⟩ = some (.slice A0_1 l0_1.length c0_1) := (blk_cell BK210.out 1).trans rfl; have hcz19_2 : w16.cell? ⟨gb210, 2, none⟩ = some (.slice A0_2 l0_2.length c0_2) := (blk_cell BK210.out 2).trans rfl; have hfz19_0 := blk_frozen BK210.out 0; have hfz19_1 := blk_frozen BK210.out 1; have hfz19_2 := blk_frozen BK210.out 2) | ((with_reducible refine gate_callee (f := 116) rfl ?_); refine goesL_ (some 14) rfl rfl Try.func116 (by kernel_rfl) rfl #[.slice A0_2 l0_2.length c0_2] rfl az ?_; (with_reducible refine (laws_toTermSS.calls k _ _ l0_2 t219 _ ?side1 HC0_2.out A4.out).mono ?_); (case side1 => exact Kd.C_below HR0_2.out (bz3 HB GE210 GE211 GE212)); rintro e w20 ⟨v220, rfl, ho0, hb⟩; refine ⟨_, rfl, ?_⟩; have n0_ := Aside0.mk (Kd.R_below (by (with_reducible repeat (first | apply Kd.R_alloc | apply Kd.R_drewN | apply Kd.R_drew)); exact (Kd.R_mono (Kd.R_far (p := ⟨gb212, 1, none⟩) (Kd.R_types HO215.out BK212.out (by decide)) (fun _ hk => hk.2) (.slice Ao17 t216.length co17)) (fun _ h_ => h_.1))) hb); have n1_ := Aside0.mk (Kd.R_below (by (with_reducible repeat (first | apply Kd.R_alloc | apply Kd.R_drewN | apply Kd.R_drew)); exact (Kd.R_mono (Kd.R_far (p := ⟨gb212, 1, none⟩) (Kd.R_types HO218.out BK212.out (by decide)) (fun _ hk => hk.2) (.slice Ao17 t216.length co17)) (fun _ h_ => h_.1))) hb); have n2_ := Aside0.mk (Kd.S_lower (Kd.S_new' ho0 (Kd.R_lt (by (with_reducible repeat (first | apply Kd.R_alloc | apply Kd.R_drewN | apply Kd.R_drew)); exact (Kd.R_mono (Kd.R_far (p := ⟨gb212, 1, none⟩) (Kd.R_types HO215.out BK212.out (by decide)) (fun _ hk => hk.2) (.slice Ao17 t216.length co17)) (fun _ h_ => h_.1))))) (below_size (bz3 HB GE210 GE211 GE212))); have n3_ := Aside0.mk (blk_below (g := gb210) (o := .cells #[.slice A0_0 l0_0.length c0_0, .slice A0_1 l0_1.length c0_1, .slice A0_2 l0_2.length c0_2] 75 (0, 0)) (by (with_reducible repeat (first | refine blk_drewN ?_ _ | refine blk_drew ?_ | refine blk_alloc ?_ _)); refine blk_far ?_ NB210_212.out _; exact kz BK210) hb); have n4_ := Aside0.mk (blk_below (g := gb211) (o := .cells #[.slice none 0 0, .slice none 0 0, .slice none 0 0] 81 (0, 0)) (by (with_reducible repeat (first | refine blk_drewN ?_ _ | refine blk_drew ?_ | refine blk_alloc ?_ _)); refine blk_far ?_ NB211_212.out _; exact kz BK211) hb); have n5_ := Aside0.mk (blk_below (g := gb212) (o := .cells #[.slice Ao12 t213.length co12, .slice Ao17 t216.length co17, .slice none 0 0] 81 (0, 0)) (by (with_reducible repeat (first | refine blk_drewN ?_ _ | refine blk_drew ?_ | refine blk_alloc ?_ _)); refine blk_put (cs := #[.slice Ao12 t213.length co12, .slice none 0 0, .slice none 0 0]) ?_ 1 _ rfl; exact kz BK212) hb); have n6_ := Aside0.mk (below_step (bz3 HB GE210 GE211 GE212) hb); clear HO215; clear HO218; clear BK210; clear BK211; clear BK212; clear HB; have HO215 := n0_; have HO218 := n1_; have HO221 := n2_; have BK210 := n3_; have BK211 := n4_; have BK212 := n5_; have HB := n6_; clear n0_ n1_ n2_ n3_ n4_ n5_ n6_; clear hb; (try clear hk); (try clear ho0); obtain ⟨Ao21, co21, eo21⟩ := Kd.S_slice HO221.out; subst eo21; have hcz22_0 : w20.cell? ⟨gb212, 0, none⟩ = some (.slice Ao12 t213.length co12) := (blk_cell BK212.out 0).trans rfl; have hcz22_1 : w20.cell? ⟨gb212, 1, none⟩ = some (.slice Ao17 t216.length co17) := (blk_cell BK212.out 1).trans rfl; have hcz22_2 : w20.cell? ⟨gb212, 2, none⟩ = some (.slice none 0 0) := (blk_cell BK212.out 2).trans rfl; have hfz22_0 := blk_frozen BK212.out 0; have hfz22_1 := blk_frozen BK212.out 1; have hfz22_2 := blk_frozen BK212.out 2; have hcz23_0 : w20.cell? ⟨gb211, 0, none⟩ = some (.slice none 0 0) := (blk_cell BK211.out 0).trans rfl; have hcz23_1 : w20.cell? ⟨gb211, 1, none⟩ = some (.slice none 0 0) := (blk_cell BK211.out 1).trans rfl; have hcz23_2 : w20.cell? ⟨gb211, 2, none⟩ = some (.slice none 0 0) := (blk_cell BK211.out 2).trans rfl; have hfz23_0 := blk_frozen BK211.out 0; have hfz23_1 := blk_frozen BK211.out 1; have hfz23_2 := blk_frozen BK211.out 2))
 refine bodyPost_ret (results_cell_row rfl _ _ gb211 81 #[.slice Ao12 t213.length co12, .slice Ao17 t216.length co17, .slice Ao21 t219.length co21] (0, 0) _ rfl (by (with_reducible repeat (first | refine blk_drewN ?_ _ | refine blk_drew ?_ | refine blk_alloc ?_ _)); refine blk_put (cs := #[.slice Ao12 t213.length co12, .slice Ao17 t216.length co17, .slice none 0 0]) ?_ 2 _ rfl; (with_reducible repeat (first | refine blk_drewN ?_ _ | refine blk_drew ?_ | refine blk_alloc ?_ _)); refine blk_put (cs := #[.slice Ao12 t213.length co12, .slice none 0 0, .slice none 0 0]) ?_ 1 _ rfl; (with_reducible repeat (first | refine blk_drewN ?_ _ | refine blk_drew ?_ | refine blk_alloc ?_ _)); refine blk_put (cs := #[.slice none 0 0, .slice none 0 0, .slice none 0 0]) ?_ 0 _ rfl; (with_reducible repeat (first | refine blk_drewN ?_ _ | refine blk_drew ?_ | refine blk_alloc ?_ _)); refine blk_far ?_ NB211_212.out _; exact kz BK211) Try.underlying81 rfl (by kernel_rfl)) rfl ?_
 exact ⟨_, _, _, rz, by (with_reducible repeat (first | apply Kd.R_alloc | apply Kd.R_drewN | apply Kd.R_drew)); exact Kd.R_mono (Kd.R_far (p := ⟨gb211, 2, none⟩) (Kd.R_far (p := ⟨gb211, 1, none⟩) (Kd.R_far (p := ⟨gb211, 0, none⟩) (Kd.R_far (p := ⟨gb212, 2, none⟩) (Kd.R_types (Kd.R_types HO215.out BK212.out (by decide)) BK211.out (by decide)) (fun _ hk => hk.1.2) (.slice Ao21 t219.length co21)) (fun _ hk => hk.2) (.slice Ao12 t213.length co12)) (fun _ hk => hk.2) (.slice Ao17 t216.length co17)) (fun _ hk => hk.2) (.slice Ao21 t219.length co21)) (fun _ hk => trivial), by (with_reducible repeat (first | apply Kd.R_alloc | apply Kd.R_drewN | apply Kd.R_drew)); exact Kd.R_mono (Kd.R_far (p := ⟨gb211, 2, none⟩) (Kd.R_far (p := ⟨gb211, 1, none⟩) (Kd.R_far (p := ⟨gb211, 0, none⟩) (Kd.R_far (p := ⟨gb212, 2, none⟩) (Kd.R_types (Kd.R_types HO218.out BK212.out (by decide)) BK211.out (by decide)) (fun _ hk => hk.1.2) (.slice Ao21 t219.length co21)) (fun _ hk => hk.2) (.slice Ao12 t213.length co12)) (fun _ hk => hk.2) (.slice Ao17 t216.length co17)) (fun _ hk => hk.2) (.slice Ao21 t219.length co21)) (fun _ hk => trivial), by (with_reducible repeat (first | apply Kd.S_alloc | apply Kd.S_drewN | apply Kd.S_drew)); exact Kd.S_mono (Kd.S_far (p := ⟨gb211, 2, none⟩) (Kd.S_far (p := ⟨gb211, 1, none⟩) (Kd.S_far (p := ⟨gb211, 0, none⟩) (Kd.S_far (p := ⟨gb212, 2, none⟩) (Kd.S_types (Kd.S_types HO221.out BK212.out (by decide)) BK211.out (by decide)) (fun _ hk => hk.1.2) (.slice Ao21 t219.length co21)) (fun _ hk => hk.2) (.slice Ao12 t213.length co12)) (fun _ hk => hk.2) (.slice Ao17 t216.length co17)) (fun _ hk => hk.2) (.slice Ao21 t219.length co21)) (fun _ hk => hk.1.1.2), bz3 HB GE210 GE211 GE212⟩
end Go.Proofs.Ytoofhjflfpccdaa.PA
end
section
namespace Go.Proofs.Ytoofhjflfpccdaa.PA
open Go.RowKit Go.Proofs.YtoofhjflfpccdaaW.PrintWords Go.Proofs.YtoofhjflfpccdaaW.PrintLast Go.Proofs.YtoofhjflfpccdaaW.PrintMore
attribute [local go_sem] max2_int min2_int max_two min_two max_three min_three max_four min_four   -- for this text's walks alone
set_option linter.unusedVariables false
set_option linter.unusedSimpArgs false
set_option maxHeartbeats 8000000 in
set_option maxRecDepth 100000 in
theorem laws_toRuleS.calls (k : Nat) (A0 : Option Addr) (c0 : Nat) (l0 : List (LRule)) (r : List (IRule)) (w : World) (hr0 : Kd.C k75 w A0 l0.length l0) (hc0 : l0.length ≤ c0) (h : laws_toRuleS.f k l0 = some r) :
  Calls Try.prog 53 #[.slice A0 l0.length c0] w fun e w' => ∃ v0_ : Value, e = .returned (v0_) ∧ Kd.R k81 81 w' w.heap.size (fun _ => True) v0_ r ∧ Below w.heap.size w w' := by
 have hu75 := Try.underlying75
 have hu81 := Try.underlying81
 have HR0 := Aside0.mk hr0
 have HC0 := Aside0.mk hc0
 clear hr0 hc0
 have HB := Aside0.mk (Below.refl w.heap.size w)
 have H : (if 0 ≤ (l0.length : Int) then (if ((l0.length : Int) : Int).toNat ≤ 3909374676536 then (laws_toRuleS.l0 k l0 (List.replicate ((l0.length : Int) : Int).toNat zIRule) 0) else (none)) else (none)) = some r := h
 clear h
 by_cases c2 : 0 ≤ (l0.length : Int)
 case neg =>
  rw [if_neg c2] at H
  exact absurd H (by simp)
 rw [if_pos c2] at H
 have c2b0 := eq_true c2
 have c2b1 : decide (0 ≤ (l0.length : Int)) = true := decide_eq_true c2
 clear c2
 by_cases c3 : ((l0.length : Int) : Int).toNat ≤ 3909374676536
 case neg =>
  rw [if_neg c3] at H
  exact absurd H (by simp)
 rw [if_pos c3] at H
 have c3b0 := eq_true c3
 have c3b1 : decide (((l0.length : Int) : Int).toNat ≤ 3909374676536) = true := decide_eq_true c3
 clear c3
 obtain ⟨y222, hy222⟩ : ∃ y_ : List (IRule), y_ = (List.replicate ((l0.length : Int) : Int).toNat zIRule) := ⟨_, rfl⟩
 replace H : (laws_toRuleS.l0 k l0 y222 0) = some r := by first | (rw [hy222]; with_reducible exact H) | (have H2_ := (Option.bind_some _ _).symm.trans H; rw [hy222]; with_reducible exact H2_) | (have H2_ := (Option.bind_some _ _).symm.trans H; with_reducible exact H2_) | with_reducible exact H | (rw [hy222]; exact H) | exact H
 have Ny222 := Aside0.mk hy222
 clear hy222
 have H' := Aside0.mk H
 clear H
 go_enter Try.func53, Try.ntmps53
 go_wp2_with (first | ((with_reducible refine gate_dst (N := 7) rfl ?_); refine Kd.R_make k81 _ 81 rfl (N := 7) rfl 29 _ _ rfl (l0.length : Int) rfl rfl Try.underlying29 (.agg #[(.slice none 0 0), (.slice none 0 0), (.slice none 0 0)]) 72 info81 rfl (by decide) (by omega) zIRule (ok := fun _ => True) (okp := fun _ => True) (k81_mkM _ _ _ zIRule (Kd.R_nil _ _ _ _ _) (Kd.R_nil _ _ _ _ _) (Kd.R_nil _ _ _ _ _)) (fun _ hk => hk) trivial (dz) (Nat.le_trans (Nat.mul_le_mul_right _ (dz : (l0.length : Int).toNat ≤ 3909374676536)) (by omega)) (Below.refl _ _) (Nat.le_refl _) ?_; intro v223 w4 ho5 hb hg_ hnew_; clear hg_ hnew_; (first | rw [← Ny222.out] at ho5 | (simp only [Int.reduceToNat] at ho5; rw [← Ny222.out] at ho5)); have HO224 := Aside0.mk (Kd.R_lower ho5 (below_size (bz HB))); replace HB := Aside0.mk (below_step (bz HB) hb); clear hb ho5))
 go_loopg [4] k (fun kq v4 w' => ∃ (x3_1 : List (IRule)) (x4_1 : Int), v4 = .int .i64 x4_1 ∧ Aside0 (laws_toRuleS.l0 kq l0 x3_1 x4_1 = some r) ∧ Aside0 (kq ≤ k) ∧ Aside0 (Kd.R k81 81 w' w.heap.size (fun _ => True) v223 x3_1) ∧ Aside0 (Below w.heap.size w w'))
 case atStart => exact ⟨(y222), (0), rq, H', ⟨Nat.le_refl _⟩, ⟨ozR HO224⟩, ⟨bz HB⟩⟩
 case round =>
  clear H'
  try clear c2
  try clear c2b0
  try clear c2b1
  try clear p2
  try clear c3
  try clear c3b0
  try clear c3b1
  try clear c5
  obtain ⟨x3_1, x4_1, rfl, HA, HK1, HO_3, HB⟩ := hrel
  cases gk with
  | zero => exact absurd HA.out (by simp [laws_toRuleS.l0])
  | succ k1 =>
   have H := HA.out
   clear HA
   simp only [laws_toRuleS.l0] at H
   by_cases c6 : x4_1 < (l0.length : Int)
   case neg =>
    rw [if_neg c6] at H
    have c6b0 : decide (x4_1 < (l0.length : Int)) = false := decide_eq_false c6
    clear c6
    obtain rfl := Option.some.inj H
    go_wp2
    go_ret
    exact ⟨_, rz, ozR HO_3, bz HB⟩
   rw [if_pos c6] at H
   have c6b0 : decide (x4_1 < (l0.length : Int)) = true := decide_eq_true c6
   clear c6
   by_cases c7 : 0 ≤ x4_1
   case neg =>
    rw [if_neg c7] at H
    exact absurd H (by simp)
   rw [if_pos c7] at H
   have c7b0 : decide (0 ≤ x4_1) = true := decide_eq_true c7
   clear c7
   replace H := Option.bind_eq_some_iff.mp H
   obtain ⟨⟨t226, t229, t232⟩, A80, H⟩ := H
   dsimp only at H
   have A8 := Aside0.mk A80
   clear A80
   by_cases c9 : x4_1 < (x3_1.length : Int)
   case neg =>
    rw [if_neg c9] at H
    exact absurd H (by simp)
   rw [if_pos c9] at H
   have c9b0 : decide (x4_1 < (x3_1.length : Int)) = true := decide_eq_true c9
   clear c9
   obtain ⟨y235, hy235⟩ : ∃ y_ : List (IRule), y_ = (x3_1.set (x4_1 : Int).toNat (⟨t226, t229, t232⟩ : IRule)) := ⟨_, rfl⟩
   replace H : (laws_toRuleS.l0 k1 l0 y235 (wrap64 (x4_1 + 1))) = some r := by first | (rw [hy235]; with_reducible exact H) | (have H2_ := (Option.bind_some _ _).symm.trans H; rw [hy235]; with_reducible exact H2_) | (have H2_ := (Option.bind_some _ _).symm.trans H; with_reducible exact H2_) | with_reducible exact H | (rw [hy235]; exact H) | exact H
   have Ny235 := Aside0.mk hy235
   clear hy235
   have H' := Aside0.mk H
   clear H
   have p225 : 0 ≤ (x4_1 : Int) := dz
   have q225 : x4_1 < (l0.length : Int) := dz
   obtain ⟨ad225, A225_0, c225_0, A225_1, c225_1, A225_2, c225_2, e225, hx225_0, hx225_1, hx225_2, hl225_0, hi225_0, hl225_1, hi225_1, hl225_2, hi225_2⟩ := at_LRule HR0.out x4_1 p225 q225
   cases e225
   replace hx225_0 := xz HB hx225_0
   replace hx225_1 := xz HB hx225_1
   replace hx225_2 := xz HB hx225_2
   have HR225_0 := Aside0.mk hi225_0
   have HC225_0 := Aside0.mk hl225_0
   clear hi225_0 hl225_0
   have HR225_1 := Aside0.mk hi225_1
   have HC225_1 := Aside0.mk hl225_1
   clear hi225_1 hl225_1
   have HR225_2 := Aside0.mk hi225_2
   have HC225_2 := Aside0.mk hl225_2
   clear hi225_2 hl225_2
   replace p225 := eq_true p225
   replace q225 := eq_true q225
   go_wp2_with (first | ((with_reducible refine gate_callee (f := 90) rfl ?_); refine goesL_ (some 20) rfl rfl Try.func90 (by kernel_rfl) rfl #[.agg #[.slice A225_0 ((rd_LRule l0 x4_1).f0).length c225_0, .slice A225_1 ((rd_LRule l0 x4_1).f1).length c225_1, .slice A225_2 ((rd_LRule l0 x4_1).f2).length c225_2]] rfl az ?_; (with_reducible refine (laws_toRule.calls k1 _ _ ((rd_LRule l0 x4_1).f0) _ _ ((rd_LRule l0 x4_1).f1) _ _ ((rd_LRule l0 x4_1).f2) t226 t229 t232 _ ?side1 HC225_0.out ?side3 HC225_1.out ?side5 HC225_2.out A8.out).mono ?_); (case side1 => exact cz HR225_0 HB); (case side3 => exact cz HR225_1 HB); (case side5 => exact cz HR225_2 HB); rintro e w11 ⟨v227, v230, v233, rfl, ho0, ho1, ho2, hb⟩; refine ⟨_, rfl, ?_⟩; replace HO_3 := Aside0.mk (Kd.R_mono (Kd.R_told (Kd.R_told (Kd.R_told (Kd.R_old (ozR HO_3) hb) (Kd.R_base ho0)) (Kd.R_base ho1)) (Kd.S_base ho2)) (fun _ h_ => h_.1)); have HO228 := Aside0.mk (Kd.R_lower ho0 (below_size (bz HB))); have HO231 := Aside0.mk (Kd.R_lower ho1 (below_size (bz HB))); have HO234 := Aside0.mk (Kd.S_lower ho2 (below_size (bz HB))); replace HB := Aside0.mk (below_step (bz HB) hb); clear hb; (try clear ho0); (try clear ho1); (try clear ho2); have p10 : 0 ≤ (x4_1 : Int) := dz; have q10 : (x4_1 : Int) < ((x3_1.length : Int) : Int) := dz; obtain ⟨go10, co10, eo10, gb10, gl10, cl10, HG10⟩ := Kd.R_form HO_3.out (by omega); (first | cases eo10 | (injection eo10 with ea_ en_ ec_; (first | subst ea_ | (injection ea_ with ea_; subst ea_)); subst ec_; clear en_)); have GB10 := Aside0.mk gb10; have GG10 := Aside0.mk HG10; clear gb10 gl10 HG10; obtain ⟨ce10, hcl10, hM10, hcc10, hfr10⟩ := Kd.R_elem HO_3.out zIRule (x4_1 : Int) p10 q10; obtain ⟨ve10_0, ve10_1, ve10_2, rfl, ge10_0, ge10_1, ge10_2⟩ := k81_openM hM10; have hx10_0 : w11.cell? ⟨go10, (x4_1 : Int).toNat * 3, none⟩ = some (ve10_0) := hcc10 0 _ rfl; have hx10_1 : w11.cell? ⟨go10, (x4_1 : Int).toNat * 3 + 1, none⟩ = some (ve10_1) := hcc10 1 _ rfl; have hx10_2 : w11.cell? ⟨go10, (x4_1 : Int).toNat * 3 + 2, none⟩ = some (ve10_2) := hcc10 2 _ rfl; have hf10_0 : w11.frozen? ⟨go10, (x4_1 : Int).toNat * 3, none⟩ = false := hfr10 0; have hf10_1 : w11.frozen? ⟨go10, (x4_1 : Int).toNat * 3 + 1, none⟩ = false := hfr10 1; have hf10_2 : w11.frozen? ⟨go10, (x4_1 : Int).toNat * 3 + 2, none⟩ = false := hfr10 2; (try clear hcl10); (try clear hcc10); (try clear hfr10); (try clear hM10); replace p10 := eq_true p10; replace q10 := eq_true q10; have n_ := Aside0.mk (Kd.R_mono (ok' := (fun k_ => some k_ ≠ (v227 : Value).ownBlock ∧ some k_ ≠ (v230 : Value).ownBlock ∧ some k_ ≠ (v233 : Value).ownBlock)) HO_3.out (fun k_ hk => ⟨hk.1.1.2, ⟨hk.1.2, hk.2⟩⟩)); clear HO_3; have HO_3 := n_; clear n_; have HX12 := Aside0.mk (show Kd.R k81 81 w11 w.heap.size (fun _ => True) (.slice (some ⟨go10, 0, none⟩) x3_1.length co10) x3_1 from (by (with_reducible repeat (first | apply Kd.R_alloc | apply Kd.R_drewN | apply Kd.R_drew)); exact Kd.R_mono HO_3.out (fun _ hk => trivial))); obtain ⟨ce12, hcl12, hM12, hcc12, hfr12⟩ := Kd.R_elem HX12.out zIRule (x4_1 : Int) (dz) (by have h_ : (x4_1 : Int) < ((x3_1.length : Int) : Int) := dz; first | exact h_ | (have e_ := (Kd.R_reads' HO_3.out).1; omega) | simpa using h_); obtain ⟨ve12_0, ve12_1, ve12_2, rfl, ge12_0, ge12_1, ge12_2⟩ := k81_openM hM12; have HP12 := Kd.R_seg HX12.out (x4_1 : Int) (dz) (by have h_ : (x4_1 : Int) < ((x3_1.length : Int) : Int) := dz; first | exact h_ | (have e_ := (Kd.R_reads' HO_3.out).1; omega) | simpa using h_) (seg := [v227, v230, v233]) (j := 0) hcl12 hcc12 (show 3 ≤ 3 from by decide) (x' := (⟨t226, t229, t232⟩ : IRule)) (k81_mkM _ _ _ (⟨t226, t229, t232⟩ : IRule) (Kd.R_mono (Kd.R_apart' (HO228.out) (Kd.R_typed HO_3.out) (by decide)) (fun k_ hk => ⟨trivial, fun e_ => (hk.2) (by rw [e_]; rfl)⟩)) (Kd.R_mono (Kd.R_apart' (HO231.out) (Kd.R_typed HO_3.out) (by decide)) (fun k_ hk => ⟨trivial, fun e_ => (hk.2) (by rw [e_]; rfl)⟩)) (Kd.R_mono (Kd.R_apart' ((Kd.S_R HO234.out)) (Kd.R_typed HO_3.out) (by decide)) (fun k_ hk => ⟨trivial, fun e_ => (hk.2) (by rw [e_]; rfl)⟩))) (fun _ hk => hk); have hx12_0 := hcc12 0 _ rfl; (try simp only [show (k81).sz = 3 from rfl, Nat.mul_one, Nat.add_zero] at hx12_0); have hf12_0 := hfr12 0; (try simp only [show (k81).sz = 3 from rfl, Nat.mul_one, Nat.add_zero] at hf12_0); have hx12_1 := hcc12 1 _ rfl; (try simp only [show (k81).sz = 3 from rfl, Nat.mul_one, Nat.add_zero] at hx12_1); have hf12_1 := hfr12 1; (try simp only [show (k81).sz = 3 from rfl, Nat.mul_one, Nat.add_zero] at hf12_1); have hx12_2 := hcc12 2 _ rfl; (try simp only [show (k81).sz = 3 from rfl, Nat.mul_one, Nat.add_zero] at hx12_2); have hf12_2 := hfr12 2; (try simp only [show (k81).sz = 3 from rfl, Nat.mul_one, Nat.add_zero] at hf12_2); (try clear hcl12); (try clear hcc12); (try clear hfr12); (try clear hM12)) | ((with_reducible refine gate_store (t := 81) (p := 21) rfl ?_); refine store_event (t := 81) (p := 21) (v := ?vo_w13) (w1 := (((w11.setCell ⟨go10, (x4_1 : Int).toNat * 3, none⟩ (v227)).setCell ⟨go10, (x4_1 : Int).toNat * 3 + 1, none⟩ (v230)).setCell ⟨go10, (x4_1 : Int).toNat * 3 + 2, none⟩ (v233))) ?hg ?ho ?hn ?hr ?_; (case ho => rfl); (case hg => rfl); (case hn => rfl); (case hr => first | (go_simp; done) | (go_simp; rfl) | ((obtain ⟨_, _, ez_⟩ := Kd.R_slice HO228.out; subst ez_); (obtain ⟨_, _, ez_⟩ := Kd.R_slice HO231.out; subst ez_); (obtain ⟨_, _, ez_⟩ := Kd.S_slice HO234.out; subst ez_); first | (go_simp; done) | (go_simp; rfl))); intro w13 hw; have hg : w11.grownBy w13 (some go10) := (by rw [hw]; exact HP12.2); have hp_ : Kd.R k81 81 w13 w.heap.size (fun _ => True) (.slice (some ⟨go10, 0, none⟩) x3_1.length co10) y235 := (by rw [hw, Ny235.out]; exact HP12.1); clear HP12; replace HO_3 := Aside0.mk (hp_); replace HB := Aside0.mk ((by rw [hw]; exact below_set (below_set (below_set (HB.out) GB10.out) GB10.out) GB10.out : Below w.heap.size w w13)); clear HO228; clear HO231; clear HO234; clear hg hw hp_))
   go_roundg k1
   case measure => have := HK1.out; omega
   case rel => exact ⟨(y235), (wrap64 (x4_1 + 1)), rq, H', ⟨by have := HK1.out; omega⟩, ⟨ozR HO_3⟩, ⟨bz HB⟩⟩
end Go.Proofs.Ytoofhjflfpccdaa.PA
end
section
namespace Go.Proofs.Ytoofhjflfpccdaa.PA
open Go.RowKit Go.Proofs.YtoofhjflfpccdaaW.PrintWords Go.Proofs.YtoofhjflfpccdaaW.PrintLast Go.Proofs.YtoofhjflfpccdaaW.PrintMore
attribute [local go_sem] max2_int min2_int max_two min_two max_three min_three max_four min_four   -- for this text's walks alone
set_option linter.unusedVariables false
set_option linter.unusedSimpArgs false
set_option maxHeartbeats 8000000 in
set_option maxRecDepth 100000 in
theorem laws_toSystem.calls (k : Nat) (A0_0 : Option Addr) (c0_0 : Nat) (l0_0 : List (LVar)) (A0_1 : Option Addr) (c0_1 : Nat) (l0_1 : List (LRule)) (r1 : List (IVar)) (r2 : List (IRule)) (w : World) (hr0_0 : Kd.C k84 w A0_0 l0_0.length l0_0) (hc0_0 : l0_0.length ≤ c0_0) (hr0_1 : Kd.C k75 w A0_1 l0_1.length l0_1) (hc0_1 : l0_1.length ≤ c0_1) (h : laws_toSystem.f k l0_0 l0_1 = some (r1, r2)) :
  Calls Try.prog 17 #[.agg #[.slice A0_0 l0_0.length c0_0, .slice A0_1 l0_1.length c0_1]] w fun e w' => ∃ v0_ v1_ : Value, e = .returned (.agg #[v0_, v1_]) ∧ Kd.R k62 62 w' w.heap.size (fun _ => True) v0_ r1 ∧ Kd.R k81 81 w' w.heap.size (fun _ => True) v1_ r2 ∧ Below w.heap.size w w' := by
 have hu25 := Try.underlying25
 have hu31 := Try.underlying31
 have HR0_0 := Aside0.mk hr0_0
 have HC0_0 := Aside0.mk hc0_0
 clear hr0_0 hc0_0
 have HR0_1 := Aside0.mk hr0_1
 have HC0_1 := Aside0.mk hc0_1
 clear hr0_1 hc0_1
 have HB := Aside0.mk (Below.refl w.heap.size w)
 have H : ((laws_toVarS.f k l0_0).bind fun t239 => ((laws_toRuleS.f k l0_1).bind fun t242 => (some (t239, t242)))) = some (r1, r2) := h
 clear h
 replace H := Option.bind_eq_some_iff.mp H
 obtain ⟨t239, A20, H⟩ := H
 have A2 := Aside0.mk A20
 clear A20
 replace H := Option.bind_eq_some_iff.mp H
 obtain ⟨t242, A30, H⟩ := H
 have A3 := Aside0.mk A30
 clear A30
 simp only [Option.some.injEq, Prod.mk.injEq] at H
 obtain ⟨rfl, rfl⟩ := H
 go_enter Try.func17, Try.ntmps17
 go_wp2_with (first | ((with_reducible refine gate_dst (N := 1) rfl ?_); refine box_event ?hg (N := 1) ?hd (cs := #[.slice A0_0 l0_0.length c0_0, .slice A0_1 l0_1.length c0_1]) (t := 25) ?hr ?_; (case hd => rfl); (case hg => rfl); (case hr => first | (go_simp; done) | (go_simp; rfl)); intro gb236 hg w4 hbox hb; have n0_ := Aside0.mk (below_step (bz HB) hb); have n1_ := Aside0.mk (hbox); have n2_ := Aside0.mk ((by rw [hg]; exact (below_size (bz HB)) : w.heap.size ≤ gb236)); have n3_ := Aside0.mk ((by rw [hg]; exact (below_size (bz HB)) : w.heap.size ≤ gb236)); clear HB; have HB := n0_; have BK236 := n1_; have GW236 := n2_; have GE236 := n3_; clear n0_ n1_ n2_ n3_; clear hb hbox hg) | ((with_reducible refine gate_dst (N := 2) rfl ?_); refine box_event ?hg (N := 2) ?hd (cs := #[.slice none 0 0, .slice none 0 0]) (t := 31) ?hr ?_; (case hd => rfl); (case hg => rfl); (case hr => first | (go_simp; done) | (go_simp; rfl)); intro gb237 hg w5 hbox hb; have n0_ := Aside0.mk (blk_below (g := gb236) (o := .cells #[.slice A0_0 l0_0.length c0_0, .slice A0_1 l0_1.length c0_1] 25 (0, 0)) (kz BK236) hb); have n1_ := Aside0.mk (below_step (bz1 HB GE236) hb); have n2_ := Aside0.mk (hbox); have n3_ := Aside0.mk ((by rw [hg]; exact (below_size (bz1 HB GE236)) : w.heap.size ≤ gb237)); have n4_ := Aside0.mk ((by rw [hg]; exact (below_size (bz1 HB GE236)) : w.heap.size ≤ gb237)); have n5_ := Aside0.mk ((by rw [hg]; exact Nat.ne_of_lt (blk_lt (g := gb236) (o := .cells #[.slice A0_0 l0_0.length c0_0, .slice A0_1 l0_1.length c0_1] 25 (0, 0)) (kz BK236)) : gb236 ≠ gb237)); have n6_ := Aside0.mk ((by rw [hg]; exact Nat.ne_of_gt (blk_lt (g := gb236) (o := .cells #[.slice A0_0 l0_0.length c0_0, .slice A0_1 l0_1.length c0_1] 25 (0, 0)) (kz BK236)) : gb237 ≠ gb236)); clear BK236; clear HB; have BK236 := n0_; have HB := n1_; have BK237 := n2_; have GW237 := n3_; have GE237 := n4_; have NB236_237 := n5_; have NB237_236 := n6_; clear n0_ n1_ n2_ n3_ n4_ n5_ n6_; clear hb hbox hg) | ((with_reducible refine gate_dst (N := 3) rfl ?_); refine box_event ?hg (N := 3) ?hd (cs := #[.slice none 0 0, .slice none 0 0]) (t := 31) ?hr ?_; (case hd => rfl); (case hg => rfl); (case hr => first | (go_simp; done) | (go_simp; rfl)); intro gb238 hg w6 hbox hb; have n0_ := Aside0.mk (blk_below (g := gb236) (o := .cells #[.slice A0_0 l0_0.length c0_0, .slice A0_1 l0_1.length c0_1] 25 (0, 0)) (kz BK236) hb); have n1_ := Aside0.mk (blk_below (g := gb237) (o := .cells #[.slice none 0 0, .slice none 0 0] 31 (0, 0)) (kz BK237) hb); have n2_ := Aside0.mk (below_step (bz2 HB GE236 GE237) hb); have n3_ := Aside0.mk (hbox); have n4_ := Aside0.mk ((by rw [hg]; exact (below_size (bz2 HB GE236 GE237)) : w.heap.size ≤ gb238)); have n5_ := Aside0.mk ((by rw [hg]; exact (below_size (bz2 HB GE236 GE237)) : w.heap.size ≤ gb238)); have n6_ := Aside0.mk ((by rw [hg]; exact Nat.ne_of_lt (blk_lt (g := gb236) (o := .cells #[.slice A0_0 l0_0.length c0_0, .slice A0_1 l0_1.length c0_1] 25 (0, 0)) (kz BK236)) : gb236 ≠ gb238)); have n7_ := Aside0.mk ((by rw [hg]; exact Nat.ne_of_gt (blk_lt (g := gb236) (o := .cells #[.slice A0_0 l0_0.length c0_0, .slice A0_1 l0_1.length c0_1] 25 (0, 0)) (kz BK236)) : gb238 ≠ gb236)); have n8_ := Aside0.mk ((by rw [hg]; exact Nat.ne_of_lt (blk_lt (g := gb237) (o := .cells #[.slice none 0 0, .slice none 0 0] 31 (0, 0)) (kz BK237)) : gb237 ≠ gb238)); have n9_ := Aside0.mk ((by rw [hg]; exact Nat.ne_of_gt (blk_lt (g := gb237) (o := .cells #[.slice none 0 0, .slice none 0 0] 31 (0, 0)) (kz BK237)) : gb238 ≠ gb237)); clear BK236; clear BK237; clear HB; have BK236 := n0_; have BK237 := n1_; have HB := n2_; have BK238 := n3_; have GW238 := n4_; have GE238 := n5_; have NB236_238 := n6_; have NB238_236 := n7_; have NB237_238 := n8_; have NB238_237 := n9_; clear n0_ n1_ n2_ n3_ n4_ n5_ n6_ n7_ n8_ n9_; clear hb hbox hg; have hnb7 := NB236_237.out; have hnc7 := NB237_236.out; have hnb8 := NB236_238.out; have hnc8 := NB238_236.out; have hcz9_0 : w6.cell? ⟨gb236, 0, none⟩ = some (.slice A0_0 l0_0.length c0_0) := (blk_cell BK236.out 0).trans rfl; have hcz9_1 : w6.cell? ⟨gb236, 1, none⟩ = some (.slice A0_1 l0_1.length c0_1) := (blk_cell BK236.out 1).trans rfl; have hfz9_0 := blk_frozen BK236.out 0; have hfz9_1 := blk_frozen BK236.out 1) | ((with_reducible refine gate_callee (f := 52) rfl ?_); refine goesL_ (some 6) rfl rfl Try.func52 (by kernel_rfl) rfl #[.slice A0_0 l0_0.length c0_0] rfl az ?_; (with_reducible refine (laws_toVarS.calls k _ _ l0_0 t239 _ ?side1 HC0_0.out A2.out).mono ?_); (case side1 => exact cz HR0_0 HB); rintro e w10 ⟨v240, rfl, ho0, hb⟩; refine ⟨_, rfl, ?_⟩; have HO241 := Aside0.mk (Kd.R_lower ho0 (below_size (bz3 HB GE236 GE237 GE238))); replace BK236 := Aside0.mk (blk_below (g := gb236) (o := .cells #[.slice A0_0 l0_0.length c0_0, .slice A0_1 l0_1.length c0_1] 25 (0, 0)) (kz BK236) hb); replace BK237 := Aside0.mk (blk_below (g := gb237) (o := .cells #[.slice none 0 0, .slice none 0 0] 31 (0, 0)) (kz BK237) hb); replace BK238 := Aside0.mk (blk_below (g := gb238) (o := .cells #[.slice none 0 0, .slice none 0 0] 31 (0, 0)) (kz BK238) hb); replace HB := Aside0.mk (below_step (bz3 HB GE236 GE237 GE238) hb); clear hb; (try clear ho0); obtain ⟨Ao11, co11, eo11⟩ := Kd.R_slice HO241.out; subst eo11; have hnb12 := NB238_237.out; have hnc12 := NB237_238.out; have hcz13_0 : w10.cell? ⟨gb238, 0, none⟩ = some (.slice none 0 0) := (blk_cell BK238.out 0).trans rfl; have hcz13_1 : w10.cell? ⟨gb238, 1, none⟩ = some (.slice none 0 0) := (blk_cell BK238.out 1).trans rfl; have hfz13_0 := blk_frozen BK238.out 0; have hfz13_1 := blk_frozen BK238.out 1; have hcz14_0 : w10.cell? ⟨gb236, 0, none⟩ = some (.slice A0_0 l0_0.length c0_0) := (blk_cell BK236.out 0).trans rfl; have hcz14_1 : w10.cell? ⟨gb236, 1, none⟩ = some (.slice A0_1 l0_1.length c0_1) := (blk_cell BK236.out 1).trans rfl; have hfz14_0 := blk_frozen BK236.out 0; have hfz14_1 := blk_frozen BK236.out 1) | ((with_reducible refine gate_callee (f := 53) rfl ?_); refine goesL_ (some 10) rfl rfl Try.func53 (by kernel_rfl) rfl #[.slice A0_1 l0_1.length c0_1] rfl az ?_; (with_reducible refine (laws_toRuleS.calls k _ _ l0_1 t242 _ ?side1 HC0_1.out A3.out).mono ?_); (case side1 => exact Kd.C_below HR0_1.out (bz3 HB GE236 GE237 GE238)); rintro e w15 ⟨v243, rfl, ho0, hb⟩; refine ⟨_, rfl, ?_⟩; replace HO241 := Aside0.mk (Kd.R_below (by (with_reducible repeat (first | apply Kd.R_alloc | apply Kd.R_drewN | apply Kd.R_drew)); exact (Kd.R_mono (Kd.R_far (p := ⟨gb238, 0, none⟩) (Kd.R_types HO241.out BK238.out (by decide)) (fun _ hk => hk.2) (.slice Ao11 t239.length co11)) (fun _ h_ => h_.1))) hb); have HO244 := Aside0.mk (Kd.R_lower ho0 (below_size (bz3 HB GE236 GE237 GE238))); replace BK236 := Aside0.mk (blk_below (g := gb236) (o := .cells #[.slice A0_0 l0_0.length c0_0, .slice A0_1 l0_1.length c0_1] 25 (0, 0)) (by (with_reducible repeat (first | refine blk_drewN ?_ _ | refine blk_drew ?_ | refine blk_alloc ?_ _)); refine blk_far ?_ NB236_238.out _; exact kz BK236) hb); replace BK237 := Aside0.mk (blk_below (g := gb237) (o := .cells #[.slice none 0 0, .slice none 0 0] 31 (0, 0)) (by (with_reducible repeat (first | refine blk_drewN ?_ _ | refine blk_drew ?_ | refine blk_alloc ?_ _)); refine blk_far ?_ NB237_238.out _; exact kz BK237) hb); replace BK238 := Aside0.mk (blk_below (g := gb238) (o := .cells #[.slice Ao11 t239.length co11, .slice none 0 0] 31 (0, 0)) (by (with_reducible repeat (first | refine blk_drewN ?_ _ | refine blk_drew ?_ | refine blk_alloc ?_ _)); refine blk_put (cs := #[.slice none 0 0, .slice none 0 0]) ?_ 0 _ rfl; exact kz BK238) hb); replace HB := Aside0.mk (below_step (bz3 HB GE236 GE237 GE238) hb); clear hb; (try clear hk); (try clear ho0); obtain ⟨Ao16, co16, eo16⟩ := Kd.R_slice HO244.out; subst eo16; have hcz17_0 : w15.cell? ⟨gb238, 0, none⟩ = some (.slice Ao11 t239.length co11) := (blk_cell BK238.out 0).trans rfl; have hcz17_1 : w15.cell? ⟨gb238, 1, none⟩ = some (.slice none 0 0) := (blk_cell BK238.out 1).trans rfl; have hfz17_0 := blk_frozen BK238.out 0; have hfz17_1 := blk_frozen BK238.out 1; have hcz18_0 : w15.cell? ⟨gb237, 0, none⟩ = some (.slice none 0 0) := (blk_cell BK237.out 0).trans rfl; have hcz18_1 : w15.cell? ⟨gb237, 1, none⟩ = some (.slice none 0 0) := (blk_cell BK237.out 1).trans rfl; have hfz18_0 := blk_frozen BK237.out 0; have hfz18_1 := blk_frozen BK237.out 1))
 refine bodyPost_ret (results_cell_row rfl _ _ gb237 31 #[.slice Ao11 t239.length co11, .slice Ao16 t242.length co16] (0, 0) _ rfl (by (with_reducible repeat (first | refine blk_drewN ?_ _ | refine blk_drew ?_ | refine blk_alloc ?_ _)); refine blk_put (cs := #[.slice Ao11 t239.length co11, .slice none 0 0]) ?_ 1 _ rfl; (with_reducible repeat (first | refine blk_drewN ?_ _ | refine blk_drew ?_ | refine blk_alloc ?_ _)); refine blk_put (cs := #[.slice none 0 0, .slice none 0 0]) ?_ 0 _ rfl; (with_reducible repeat (first | refine blk_drewN ?_ _ | refine blk_drew ?_ | refine blk_alloc ?_ _)); refine blk_far ?_ NB237_238.out _; exact kz BK237) Try.underlying31 rfl (by kernel_rfl)) rfl ?_
 exact ⟨_, _, rz, by (with_reducible repeat (first | apply Kd.R_alloc | apply Kd.R_drewN | apply Kd.R_drew)); exact Kd.R_mono (Kd.R_far (p := ⟨gb237, 1, none⟩) (Kd.R_far (p := ⟨gb237, 0, none⟩) (Kd.R_far (p := ⟨gb238, 1, none⟩) (Kd.R_types (Kd.R_types HO241.out BK238.out (by decide)) BK237.out (by decide)) (fun _ hk => hk.1.2) (.slice Ao16 t242.length co16)) (fun _ hk => hk.2) (.slice Ao11 t239.length co11)) (fun _ hk => hk.2) (.slice Ao16 t242.length co16)) (fun _ hk => trivial), by (with_reducible repeat (first | apply Kd.R_alloc | apply Kd.R_drewN | apply Kd.R_drew)); exact Kd.R_mono (Kd.R_far (p := ⟨gb237, 1, none⟩) (Kd.R_far (p := ⟨gb237, 0, none⟩) (Kd.R_far (p := ⟨gb238, 1, none⟩) (Kd.R_types (Kd.R_types HO244.out BK238.out (by decide)) BK237.out (by decide)) (fun _ hk => hk.1.2) (.slice Ao16 t242.length co16)) (fun _ hk => hk.2) (.slice Ao11 t239.length co11)) (fun _ hk => hk.2) (.slice Ao16 t242.length co16)) (fun _ hk => trivial), bz3 HB GE236 GE237 GE238⟩
end Go.Proofs.Ytoofhjflfpccdaa.PA
end
section
namespace Go.Proofs.Ytoofhjflfpccdaa.PA
open Go.RowKit Go.Proofs.YtoofhjflfpccdaaW.PrintWords Go.Proofs.YtoofhjflfpccdaaW.PrintLast Go.Proofs.YtoofhjflfpccdaaW.PrintMore
attribute [local go_sem] max2_int min2_int max_two min_two max_three min_three max_four min_four   -- for this text's walks alone
set_option linter.unusedVariables false
set_option linter.unusedSimpArgs false
set_option maxHeartbeats 8000000 in
set_option maxRecDepth 100000 in
theorem laws_eqIntS.calls (k : Nat) (A0 : Option Addr) (c0 : Nat) (l0 : List Int) (A1 : Option Addr) (c1 : Nat) (l1 : List Int) (r : Bool) (w : World) (hr0 : Kd.C (Kd.int .i64) w A0 l0.length l0) (hc0 : l0.length ≤ c0) (hr1 : Kd.C (Kd.int .i64) w A1 l1.length l1) (hc1 : l1.length ≤ c1) (h : laws_eqIntS.f k l0 l1 = some r) :
  Calls Try.prog 22 #[.slice A0 l0.length c0, .slice A1 l1.length c1] w fun e w' => e = .returned (.bool r) ∧ Drawn0 w w' := by
 have HR0 := Aside0.mk hr0
 have HC0 := Aside0.mk hc0
 clear hr0 hc0
 have HR1 := Aside0.mk hr1
 have HC1 := Aside0.mk hc1
 clear hr1 hc1
 have H : (if (l0.length : Int) = (l1.length : Int) then (laws_eqIntS.l0 k l0 l1 0) else (some false)) = some r := h
 clear h
 by_cases c3 : (l0.length : Int) = (l1.length : Int)
 case neg =>
  rw [if_neg c3] at H
  have c3b0 : ((l0.length : Int) == (l1.length : Int)) = false := beq_eq_false_iff_ne.mpr c3
  have c3b1 : ((l0.length : Int) != (l1.length : Int)) = true := bne_iff_ne.mpr c3
  have c3b2 : (l0.length == l1.length) = false := by first | simpa using c3 | (simp at c3 ⊢; omega)
  obtain rfl := Option.some.inj H
  go_enter Try.func22, Try.ntmps22
  go_wp2
  repeat (go_quiet (fail); try go_wp2)
  go_ret
  exact ⟨by first | rfl | (simp; done) | (simp [*]; done), by repeat (first | exact Drawn0.refl _ | apply Drawn0.step)⟩
 rw [if_pos c3] at H
 have c3b0 : ((l0.length : Int) == (l1.length : Int)) = true := beq_iff_eq.mpr c3
 have c3b1 : ((l0.length : Int) != (l1.length : Int)) = false := bne_eq_false_iff_eq.mpr c3
 have c3b2 : (l0.length == l1.length) = true := by first | simpa using c3 | (simp at c3 ⊢; omega)
 clear c3
 have H' := Aside0.mk H
 clear H
 go_enter Try.func22, Try.ntmps22
 go_wp2
 repeat (go_quiet (fail); try go_wp2)
 go_loopg [5] k (fun kq v5 w' => ∃ (x5_1 : Int), v5 = .int .i64 x5_1 ∧ Aside0 (laws_eqIntS.l0 kq l0 l1 x5_1 = some r) ∧ Aside0 (kq ≤ k) ∧ Drawn0 w w')
 case atStart => exact ⟨(0), rq, H', ⟨Nat.le_refl _⟩, by repeat (first | exact Drawn0.refl _ | apply Drawn0.step)⟩
 case round =>
  clear H'
  try clear c1
  try clear c2
  try clear p2
  try clear c3
  try clear c3b0
  try clear c3b1
  try clear c3b2
  obtain ⟨x5_1, rfl, HA, HK1, ⟨m1, rfl⟩⟩ := hrel
  cases gk with
  | zero => exact absurd HA.out (by simp [laws_eqIntS.l0])
  | succ k1 =>
   have H := HA.out
   clear HA
   simp only [laws_eqIntS.l0] at H
   by_cases c4 : x5_1 < (l0.length : Int)
   case neg =>
    rw [if_neg c4] at H
    have c4b0 : decide (x5_1 < (l0.length : Int)) = false := decide_eq_false c4
    clear c4
    obtain rfl := Option.some.inj H
    go_wp2
    repeat (go_quiet (fail); try go_wp2)
    go_ret
    exact ⟨by first | rfl | (simp; done) | (simp [*]; done), by repeat (first | exact Drawn0.refl _ | apply Drawn0.step)⟩
   rw [if_pos c4] at H
   have c4b0 : decide (x5_1 < (l0.length : Int)) = true := decide_eq_true c4
   clear c4
   by_cases c5 : 0 ≤ x5_1
   case neg =>
    rw [if_neg c5] at H
    exact absurd H (by simp)
   rw [if_pos c5] at H
   have c5b0 : decide (0 ≤ x5_1) = true := decide_eq_true c5
   clear c5
   by_cases c6 : x5_1 < (l1.length : Int)
   case neg =>
    rw [if_neg c6] at H
    exact absurd H (by simp)
   rw [if_pos c6] at H
   have c6b0 : decide (x5_1 < (l1.length : Int)) = true := decide_eq_true c6
   clear c6
   by_cases c7 : (rd l0 x5_1) = (rd l1 x5_1)
   case neg =>
    rw [if_neg c7] at H
    have c7b0 : ((rd l0 x5_1) == (rd l1 x5_1)) = false := beq_eq_false_iff_ne.mpr c7
    have c7b1 : ((rd l0 x5_1) != (rd l1 x5_1)) = true := bne_iff_ne.mpr c7
    obtain rfl := Option.some.inj H
    have p323 : 0 ≤ (x5_1 : Int) := dz
    have q323 : x5_1 < (l0.length : Int) := dz
    obtain ⟨ad323, e323, hx323_0⟩ := Kd.at_int HR0.out x5_1 p323 q323
    cases e323
    replace p323 := eq_true p323
    replace q323 := eq_true q323
    have p324 : 0 ≤ (x5_1 : Int) := dz
    have q324 : x5_1 < (l1.length : Int) := dz
    obtain ⟨ad324, e324, hx324_0⟩ := Kd.at_int HR1.out x5_1 p324 q324
    cases e324
    replace p324 := eq_true p324
    replace q324 := eq_true q324
    go_wp2
    repeat (go_quiet (fail); try go_wp2)
    go_ret
    exact ⟨by first | rfl | (simp; done) | (simp [*]; done), by repeat (first | exact Drawn0.refl _ | apply Drawn0.step)⟩
   rw [if_pos c7] at H
   have c7b0 : ((rd l0 x5_1) == (rd l1 x5_1)) = true := beq_iff_eq.mpr c7
   have c7b1 : ((rd l0 x5_1) != (rd l1 x5_1)) = false := bne_eq_false_iff_eq.mpr c7
   clear c7
   have H' := Aside0.mk H
   clear H
   have p323 : 0 ≤ (x5_1 : Int) := dz
   have q323 : x5_1 < (l0.length : Int) := dz
   obtain ⟨ad323, e323, hx323_0⟩ := Kd.at_int HR0.out x5_1 p323 q323
   cases e323
   replace p323 := eq_true p323
   replace q323 := eq_true q323
   have p324 : 0 ≤ (x5_1 : Int) := dz
   have q324 : x5_1 < (l1.length : Int) := dz
   obtain ⟨ad324, e324, hx324_0⟩ := Kd.at_int HR1.out x5_1 p324 q324
   cases e324
   replace p324 := eq_true p324
   replace q324 := eq_true q324
   go_wp2
   repeat (go_quiet (fail); try go_wp2)
   go_roundg k1
   case measure => have := HK1.out; omega
   case rel => exact ⟨(wrap64 (x5_1 + 1)), rq, H', ⟨by have := HK1.out; omega⟩, by repeat (first | exact Drawn0.refl _ | apply Drawn0.step)⟩
end Go.Proofs.Ytoofhjflfpccdaa.PA
end
section
namespace Go.Proofs.Ytoofhjflfpccdaa.PA
open Go.RowKit Go.Proofs.YtoofhjflfpccdaaW.PrintWords Go.Proofs.YtoofhjflfpccdaaW.PrintLast Go.Proofs.YtoofhjflfpccdaaW.PrintMore
attribute [local go_sem] max2_int min2_int max_two min_two max_three min_three max_four min_four   -- for this text's walks alone
set_option linter.unusedVariables false
set_option linter.unusedSimpArgs false
set_option maxHeartbeats 8000000 in
set_option maxRecDepth 100000 in
theorem laws_eqVar.calls (a0_0 : Int) (a0_1 : Int) (a0_2 : Int) (a1_0 : Int) (a1_1 : Int) (a1_2 : Int) (r : Bool) (w : World) (h : laws_eqVar.f a0_0 a0_1 a0_2 a1_0 a1_1 a1_2 = some r) :
  Calls Try.prog 92 #[.agg #[.int .i64 a0_0, .int .i64 a0_1, .int .i64 a0_2], .agg #[.int .i64 a1_0, .int .i64 a1_1, .int .i64 a1_2]] w fun e w' => e = .returned (.bool r) ∧ Below w.heap.size w w' := by
 have hu62 := Try.underlying62
 have HB := Aside0.mk (Below.refl w.heap.size w)
 have H : (if a0_0 = a1_0 then (if a0_1 = a1_1 then (if a0_2 = a1_2 then (some true) else (some false)) else (some false)) else (some false)) = some r := h
 clear h
 by_cases c3 : a0_0 = a1_0
 case neg =>
  rw [if_neg c3] at H
  have c3b0 : (a0_0 == a1_0) = false := beq_eq_false_iff_ne.mpr c3
  have c3b1 : (a0_0 != a1_0) = true := bne_iff_ne.mpr c3
  obtain rfl := Option.some.inj H
  go_enter Try.func92, Try.ntmps92
  go_wp2_with (first | ((with_reducible refine gate_dst (N := 2) rfl ?_); refine box_event ?hg (N := 2) ?hd (cs := #[.int .i64 a0_0, .int .i64 a0_1, .int .i64 a0_2]) (t := 62) ?hr ?_; (case hd => rfl); (case hg => rfl); (case hr => first | (go_simp; done) | (go_simp; rfl)); intro gb318 hg w21 hbox hb; have n0_ := Aside0.mk (below_step (bz HB) hb); have n1_ := Aside0.mk (hbox); have n2_ := Aside0.mk ((by rw [hg]; exact (below_size (bz HB)) : w.heap.size ≤ gb318)); have n3_ := Aside0.mk ((by rw [hg]; exact (below_size (bz HB)) : w.heap.size ≤ gb318)); clear HB; have HB := n0_; have BK318 := n1_; have GW318 := n2_; have GE318 := n3_; clear n0_ n1_ n2_ n3_; clear hb hbox hg) | ((with_reducible refine gate_dst (N := 3) rfl ?_); refine box_event ?hg (N := 3) ?hd (cs := #[.int .i64 a1_0, .int .i64 a1_1, .int .i64 a1_2]) (t := 62) ?hr ?_; (case hd => rfl); (case hg => rfl); (case hr => first | (go_simp; done) | (go_simp; rfl)); intro gb319 hg w22 hbox hb; have n0_ := Aside0.mk (blk_below (g := gb318) (o := .cells #[.int .i64 a0_0, .int .i64 a0_1, .int .i64 a0_2] 62 (0, 0)) (kz BK318) hb); have n1_ := Aside0.mk (below_step (bz1 HB GE318) hb); have n2_ := Aside0.mk (hbox); have n3_ := Aside0.mk ((by rw [hg]; exact (below_size (bz1 HB GE318)) : w.heap.size ≤ gb319)); have n4_ := Aside0.mk ((by rw [hg]; exact (below_size (bz1 HB GE318)) : w.heap.size ≤ gb319)); have n5_ := Aside0.mk ((by rw [hg]; exact Nat.ne_of_lt (blk_lt (g := gb318) (o := .cells #[.int .i64 a0_0, .int .i64 a0_1, .int .i64 a0_2] 62 (0, 0)) (kz BK318)) : gb318 ≠ gb319)); have n6_ := Aside0.mk ((by rw [hg]; exact Nat.ne_of_gt (blk_lt (g := gb318) (o := .cells #[.int .i64 a0_0, .int .i64 a0_1, .int .i64 a0_2] 62 (0, 0)) (kz BK318)) : gb319 ≠ gb318)); clear BK318; clear HB; have BK318 := n0_; have HB := n1_; have BK319 := n2_; have GW319 := n3_; have GE319 := n4_; have NB318_319 := n5_; have NB319_318 := n6_; clear n0_ n1_ n2_ n3_ n4_ n5_ n6_; clear hb hbox hg; have hnb23 := NB318_319.out; have hnc23 := NB319_318.out; have hcz24_0 : w22.cell? ⟨gb318, 0, none⟩ = some (.int .i64 a0_0) := (blk_cell BK318.out 0).trans rfl; have hcz24_1 : w22.cell? ⟨gb318, 1, none⟩ = some (.int .i64 a0_1) := (blk_cell BK318.out 1).trans rfl; have hcz24_2 : w22.cell? ⟨gb318, 2, none⟩ = some (.int .i64 a0_2) := (blk_cell BK318.out 2).trans rfl; have hfz24_0 := blk_frozen BK318.out 0; have hfz24_1 := blk_frozen BK318.out 1; have hfz24_2 := blk_frozen BK318.out 2; have hcz25_0 : w22.cell? ⟨gb319, 0, none⟩ = some (.int .i64 a1_0) := (blk_cell BK319.out 0).trans rfl; have hcz25_1 : w22.cell? ⟨gb319, 1, none⟩ = some (.int .i64 a1_1) := (blk_cell BK319.out 1).trans rfl; have hcz25_2 : w22.cell? ⟨gb319, 2, none⟩ = some (.int .i64 a1_2) := (blk_cell BK319.out 2).trans rfl; have hfz25_0 := blk_frozen BK319.out 0; have hfz25_1 := blk_frozen BK319.out 1; have hfz25_2 := blk_frozen BK319.out 2))
  go_ret
  exact ⟨rz, bz2 HB GE318 GE319⟩
 rw [if_pos c3] at H
 have c3b0 : (a0_0 == a1_0) = true := beq_iff_eq.mpr c3
 have c3b1 : (a0_0 != a1_0) = false := bne_eq_false_iff_eq.mpr c3
 clear c3
 by_cases c4 : a0_1 = a1_1
 case neg =>
  rw [if_neg c4] at H
  have c4b0 : (a0_1 == a1_1) = false := beq_eq_false_iff_ne.mpr c4
  have c4b1 : (a0_1 != a1_1) = true := bne_iff_ne.mpr c4
  obtain rfl := Option.some.inj H
  go_enter Try.func92, Try.ntmps92
  go_wp2_with (first | ((with_reducible refine gate_dst (N := 2) rfl ?_); refine box_event ?hg (N := 2) ?hd (cs := #[.int .i64 a0_0, .int .i64 a0_1, .int .i64 a0_2]) (t := 62) ?hr ?_; (case hd => rfl); (case hg => rfl); (case hr => first | (go_simp; done) | (go_simp; rfl)); intro gb318 hg w16 hbox hb; have n0_ := Aside0.mk (below_step (bz HB) hb); have n1_ := Aside0.mk (hbox); have n2_ := Aside0.mk ((by rw [hg]; exact (below_size (bz HB)) : w.heap.size ≤ gb318)); have n3_ := Aside0.mk ((by rw [hg]; exact (below_size (bz HB)) : w.heap.size ≤ gb318)); clear HB; have HB := n0_; have BK318 := n1_; have GW318 := n2_; have GE318 := n3_; clear n0_ n1_ n2_ n3_; clear hb hbox hg) | ((with_reducible refine gate_dst (N := 3) rfl ?_); refine box_event ?hg (N := 3) ?hd (cs := #[.int .i64 a1_0, .int .i64 a1_1, .int .i64 a1_2]) (t := 62) ?hr ?_; (case hd => rfl); (case hg => rfl); (case hr => first | (go_simp; done) | (go_simp; rfl)); intro gb319 hg w17 hbox hb; have n0_ := Aside0.mk (blk_below (g := gb318) (o := .cells #[.int .i64 a0_0, .int .i64 a0_1, .int .i64 a0_2] 62 (0, 0)) (kz BK318) hb); have n1_ := Aside0.mk (below_step (bz1 HB GE318) hb); have n2_ := Aside0.mk (hbox); have n3_ := Aside0.mk ((by rw [hg]; exact (below_size (bz1 HB GE318)) : w.heap.size ≤ gb319)); have n4_ := Aside0.mk ((by rw [hg]; exact (below_size (bz1 HB GE318)) : w.heap.size ≤ gb319)); have n5_ := Aside0.mk ((by rw [hg]; exact Nat.ne_of_lt (blk_lt (g := gb318) (o := .cells #[.int .i64 a0_0, .int .i64 a0_1, .int .i64 a0_2] 62 (0, 0)) (kz BK318)) : gb318 ≠ gb319)); have n6_ := Aside0.mk ((by rw [hg]; exact Nat.ne_of_gt (blk_lt (g := gb318) (o := .cells #[.int .i64 a0_0, .int .i64 a0_1, .int .i64 a0_2] 62 (0, 0)) (kz BK318)) : gb319 ≠ gb318)); clear BK318; clear HB; have BK318 := n0_; have HB := n1_; have BK319 := n2_; have GW319 := n3_; have GE319 := n4_; have NB318_319 := n5_; have NB319_318 := n6_; clear n0_ n1_ n2_ n3_ n4_ n5_ n6_; clear hb hbox hg; have hnb18 := NB318_319.out; have hnc18 := NB319_318.out; have hcz19_0 : w17.cell? ⟨gb318, 0, none⟩ = some (.int .i64 a0_0) := (blk_cell BK318.out 0).trans rfl; have hcz19_1 : w17.cell? ⟨gb318, 1, none⟩ = some (.int .i64 a0_1) := (blk_cell BK318.out 1).trans rfl; have hcz19_2 : w17.cell? ⟨gb318, 2, none⟩ = some (.int .i64 a0_2) := (blk_cell BK318.out 2).trans rfl; have hfz19_0 := blk_frozen BK318.out 0; have hfz19_1 := blk_frozen BK318.out 1; have hfz19_2 := blk_frozen BK318.out 2; have hcz20_0 : w17.cell? ⟨gb319, 0, none⟩ = some (.int .i64 a1_0) := (blk_cell BK319.out 0).trans rfl; have hcz20_1 : w17.cell? ⟨gb319, 1, none⟩ = some (.int .i64 a1_1) := (blk_cell BK319.out 1).trans rfl; have hcz20_2 : w17.cell? ⟨gb319, 2, none⟩ = some (.int .i64 a1_2) := (blk_cell BK319.out 2).trans rfl; have hfz20_0 := blk_frozen BK319.out 0; have hfz20_1 := blk_frozen BK319.out 1; have hfz20_2 := blk_frozen BK319.out 2))
  go_ret
  exact ⟨rz, bz2 HB GE318 GE319⟩
 rw [if_pos c4] at H
 have c4b0 : (a0_1 == a1_1) = true := beq_iff_eq.mpr c4
 have c4b1 : (a0_1 != a1_1) = false := bne_eq_false_iff_eq.mpr c4
 clear c4
 by_cases c5 : a0_2 = a1_2
 case pos =>
  rw [if_pos c5] at H
  have c5b0 : (a0_2 == a1_2) = true := beq_iff_eq.mpr c5
  have c5b1 : (a0_2 != a1_2) = false := bne_eq_false_iff_eq.mpr c5
  clear c5
  obtain rfl := Option.some.inj H
  go_enter Try.func92, Try.ntmps92
  go_wp2_with (first | ((with_reducible refine gate_dst (N := 2) rfl ?_); refine box_event ?hg (N := 2) ?hd (cs := #[.int .i64 a0_0, .int .i64 a0_1, .int .i64 a0_2]) (t := 62) ?hr ?_; (case hd => rfl); (case hg => rfl); (case hr => first | (go_simp; done) | (go_simp; rfl)); intro gb318 hg w6 hbox hb; have n0_ := Aside0.mk (below_step (bz HB) hb); have n1_ := Aside0.mk (hbox); have n2_ := Aside0.mk ((by rw [hg]; exact (below_size (bz HB)) : w.heap.size ≤ gb318)); have n3_ := Aside0.mk ((by rw [hg]; exact (below_size (bz HB)) : w.heap.size ≤ gb318)); clear HB; have HB := n0_; have BK318 := n1_; have GW318 := n2_; have GE318 := n3_; clear n0_ n1_ n2_ n3_; clear hb hbox hg) | ((with_reducible refine gate_dst (N := 3) rfl ?_); refine box_event ?hg (N := 3) ?hd (cs := #[.int .i64 a1_0, .int .i64 a1_1, .int .i64 a1_2]) (t := 62) ?hr ?_; (case hd => rfl); (case hg => rfl); (case hr => first | (go_simp; done) | (go_simp; rfl)); intro gb319 hg w7 hbox hb; have n0_ := Aside0.mk (blk_below (g := gb318) (o := .cells #[.int .i64 a0_0, .int .i64 a0_1, .int .i64 a0_2] 62 (0, 0)) (kz BK318) hb); have n1_ := Aside0.mk (below_step (bz1 HB GE318) hb); have n2_ := Aside0.mk (hbox); have n3_ := Aside0.mk ((by rw [hg]; exact (below_size (bz1 HB GE318)) : w.heap.size ≤ gb319)); have n4_ := Aside0.mk ((by rw [hg]; exact (below_size (bz1 HB GE318)) : w.heap.size ≤ gb319)); have n5_ := Aside0.mk ((by rw [hg]; exact Nat.ne_of_lt (blk_lt (g := gb318) (o := .cells #[.int .i64 a0_0, .int .i64 a0_1, .int .i64 a0_2] 62 (0, 0)) (kz BK318)) : gb318 ≠ gb319)); have n6_ := Aside0.mk ((by rw [hg]; exact Nat.ne_of_gt (blk_lt (g := gb318) (o := .cells #[.int .i64 a0_0, .int .i64 a0_1, .int .i64 a0_2] 62 (0, 0)) (kz BK318)) : gb319 ≠ gb318)); clear BK318; clear HB; have BK318 := n0_; have HB := n1_; have BK319 := n2_; have GW319 := n3_; have GE319 := n4_; have NB318_319 := n5_; have NB319_318 := n6_; clear n0_ n1_ n2_ n3_ n4_ n5_ n6_; clear hb hbox hg; have hnb8 := NB318_319.out; have hnc8 := NB319_318.out; have hcz9_0 : w7.cell? ⟨gb318, 0, none⟩ = some (.int .i64 a0_0) := (blk_cell BK318.out 0).trans rfl; have hcz9_1 : w7.cell? ⟨gb318, 1, none⟩ = some (.int .i64 a0_1) := (blk_cell BK318.out 1).trans rfl; have hcz9_2 : w7.cell? ⟨gb318, 2, none⟩ = some (.int .i64 a0_2) := (blk_cell BK318.out 2).trans rfl; have hfz9_0 := blk_frozen BK318.out 0; have hfz9_1 := blk_frozen BK318.out 1; have hfz9_2 := blk_frozen BK318.out 2; have hcz10_0 : w7.cell? ⟨gb319, 0, none⟩ = some (.int .i64 a1_0) := (blk_cell BK319.out 0).trans rfl; have hcz10_1 : w7.cell? ⟨gb319, 1, none⟩ = some (.int .i64 a1_1) := (blk_cell BK319.out 1).trans rfl; have hcz10_2 : w7.cell? ⟨gb319, 2, none⟩ = some (.int .i64 a1_2) := (blk_cell BK319.out 2).trans rfl; have hfz10_0 := blk_frozen BK319.out 0; have hfz10_1 := blk_frozen BK319.out 1; have hfz10_2 := blk_frozen BK319.out 2))
  go_ret
  exact ⟨rz, bz2 HB GE318 GE319⟩
 rw [if_neg c5] at H
 have c5b0 : (a0_2 == a1_2) = false := beq_eq_false_iff_ne.mpr c5
 have c5b1 : (a0_2 != a1_2) = true := bne_iff_ne.mpr c5
 obtain rfl := Option.some.inj H
 go_enter Try.func92, Try.ntmps92
 go_wp2_with (first | ((with_reducible refine gate_dst (N := 2) rfl ?_); refine box_event ?hg (N := 2) ?hd (cs := #[.int .i64 a0_0, .int .i64 a0_1, .int .i64 a0_2]) (t := 62) ?hr ?_; (case hd => rfl); (case hg => rfl); (case hr => first | (go_simp; done) | (go_simp; rfl)); intro gb318 hg w11 hbox hb; have n0_ := Aside0.mk (below_step (bz HB) hb); have n1_ := Aside0.mk (hbox); have n2_ := Aside0.mk ((by rw [hg]; exact (below_size (bz HB)) : w.heap.size ≤ gb318)); have n3_ := Aside0.mk ((by rw [hg]; exact (below_size (bz HB)) : w.heap.size ≤ gb318)); clear HB; have HB := n0_; have BK318 := n1_; have GW318 := n2_; have GE318 := n3_; clear n0_ n1_ n2_ n3_; clear hb hbox hg) | ((with_reducible refine gate_dst (N := 3) rfl ?_); refine box_event ?hg (N := 3) ?hd (cs := #[.int .i64 a1_0, .int .i64 a1_1, .int .i64 a1_2]) (t := 62) ?hr ?_; (case hd => rfl); (case hg => rfl); (case hr => first | (go_simp; done) | (go_simp; rfl)); intro gb319 hg w12 hbox hb; have n0_ := Aside0.mk (blk_below (g := gb318) (o := .cells #[.int .i64 a0_0, .int .i64 a0_1, .int .i64 a0_2] 62 (0, 0)) (kz BK318) hb); have n1_ := Aside0.mk (below_step (bz1 HB GE318) hb); have n2_ := Aside0.mk (hbox); have n3_ := Aside0.mk ((by rw [hg]; exact (below_size (bz1 HB GE318)) : w.heap.size ≤ gb319)); have n4_ := Aside0.mk ((by rw [hg]; exact (below_size (bz1 HB GE318)) : w.heap.size ≤ gb319)); have n5_ := Aside0.mk ((by rw [hg]; exact Nat.ne_of_lt (blk_lt (g := gb318) (o := .cells #[.int .i64 a0_0, .int .i64 a0_1, .int .i64 a0_2] 62 (0, 0)) (kz BK318)) : gb318 ≠ gb319)); have n6_ := Aside0.mk ((by rw [hg]; exact Nat.ne_of_gt (blk_lt (g := gb318) (o := .cells #[.int .i64 a0_0, .int .i64 a0_1, .int .i64 a0_2] 62 (0, 0)) (kz BK318)) : gb319 ≠ gb318)); clear BK318; clear HB; have BK318 := n0_; have HB := n1_; have BK319 := n2_; have GW319 := n3_; have GE319 := n4_; have NB318_319 := n5_; have NB319_318 := n6_; clear n0_ n1_ n2_ n3_ n4_ n5_ n6_; clear hb hbox hg; have hnb13 := NB318_319.out; have hnc13 := NB319_318.out; have hcz14_0 : w12.cell? ⟨gb318, 0, none⟩ = some (.int .i64 a0_0) := (blk_cell BK318.out 0).trans rfl; have hcz14_1 : w12.cell? ⟨gb318, 1, none⟩ = some (.int .i64 a0_1) := (blk_cell BK318.out 1).trans rfl; have hcz14_2 : w12.cell? ⟨gb318, 2, none⟩ = some (.int .i64 a0_2) := (blk_cell BK318.out 2).trans rfl; have hfz14_0 := blk_frozen BK318.out 0; have hfz14_1 := blk_frozen BK318.out 1; have hfz14_2 := blk_frozen BK318.out 2; have hcz15_0 : w12.cell? ⟨gb319, 0, none⟩ = some (.int .i64 a1_0) := (blk_cell BK319.out 0).trans rfl; have hcz15_1 : w12.cell? ⟨gb319, 1, none⟩ = some (.int .i64 a1_1) := (blk_cell BK319.out 1).trans rfl; have hcz15_2 : w12.cell? ⟨gb319, 2, none⟩ = some (.int .i64 a1_2) := (blk_cell BK319.out 2).trans rfl; have hfz15_0 := blk_frozen BK319.out 0; have hfz15_1 := blk_frozen BK319.out 1; have hfz15_2 := blk_frozen BK319.out 2))
 go_ret
 exact ⟨rz, bz2 HB GE318 GE319⟩
end Go.Proofs.Ytoofhjflfpccdaa.PA
end
section
namespace Go.Proofs.Ytoofhjflfpccdaa.PA
open Go.RowKit Go.Proofs.YtoofhjflfpccdaaW.PrintWords Go.Proofs.YtoofhjflfpccdaaW.PrintLast Go.Proofs.YtoofhjflfpccdaaW.PrintMore
attribute [local go_sem] max2_int min2_int max_two min_two max_three min_three max_four min_four   -- for this text's walks alone
set_option linter.unusedVariables false
set_option linter.unusedSimpArgs false
def laws_eqVarS.T6 : Bool × List (List Nat × List Nat) := (true, [([], []), ([], []), ([0, 1], [0, 1]), ([2], [2]), ([], []), ([], []), ([4, 5], [4, 5]), ([6], [6]), ([3, 7], [3, 7]), ([8], [8])])
def laws_eqVarS.B6 : List Nat := [0, 0, 3, 7, 0, 0, 48, 112, 255, 511]
theorem laws_eqVarS.tab6 : rtab .any (opsOf Try.f55 6) = laws_eqVarS.T6 := by kernel_rfl
theorem laws_eqVarS.bits6 : waitsOk laws_eqVarS.T6.2 laws_eqVarS.B6 = true := by kernel_rfl
set_option maxHeartbeats 8000000 in
set_option maxRecDepth 100000 in
theorem laws_eqVarS.calls (k : Nat) (A0 : Option Addr) (c0 : Nat) (l0 : List (IVar)) (A1 : Option Addr) (c1 : Nat) (l1 : List (IVar)) (r : Bool) (w : World) (hr0 : Kd.C k62 w A0 l0.length l0) (hc0 : l0.length ≤ c0) (hr1 : Kd.C k62 w A1 l1.length l1) (hc1 : l1.length ≤ c1) (h : laws_eqVarS.f k l0 l1 = some r) :
  Calls Try.prog 55 #[.slice A0 l0.length c0, .slice A1 l1.length c1] w fun e w' => e = .returned (.bool r) ∧ Below w.heap.size w w' := by
 have hu62 := Try.underlying62
 have HR0 := Aside0.mk hr0
 have HC0 := Aside0.mk hc0
 clear hr0 hc0
 have HR1 := Aside0.mk hr1
 have HC1 := Aside0.mk hc1
 clear hr1 hc1
 have HB := Aside0.mk (Below.refl w.heap.size w)
 have H : (if (l0.length : Int) = (l1.length : Int) then (laws_eqVarS.l0 k l0 l1 0) else (some false)) = some r := h
 clear h
 by_cases c3 : (l0.length : Int) = (l1.length : Int)
 case neg =>
  rw [if_neg c3] at H
  have c3b0 : ((l0.length : Int) == (l1.length : Int)) = false := beq_eq_false_iff_ne.mpr c3
  have c3b1 : ((l0.length : Int) != (l1.length : Int)) = true := bne_iff_ne.mpr c3
  have c3b2 : (l0.length == l1.length) = false := by first | simpa using c3 | (simp at c3 ⊢; omega)
  obtain rfl := Option.some.inj H
  go_enter Try.func55, Try.ntmps55
  go_wp2
  go_ret
  exact ⟨rz, bz HB⟩
 rw [if_pos c3] at H
 have c3b0 : ((l0.length : Int) == (l1.length : Int)) = true := beq_iff_eq.mpr c3
 have c3b1 : ((l0.length : Int) != (l1.length : Int)) = false := bne_eq_false_iff_eq.mpr c3
 have c3b2 : (l0.length == l1.length) = true := by first | simpa using c3 | (simp at c3 ⊢; omega)
 clear c3
 have H' := Aside0.mk H
 clear H
 go_enter Try.func55, Try.ntmps55
 go_wp2
 go_loopg [5] k (fun kq v5 w' => ∃ (x5_1 : Int), v5 = .int .i64 x5_1 ∧ Aside0 (laws_eqVarS.l0 kq l0 l1 x5_1 = some r) ∧ Aside0 (kq ≤ k) ∧ Aside0 (Below w.heap.size w w'))
 case atStart => exact ⟨(0), rq, H', ⟨Nat.le_refl _⟩, ⟨bz HB⟩⟩
 case round =>
  clear H'
  try clear c1
  try clear p2
  try clear c3
  try clear c3b0
  try clear c3b1
  try clear c3b2
  obtain ⟨x5_1, rfl, HA, HK1, HB⟩ := hrel
  cases gk with
  | zero => exact absurd HA.out (by simp [laws_eqVarS.l0])
  | succ k1 =>
   have H := HA.out
   clear HA
   simp only [laws_eqVarS.l0] at H
   by_cases c4 : x5_1 < (l0.length : Int)
   case neg =>
    rw [if_neg c4] at H
    have c4b0 : decide (x5_1 < (l0.length : Int)) = false := decide_eq_false c4
    clear c4
    obtain rfl := Option.some.inj H
    go_wp2
    go_ret
    exact ⟨rz, bz HB⟩
   rw [if_pos c4] at H
   have c4b0 : decide (x5_1 < (l0.length : Int)) = true := decide_eq_true c4
   clear c4
   by_cases c5 : 0 ≤ x5_1
   case neg =>
    rw [if_neg c5] at H
    exact absurd H (by simp)
   rw [if_pos c5] at H
   have c5b0 : decide (0 ≤ x5_1) = true := decide_eq_true c5
   clear c5
   by_cases c6 : x5_1 < (l1.length : Int)
   case neg =>
    rw [if_neg c6] at H
    exact absurd H (by simp)
   rw [if_pos c6] at H
   have c6b0 : decide (x5_1 < (l1.length : Int)) = true := decide_eq_true c6
   clear c6
   replace H := Option.bind_eq_some_iff.mp H
   obtain ⟨t322, A70, H⟩ := H
   have A7 := Aside0.mk A70
   clear A70
   by_cases c8 : t322 = true
   case neg =>
    replace c8 := Bool.eq_false_iff.mpr c8
    subst c8
    rw [if_neg nt_] at H
    obtain rfl := Option.some.inj H
    try go_wp2
    have n0_ := Aside0.mk (below_drew1 HB.out)
    clear HB
    have HB := n0_
    clear n0_
    have p320 : 0 ≤ (x5_1 : Int) := dz
    have q320 : x5_1 < (l0.length : Int) := dz
    obtain ⟨ad320, e320, hx320_0, hx320_1, hx320_2⟩ := at_IVar HR0.out x5_1 p320 q320
    have hw320_2 := hx320_2
    have hw320_1 := hx320_1
    have hw320_0 := hx320_0
    cases e320
    replace hx320_0 := xz HB hx320_0
    replace hx320_1 := xz HB hx320_1
    replace hx320_2 := xz HB hx320_2
    replace p320 := eq_true p320
    replace q320 := eq_true q320
    have p321 : 0 ≤ (x5_1 : Int) := dz
    have q321 : x5_1 < (l1.length : Int) := dz
    obtain ⟨ad321, e321, hx321_0, hx321_1, hx321_2⟩ := at_IVar HR1.out x5_1 p321 q321
    have hw321_2 := hx321_2
    have hw321_1 := hx321_1
    have hw321_0 := hx321_0
    cases e321
    replace hx321_0 := xz HB hx321_0
    replace hx321_1 := xz HB hx321_1
    replace hx321_2 := xz HB hx321_2
    replace p321 := eq_true p321
    replace q321 := eq_true q321
    refine start_ (n := 10) (S := fun w' => w'.cell? (ad320.add ((x5_1).toNat * 3)) = some (.int .i64 ((rd_IVar l0 x5_1).f0)) ∧ w'.cell? ⟨(ad320.add ((x5_1).toNat * 3)).block, (ad320.add ((x5_1).toNat * 3)).off + 1, none⟩ = some (.int .i64 ((rd_IVar l0 x5_1).f1)) ∧ w'.cell? ⟨(ad320.add ((x5_1).toNat * 3)).block, (ad320.add ((x5_1).toNat * 3)).off + 2, none⟩ = some (.int .i64 ((rd_IVar l0 x5_1).f2)) ∧ w'.cell? (ad321.add ((x5_1).toNat * 3)) = some (.int .i64 ((rd_IVar l1 x5_1).f0)) ∧ w'.cell? ⟨(ad321.add ((x5_1).toNat * 3)).block, (ad321.add ((x5_1).toNat * 3)).off + 1, none⟩ = some (.int .i64 ((rd_IVar l1 x5_1).f1)) ∧ w'.cell? ⟨(ad321.add ((x5_1).toNat * 3)).block, (ad321.add ((x5_1).toNat * 3)).off + 2, none⟩ = some (.int .i64 ((rd_IVar l1 x5_1).f2))) (ds := []) #[false, false, false, false, false, false, false, false, false, false] (by kernel_rfl) rfl rfl ⟨((HB.out.cell (World.block_lt_of_cell? w _ hw320_0)).trans hw320_0), ((HB.out.cell (World.block_lt_of_cell? w _ hw320_1)).trans hw320_1), ((HB.out.cell (World.block_lt_of_cell? w _ hw320_2)).trans hw320_2), ((HB.out.cell (World.block_lt_of_cell? w _ hw321_0)).trans hw321_0), ((HB.out.cell (World.block_lt_of_cell? w _ hw321_1)).trans hw321_1), ((HB.out.cell (World.block_lt_of_cell? w _ hw321_2)).trans hw321_2)⟩ (fun hHeld => ?_); refine with_tabW laws_eqVarS.tab6 laws_eqVarS.bits6 (fun HT_ HW_ => ?_)
    generalize wr.drew = w11 at HB hx320_0 hx320_1 hx320_2 hx321_0 hx321_1 hx321_2 hHeld ⊢
    refine pure_ (i := 0) (N := some 17) (v := ?_) (a' := ?_) #[true, false, false, false, false, false, false, false, false, false] rfl rfl (any_of HT_.out (by kernel_rfl)) (fun _ _ _ h => h) (Or.inl ⟨by rfl, ?_⟩) ?_ ?_
    rotate_left
    ·
     intro w'
     go_simp
     with_reducible rfl
    rotate_left
    ·
     simp only [Act.put, sb_, sc0_, sc1_, i64_w, i32_w]
     rfl
    refine pure_ (i := 1) (N := some 18) (v := ?_) (a' := ?_) #[true, true, false, false, false, false, false, false, false, false] rfl rfl (any_of HT_.out (by kernel_rfl)) (fun _ _ _ h => h) (Or.inl ⟨by rfl, ?_⟩) ?_ ?_
    rotate_left
    ·
     intro w'
     go_simp
     with_reducible rfl
    rotate_left
    ·
     simp only [Act.put, sb_, sc0_, sc1_, i64_w, i32_w]
     rfl
    refine pure_ (i := 2) (N := some 19) (v := ?_) (a' := ?_) #[true, true, true, false, false, false, false, false, false, false] rfl rfl (any_of HT_.out (by kernel_rfl)) (fun _ _ _ h => h) (Or.inl ⟨by rfl, ?_⟩) ?_ ?_
    rotate_left
    ·
     intro w'
     go_simp
     with_reducible rfl
    rotate_left
    ·
     simp only [Act.put, sb_, sc0_, sc1_, i64_w, i32_w]
     rfl
    refine pure_ (i := 4) (N := some 21) (v := ?_) (a' := ?_) #[true, true, true, false, true, false, false, false, false, false] rfl rfl (any_of HT_.out (by kernel_rfl)) (fun _ _ _ h => h) (Or.inl ⟨by rfl, ?_⟩) ?_ ?_
    rotate_left
    ·
     intro w'
     go_simp
     with_reducible rfl
    rotate_left
    ·
     simp only [Act.put, sb_, sc0_, sc1_, i64_w, i32_w]
     rfl
    refine pure_ (i := 5) (N := some 22) (v := ?_) (a' := ?_) #[true, true, true, false, true, true, false, false, false, false] rfl rfl (any_of HT_.out (by kernel_rfl)) (fun _ _ _ h => h) (Or.inl ⟨by rfl, ?_⟩) ?_ ?_
    rotate_left
    ·
     intro w'
     go_simp
     with_reducible rfl
    rotate_left
    ·
     simp only [Act.put, sb_, sc0_, sc1_, i64_w, i32_w]
     rfl
    refine pure_ (i := 6) (N := some 23) (v := ?_) (a' := ?_) #[true, true, true, false, true, true, true, false, false, false] rfl rfl (any_of HT_.out (by kernel_rfl)) (fun _ _ _ h => h) (Or.inl ⟨by rfl, ?_⟩) ?_ ?_
    rotate_left
    ·
     intro w'
     go_simp
     with_reducible rfl
    rotate_left
    ·
     simp only [Act.put, sb_, sc0_, sc1_, i64_w, i32_w]
     rfl
    refine take_ (i := 3) (N := some 20) (v := ?_) (a' := ?_) #[true, true, true, true, true, true, true, false, false, false] rfl rfl (take_ofW HT_.out HW_.out (by kernel_rfl)) (fun _ _ _ h => h) (Or.inl ⟨by rfl, ?_⟩) hHeld ?_ ?_
    rotate_left
    ·
     rintro w' ⟨s0, s1, s2, s3, s4, s5⟩
     go_simp
     with_reducible rfl
    rotate_left
    ·
     simp only [Act.put, sb_, sc0_, sc1_, i64_w, i32_w]
     rfl
    refine take_ (i := 7) (N := some 24) (v := ?_) (a' := ?_) #[true, true, true, true, true, true, true, true, false, false] rfl rfl (take_ofW HT_.out HW_.out (by kernel_rfl)) (fun _ _ _ h => h) (Or.inl ⟨by rfl, ?_⟩) hHeld ?_ ?_
    rotate_left
    ·
     rintro w' ⟨s0, s1, s2, s3, s4, s5⟩
     go_simp
     with_reducible rfl
    rotate_left
    ·
     simp only [Act.put, sb_, sc0_, sc1_, i64_w, i32_w]
     rfl
    refine one_ (i := 8) (N := some 25) #[true, true, true, true, true, true, true, true, true, false] rfl rfl (one_of HT_.out (by kernel_rfl)) (by decide) (fun K hK => ?_)
    refine goes_ Try.func92 (by kernel_rfl) rfl #[.agg #[.int .i64 ((rd_IVar l0 x5_1).f0), .int .i64 ((rd_IVar l0 x5_1).f1), .int .i64 ((rd_IVar l0 x5_1).f2)], .agg #[.int .i64 ((rd_IVar l1 x5_1).f0), .int .i64 ((rd_IVar l1 x5_1).f1), .int .i64 ((rd_IVar l1 x5_1).f2)]] (by rfl) rfl rfl az ?_
    with_reducible refine (laws_eqVar.calls ((rd_IVar l0 x5_1).f0) ((rd_IVar l0 x5_1).f1) ((rd_IVar l0 x5_1).f2) ((rd_IVar l1 x5_1).f0) ((rd_IVar l1 x5_1).f1) ((rd_IVar l1 x5_1).f2) false _ A7.out).mono ?_
    rintro e w12 ⟨rfl, hb⟩
    refine ⟨_, rfl, ?_⟩
    have n0_ := Aside0.mk (below_step (bz HB) hb)
    clear HB
    have HB := n0_
    clear n0_
    (try clear hb)
    (try clear hb2)
    (try clear hk)
    (try clear hi)
    refine hK.out _ _ ⟨((HB.out.cell (World.block_lt_of_cell? w _ hw320_0)).trans hw320_0), ((HB.out.cell (World.block_lt_of_cell? w _ hw320_1)).trans hw320_1), ((HB.out.cell (World.block_lt_of_cell? w _ hw320_2)).trans hw320_2), ((HB.out.cell (World.block_lt_of_cell? w _ hw321_0)).trans hw321_0), ((HB.out.cell (World.block_lt_of_cell? w _ hw321_1)).trans hw321_1), ((HB.out.cell (World.block_lt_of_cell? w _ hw321_2)).trans hw321_2)⟩ (fun hHeld => ?_)
    clear hK K
    refine norm_ (a' := ?_) ?_ ?_
    rotate_left
    ·
     show Act.put _ (some 25) _ = _
     simp only [Act.put, sb_, sc0_, sc1_, i64_w, i32_w]
     rfl
    refine pure_ (i := 9) (N := some 26) (v := ?_) (a' := ?_) #[true, true, true, true, true, true, true, true, true, true] rfl rfl (any_of HT_.out (by kernel_rfl)) (fun _ _ _ h => h) (Or.inl ⟨by rfl, ?_⟩) ?_ ?_
    rotate_left
    ·
     intro w'
     go_simp
     with_reducible rfl
    rotate_left
    ·
     simp only [Act.put, sb_, sc0_, sc1_, i64_w, i32_w]
     rfl
    refine done_ (done_of HT_.out (by kernel_rfl)) ?_
    try go_wp2
    go_ret
    exact ⟨rz, bz HB⟩
   subst c8
   rw [if_pos rfl] at H
   have H' := Aside0.mk H
   clear H
   try go_wp2
   have n0_ := Aside0.mk (below_drew1 HB.out)
   clear HB
   have HB := n0_
   clear n0_
   have p320 : 0 ≤ (x5_1 : Int) := dz
   have q320 : x5_1 < (l0.length : Int) := dz
   obtain ⟨ad320, e320, hx320_0, hx320_1, hx320_2⟩ := at_IVar HR0.out x5_1 p320 q320
   have hw320_2 := hx320_2
   have hw320_1 := hx320_1
   have hw320_0 := hx320_0
   cases e320
   replace hx320_0 := xz HB hx320_0
   replace hx320_1 := xz HB hx320_1
   replace hx320_2 := xz HB hx320_2
   replace p320 := eq_true p320
   replace q320 := eq_true q320
   have p321 : 0 ≤ (x5_1 : Int) := dz
   have q321 : x5_1 < (l1.length : Int) := dz
   obtain ⟨ad321, e321, hx321_0, hx321_1, hx321_2⟩ := at_IVar HR1.out x5_1 p321 q321
   have hw321_2 := hx321_2
   have hw321_1 := hx321_1
   have hw321_0 := hx321_0
   cases e321
   replace hx321_0 := xz HB hx321_0
   replace hx321_1 := xz HB hx321_1
   replace hx321_2 := xz HB hx321_2
   replace p321 := eq_true p321
   replace q321 := eq_true q321
   refine start_ (n := 10) (S := fun w' => w'.cell? (ad320.add ((x5_1).toNat * 3)) = some (.int .i64 ((rd_IVar l0 x5_1).f0)) ∧ w'.cell? ⟨(ad320.add ((x5_1).toNat * 3)).block, (ad320.add ((x5_1).toNat * 3)).off + 1, none⟩ = some (.int .i64 ((rd_IVar l0 x5_1).f1)) ∧ w'.cell? ⟨(ad320.add ((x5_1).toNat * 3)).block, (ad320.add ((x5_1).toNat * 3)).off + 2, none⟩ = some (.int .i64 ((rd_IVar l0 x5_1).f2)) ∧ w'.cell? (ad321.add ((x5_1).toNat * 3)) = some (.int .i64 ((rd_IVar l1 x5_1).f0)) ∧ w'.cell? ⟨(ad321.add ((x5_1).toNat * 3)).block, (ad321.add ((x5_1).toNat * 3)).off + 1, none⟩ = some (.int .i64 ((rd_IVar l1 x5_1).f1)) ∧ w'.cell? ⟨(ad321.add ((x5_1).toNat * 3)).block, (ad321.add ((x5_1).toNat * 3)).off + 2, none⟩ = some (.int .i64 ((rd_IVar l1 x5_1).f2))) (ds := []) #[false, false, false, false, false, false, false, false, false, false] (by kernel_rfl) rfl rfl ⟨((HB.out.cell (World.block_lt_of_cell? w _ hw320_0)).trans hw320_0), ((HB.out.cell (World.block_lt_of_cell? w _ hw320_1)).trans hw320_1), ((HB.out.cell (World.block_lt_of_cell? w _ hw320_2)).trans hw320_2), ((HB.out.cell (World.block_lt_of_cell? w _ hw321_0)).trans hw321_0), ((HB.out.cell (World.block_lt_of_cell? w _ hw321_1)).trans hw321_1), ((HB.out.cell (World.block_lt_of_cell? w _ hw321_2)).trans hw321_2)⟩ (fun hHeld => ?_); refine with_tabW laws_eqVarS.tab6 laws_eqVarS.bits6 (fun HT_ HW_ => ?_)
   generalize wr.drew = w9 at HB hx320_0 hx320_1 hx320_2 hx321_0 hx321_1 hx321_2 hHeld ⊢
   refine pure_ (i := 0) (N := some 17) (v := ?_) (a' := ?_) #[true, false, false, false, false, false, false, false, false, false] rfl rfl (any_of HT_.out (by kernel_rfl)) (fun _ _ _ h => h) (Or.inl ⟨by rfl, ?_⟩) ?_ ?_
   rotate_left
   ·
    intro w'
    go_simp
    with_reducible rfl
   rotate_left
   ·
    simp only [Act.put, sb_, sc0_, sc1_, i64_w, i32_w]
    rfl
   refine pure_ (i := 1) (N := some 18) (v := ?_) (a' := ?_) #[true, true, false, false, false, false, false, false, false, false] rfl rfl (any_of HT_.out (by kernel_rfl)) (fun _ _ _ h => h) (Or.inl ⟨by rfl, ?_⟩) ?_ ?_
   rotate_left
   ·
    intro w'
    go_simp
    with_reducible rfl
   rotate_left
   ·
    simp only [Act.put, sb_, sc0_, sc1_, i64_w, i32_w]
    rfl
   refine pure_ (i := 2) (N := some 19) (v := ?_) (a' := ?_) #[true, true, true, false, false, false, false, false, false, false] rfl rfl (any_of HT_.out (by kernel_rfl)) (fun _ _ _ h => h) (Or.inl ⟨by rfl, ?_⟩) ?_ ?_
   rotate_left
   ·
    intro w'
    go_simp
    with_reducible rfl
   rotate_left
   ·
    simp only [Act.put, sb_, sc0_, sc1_, i64_w, i32_w]
    rfl
   refine pure_ (i := 4) (N := some 21) (v := ?_) (a' := ?_) #[true, true, true, false, true, false, false, false, false, false] rfl rfl (any_of HT_.out (by kernel_rfl)) (fun _ _ _ h => h) (Or.inl ⟨by rfl, ?_⟩) ?_ ?_
   rotate_left
   ·
    intro w'
    go_simp
    with_reducible rfl
   rotate_left
   ·
    simp only [Act.put, sb_, sc0_, sc1_, i64_w, i32_w]
    rfl
   refine pure_ (i := 5) (N := some 22) (v := ?_) (a' := ?_) #[true, true, true, false, true, true, false, false, false, false] rfl rfl (any_of HT_.out (by kernel_rfl)) (fun _ _ _ h => h) (Or.inl ⟨by rfl, ?_⟩) ?_ ?_
   rotate_left
   ·
    intro w'
    go_simp
    with_reducible rfl
   rotate_left
   ·
    simp only [Act.put, sb_, sc0_, sc1_, i64_w, i32_w]
    rfl
   refine pure_ (i := 6) (N := some 23) (v := ?_) (a' := ?_) #[true, true, true, false, true, true, true, false, false, false] rfl rfl (any_of HT_.out (by kernel_rfl)) (fun _ _ _ h => h) (Or.inl ⟨by rfl, ?_⟩) ?_ ?_
   rotate_left
   ·
    intro w'
    go_simp
    with_reducible rfl
   rotate_left
   ·
    simp only [Act.put, sb_, sc0_, sc1_, i64_w, i32_w]
    rfl
   refine take_ (i := 3) (N := some 20) (v := ?_) (a' := ?_) #[true, true, true, true, true, true, true, false, false, false] rfl rfl (take_ofW HT_.out HW_.out (by kernel_rfl)) (fun _ _ _ h => h) (Or.inl ⟨by rfl, ?_⟩) hHeld ?_ ?_
   rotate_left
   ·
    rintro w' ⟨s0, s1, s2, s3, s4, s5⟩
    go_simp
    with_reducible rfl
   rotate_left
   ·
    simp only [Act.put, sb_, sc0_, sc1_, i64_w, i32_w]
    rfl
   refine take_ (i := 7) (N := some 24) (v := ?_) (a' := ?_) #[true, true, true, true, true, true, true, true, false, false] rfl rfl (take_ofW HT_.out HW_.out (by kernel_rfl)) (fun _ _ _ h => h) (Or.inl ⟨by rfl, ?_⟩) hHeld ?_ ?_
   rotate_left
   ·
    rintro w' ⟨s0, s1, s2, s3, s4, s5⟩
    go_simp
    with_reducible rfl
   rotate_left
   ·
    simp only [Act.put, sb_, sc0_, sc1_, i64_w, i32_w]
    rfl
   refine one_ (i := 8) (N := some 25) #[true, true, true, true, true, true, true, true, true, false] rfl rfl (one_of HT_.out (by kernel_rfl)) (by decide) (fun K hK => ?_)
   refine goes_ Try.func92 (by kernel_rfl) rfl #[.agg #[.int .i64 ((rd_IVar l0 x5_1).f0), .int .i64 ((rd_IVar l0 x5_1).f1), .int .i64 ((rd_IVar l0 x5_1).f2)], .agg #[.int .i64 ((rd_IVar l1 x5_1).f0), .int .i64 ((rd_IVar l1 x5_1).f1), .int .i64 ((rd_IVar l1 x5_1).f2)]] (by rfl) rfl rfl az ?_
   with_reducible refine (laws_eqVar.calls ((rd_IVar l0 x5_1).f0) ((rd_IVar l0 x5_1).f1) ((rd_IVar l0 x5_1).f2) ((rd_IVar l1 x5_1).f0) ((rd_IVar l1 x5_1).f1) ((rd_IVar l1 x5_1).f2) true _ A7.out).mono ?_
   rintro e w10 ⟨rfl, hb⟩
   refine ⟨_, rfl, ?_⟩
   have n0_ := Aside0.mk (below_step (bz HB) hb)
   clear HB
   have HB := n0_
   clear n0_
   (try clear hb)
   (try clear hb2)
   (try clear hk)
   (try clear hi)
   refine hK.out _ _ ⟨((HB.out.cell (World.block_lt_of_cell? w _ hw320_0)).trans hw320_0), ((HB.out.cell (World.block_lt_of_cell? w _ hw320_1)).trans hw320_1), ((HB.out.cell (World.block_lt_of_cell? w _ hw320_2)).trans hw320_2), ((HB.out.cell (World.block_lt_of_cell? w _ hw321_0)).trans hw321_0), ((HB.out.cell (World.block_lt_of_cell? w _ hw321_1)).trans hw321_1), ((HB.out.cell (World.block_lt_of_cell? w _ hw321_2)).trans hw321_2)⟩ (fun hHeld => ?_)
   clear hK K
   refine norm_ (a' := ?_) ?_ ?_
   rotate_left
   ·
    show Act.put _ (some 25) _ = _
    simp only [Act.put, sb_, sc0_, sc1_, i64_w, i32_w]
    rfl
   refine pure_ (i := 9) (N := some 26) (v := ?_) (a' := ?_) #[true, true, true, true, true, true, true, true, true, true] rfl rfl (any_of HT_.out (by kernel_rfl)) (fun _ _ _ h => h) (Or.inl ⟨by rfl, ?_⟩) ?_ ?_
   rotate_left
   ·
    intro w'
    go_simp
    with_reducible rfl
   rotate_left
   ·
    simp only [Act.put, sb_, sc0_, sc1_, i64_w, i32_w]
    rfl
   refine done_ (done_of HT_.out (by kernel_rfl)) ?_
   try go_wp2
   go_roundg k1
   case measure => have := HK1.out; omega
   case rel => exact ⟨(wrap64 (x5_1 + 1)), rq, H', ⟨by have := HK1.out; omega⟩, ⟨bz HB⟩⟩
end Go.Proofs.Ytoofhjflfpccdaa.PA
end
section
namespace Go.Proofs.Ytoofhjflfpccdaa.PA
open Go.RowKit Go.Proofs.YtoofhjflfpccdaaW.PrintWords Go.Proofs.YtoofhjflfpccdaaW.PrintLast Go.Proofs.YtoofhjflfpccdaaW.PrintMore
attribute [local go_sem] max2_int min2_int max_two min_two max_three min_three max_four min_four   -- for this text's walks alone
set_option linter.unusedVariables false
set_option linter.unusedSimpArgs false
set_option maxHeartbeats 8000000 in
set_option maxRecDepth 100000 in
theorem laws_eqTerm.calls (a0_0 : Int) (a0_1 : Int) (a0_2 : Int) (a0_3 : Int) (a1_0 : Int) (a1_1 : Int) (a1_2 : Int) (a1_3 : Int) (r : Bool) (w : World) (h : laws_eqTerm.f a0_0 a0_1 a0_2 a0_3 a1_0 a1_1 a1_2 a1_3 = some r) :
  Calls Try.prog 127 #[.agg #[.int .i64 a0_0, .int .i64 a0_1, .int .i64 a0_2, .int .i64 a0_3], .agg #[.int .i64 a1_0, .int .i64 a1_1, .int .i64 a1_2, .int .i64 a1_3]] w fun e w' => e = .returned (.bool r) ∧ Below w.heap.size w w' := by
 have hu107 := Try.underlying107
 have HB := Aside0.mk (Below.refl w.heap.size w)
 have H : (if a0_0 = a1_0 then (if a0_1 = a1_1 then (if a0_2 = a1_2 then (if a0_3 = a1_3 then (some true) else (some false)) else (some false)) else (some false)) else (some false)) = some r := h
 clear h
 by_cases c3 : a0_0 = a1_0
 case neg =>
  rw [if_neg c3] at H
  have c3b0 : (a0_0 == a1_0) = false := beq_eq_false_iff_ne.mpr c3
  have c3b1 : (a0_0 != a1_0) = true := bne_iff_ne.mpr c3
  obtain rfl := Option.some.inj H
  go_enter Try.func127, Try.ntmps127
  go_wp2_with (first | ((with_reducible refine gate_dst (N := 2) rfl ?_); refine box_event ?hg (N := 2) ?hd (cs := #[.int .i64 a0_0, .int .i64 a0_1, .int .i64 a0_2, .int .i64 a0_3]) (t := 107) ?hr ?_; (case hd => rfl); (case hg => rfl); (case hr => first | (go_simp; done) | (go_simp; rfl)); intro gb325 hg w27 hbox hb; have n0_ := Aside0.mk (below_step (bz HB) hb); have n1_ := Aside0.mk (hbox); have n2_ := Aside0.mk ((by rw [hg]; exact (below_size (bz HB)) : w.heap.size ≤ gb325)); have n3_ := Aside0.mk ((by rw [hg]; exact (below_size (bz HB)) : w.heap.size ≤ gb325)); clear HB; have HB := n0_; have BK325 := n1_; have GW325 := n2_; have GE325 := n3_; clear n0_ n1_ n2_ n3_; clear hb hbox hg) | ((with_reducible refine gate_dst (N := 3) rfl ?_); refine box_event ?hg (N := 3) ?hd (cs := #[.int .i64 a1_0, .int .i64 a1_1, .int .i64 a1_2, .int .i64 a1_3]) (t := 107) ?hr ?_; (case hd => rfl); (case hg => rfl); (case hr => first | (go_simp; done) | (go_simp; rfl)); intro gb326 hg w28 hbox hb; have n0_ := Aside0.mk (blk_below (g := gb325) (o := .cells #[.int .i64 a0_0, .int .i64 a0_1, .int .i64 a0_2, .int .i64 a0_3] 107 (0, 0)) (kz BK325) hb); have n1_ := Aside0.mk (below_step (bz1 HB GE325) hb); have n2_ := Aside0.mk (hbox); have n3_ := Aside0.mk ((by rw [hg]; exact (below_size (bz1 HB GE325)) : w.heap.size ≤ gb326)); have n4_ := Aside0.mk ((by rw [hg]; exact (below_size (bz1 HB GE325)) : w.heap.size ≤ gb326)); have n5_ := Aside0.mk ((by rw [hg]; exact Nat.ne_of_lt (blk_lt (g := gb325) (o := .cells #[.int .i64 a0_0, .int .i64 a0_1, .int .i64 a0_2, .int .i64 a0_3] 107 (0, 0)) (kz BK325)) : gb325 ≠ gb326)); have n6_ := Aside0.mk ((by rw [hg]; exact Nat.ne_of_gt (blk_lt (g := gb325) (o := .cells #[.int .i64 a0_0, .int .i64 a0_1, .int .i64 a0_2, .int .i64 a0_3] 107 (0, 0)) (kz BK325)) : gb326 ≠ gb325)); clear BK325; clear HB; have BK325 := n0_; have HB := n1_; have BK326 := n2_; have GW326 := n3_; have GE326 := n4_; have NB325_326 := n5_; have NB326_325 := n6_; clear n0_ n1_ n2_ n3_ n4_ n5_ n6_; clear hb hbox hg; have hnb29 := NB325_326.out; have hnc29 := NB326_325.out; have hcz30_0 : w28.cell? ⟨gb325, 0, none⟩ = some (.int .i64 a0_0) := (blk_cell BK325.out 0).trans rfl; have hcz30_1 : w28.cell? ⟨gb325, 1, none⟩ = some (.int .i64 a0_1) := (blk_cell BK325.out 1).trans rfl; have hcz30_2 : w28.cell? ⟨gb325, 2, none⟩ = some (.int .i64 a0_2) := (blk_cell BK325.out 2).trans rfl; have hcz30_3 : w28.cell? ⟨gb325, 3, none⟩ = some (.int .i64 a0_3) := (blk_cell BK325.out 3).trans rfl; have hfz30_0 := blk_frozen BK325.out 0; have hfz30_1 := blk_frozen BK325.out 1; have hfz30_2 := blk_frozen BK325.out 2; have hfz30_3 := blk_frozen BK325.out 3; have hcz31_0 : w28.cell? ⟨gb326, 0, none⟩ = some (.int .i64 a1_0) := (blk_cell BK326.out 0).trans rfl; have hcz31_1 : w28.cell? ⟨gb326, 1, none⟩ = some (.int .i64 a1_1) := (blk_cell BK326.out 1).trans rfl; have hcz31_2 : w28.cell? ⟨gb326, 2, none⟩ = some (.int .i64 a1_2) := (blk_cell BK326.out 2).trans rfl; have hcz31_3 : w28.cell? ⟨gb326, 3, none⟩ = some (.int .i64 a1_3) := (blk_cell BK326.out 3).trans rfl; have hfz31_0 := blk_frozen BK326.out 0; have hfz31_1 := blk_frozen BK326.out 1; have hfz31_2 := blk_frozen BK326.out 2; have hfz31_3 := blk_frozen BK326.out 3))
  go_ret
  exact ⟨rz, bz2 HB GE325 GE326⟩
 rw [if_pos c3] at H
 have c3b0 : (a0_0 == a1_0) = true := beq_iff_eq.mpr c3
 have c3b1 : (a0_0 != a1_0) = false := bne_eq_false_iff_eq.mpr c3
 clear c3
 by_cases c4 : a0_1 = a1_1
 case neg =>
  rw [if_neg c4] at H
  have c4b0 : (a0_1 == a1_1) = false := beq_eq_false_iff_ne.mpr c4
  have c4b1 : (a0_1 != a1_1) = true := bne_iff_ne.mpr c4
  obtain rfl := Option.some.inj H
  go_enter Try.func127, Try.ntmps127
  go_wp2_with (first | ((with_reducible refine gate_dst (N := 2) rfl ?_); refine box_event ?hg (N := 2) ?hd (cs := #[.int .i64 a0_0, .int .i64 a0_1, .int .i64 a0_2, .int .i64 a0_3]) (t := 107) ?hr ?_; (case hd => rfl); (case hg => rfl); (case hr => first | (go_simp; done) | (go_simp; rfl)); intro gb325 hg w22 hbox hb; have n0_ := Aside0.mk (below_step (bz HB) hb); have n1_ := Aside0.mk (hbox); have n2_ := Aside0.mk ((by rw [hg]; exact (below_size (bz HB)) : w.heap.size ≤ gb325)); have n3_ := Aside0.mk ((by rw [hg]; exact (below_size (bz HB)) : w.heap.size ≤ gb325)); clear HB; have HB := n0_; have BK325 := n1_; have GW325 := n2_; have GE325 := n3_; clear n0_ n1_ n2_ n3_; clear hb hbox hg) | ((with_reducible refine gate_dst (N := 3) rfl ?_); refine box_event ?hg (N := 3) ?hd (cs := #[.int .i64 a1_0, .int .i64 a1_1, .int .i64 a1_2, .int .i64 a1_3]) (t := 107) ?hr ?_; (case hd => rfl); (case hg => rfl); (case hr => first | (go_simp; done) | (go_simp; rfl)); intro gb326 hg w23 hbox hb; have n0_ := Aside0.mk (blk_below (g := gb325) (o := .cells #[.int .i64 a0_0, .int .i64 a0_1, .int .i64 a0_2, .int .i64 a0_3] 107 (0, 0)) (kz BK325) hb); have n1_ := Aside0.mk (below_step (bz1 HB GE325) hb); have n2_ := Aside0.mk (hbox); have n3_ := Aside0.mk ((by rw [hg]; exact (below_size (bz1 HB GE325)) : w.heap.size ≤ gb326)); have n4_ := Aside0.mk ((by rw [hg]; exact (below_size (bz1 HB GE325)) : w.heap.size ≤ gb326)); have n5_ := Aside0.mk ((by rw [hg]; exact Nat.ne_of_lt (blk_lt (g := gb325) (o := .cells #[.int .i64 a0_0, .int .i64 a0_1, .int .i64 a0_2, .int .i64 a0_3] 107 (0, 0)) (kz BK325)) : gb325 ≠ gb326)); have n6_ := Aside0.mk ((by rw [hg]; exact Nat.ne_of_gt (blk_lt (g := gb325) (o := .cells #[.int .i64 a0_0, .int .i64 a0_1, .int .i64 a0_2, .int .i64 a0_3] 107 (0, 0)) (kz BK325)) : gb326 ≠ gb325)); clear BK325; clear HB; have BK325 := n0_; have HB := n1_; have BK326 := n2_; have GW326 := n3_; have GE326 := n4_; have NB325_326 := n5_; have NB326_325 := n6_; clear n0_ n1_ n2_ n3_ n4_ n5_ n6_; clear hb hbox hg; have hnb24 := NB325_326.out; have hnc24 := NB326_325.out; have hcz25_0 : w23.cell? ⟨gb325, 0, none⟩ = some (.int .i64 a0_0) := (blk_cell BK325.out 0).trans rfl; have hcz25_1 : w23.cell? ⟨gb325, 1, none⟩ = some (.int .i64 a0_1) := (blk_cell BK325.out 1).trans rfl; have hcz25_2 : w23.cell? ⟨gb325, 2, none⟩ = some (.int .i64 a0_2) := (blk_cell BK325.out 2).trans rfl; have hcz25_3 : w23.cell? ⟨gb325, 3, none⟩ = some (.int .i64 a0_3) := (blk_cell BK325.out 3).trans rfl; have hfz25_0 := blk_frozen BK325.out 0; have hfz25_1 := blk_frozen BK325.out 1; have hfz25_2 := blk_frozen BK325.out 2; have hfz25_3 := blk_frozen BK325.out 3; have hcz26_0 : w23.cell? ⟨gb326, 0, none⟩ = some (.int .i64 a1_0) := (blk_cell BK326.out 0).trans rfl; have hcz26_1 : w23.cell? ⟨gb326, 1, none⟩ = some (.int .i64 a1_1) := (blk_cell BK326.out 1).trans rfl; have hcz26_2 : w23.cell? ⟨gb326, 2, none⟩ = some (.int .i64 a1_2) := (blk_cell BK326.out 2).trans rfl; have hcz26_3 : w23.cell? ⟨gb326, 3, none⟩ = some (.int .i64 a1_3) := (blk_cell BK326.out 3).trans rfl; have hfz26_0 := blk_frozen BK326.out 0; have hfz26_1 := blk_frozen BK326.out 1; have hfz26_2 := blk_frozen BK326.out 2; have hfz26_3 := blk_frozen BK326.out 3))
  go_ret
  exact ⟨rz, bz2 HB GE325 GE326⟩
 rw [if_pos c4] at H
 have c4b0 : (a0_1 == a1_1) = true := beq_iff_eq.mpr c4
 have c4b1 : (a0_1 != a1_1) = false := bne_eq_false_iff_eq.mpr c4
 clear c4
 by_cases c5 : a0_2 = a1_2
 case neg =>
  rw [if_neg c5] at H
  have c5b0 : (a0_2 == a1_2) = false := beq_eq_false_iff_ne.mpr c5
  have c5b1 : (a0_2 != a1_2) = true := bne_iff_ne.mpr c5
  obtain rfl := Option.some.inj H
  go_enter Try.func127, Try.ntmps127
  go_wp2_with (first | ((with_reducible refine gate_dst (N := 2) rfl ?_); refine box_event ?hg (N := 2) ?hd (cs := #[.int .i64 a0_0, .int .i64 a0_1, .int .i64 a0_2, .int .i64 a0_3]) (t := 107) ?hr ?_; (case hd => rfl); (case hg => rfl); (case hr => first | (go_simp; done) | (go_simp; rfl)); intro gb325 hg w17 hbox hb; have n0_ := Aside0.mk (below_step (bz HB) hb); have n1_ := Aside0.mk (hbox); have n2_ := Aside0.mk ((by rw [hg]; exact (below_size (bz HB)) : w.heap.size ≤ gb325)); have n3_ := Aside0.mk ((by rw [hg]; exact (below_size (bz HB)) : w.heap.size ≤ gb325)); clear HB; have HB := n0_; have BK325 := n1_; have GW325 := n2_; have GE325 := n3_; clear n0_ n1_ n2_ n3_; clear hb hbox hg) | ((with_reducible refine gate_dst (N := 3) rfl ?_); refine box_event ?hg (N := 3) ?hd (cs := #[.int .i64 a1_0, .int .i64 a1_1, .int .i64 a1_2, .int .i64 a1_3]) (t := 107) ?hr ?_; (case hd => rfl); (case hg => rfl); (case hr => first | (go_simp; done) | (go_simp; rfl)); intro gb326 hg w18 hbox hb; have n0_ := Aside0.mk (blk_below (g := gb325) (o := .cells #[.int .i64 a0_0, .int .i64 a0_1, .int .i64 a0_2, .int .i64 a0_3] 107 (0, 0)) (kz BK325) hb); have n1_ := Aside0.mk (below_step (bz1 HB GE325) hb); have n2_ := Aside0.mk (hbox); have n3_ := Aside0.mk ((by rw [hg]; exact (below_size (bz1 HB GE325)) : w.heap.size ≤ gb326)); have n4_ := Aside0.mk ((by rw [hg]; exact (below_size (bz1 HB GE325)) : w.heap.size ≤ gb326)); have n5_ := Aside0.mk ((by rw [hg]; exact Nat.ne_of_lt (blk_lt (g := gb325) (o := .cells #[.int .i64 a0_0, .int .i64 a0_1, .int .i64 a0_2, .int .i64 a0_3] 107 (0, 0)) (kz BK325)) : gb325 ≠ gb326)); have n6_ := Aside0.mk ((by rw [hg]; exact Nat.ne_of_gt (blk_lt (g := gb325) (o := .cells #[.int .i64 a0_0, .int .i64 a0_1, .int .i64 a0_2, .int .i64 a0_3] 107 (0, 0)) (kz BK325)) : gb326 ≠ gb325)); clear BK325; clear HB; have BK325 := n0_; have HB := n1_; have BK326 := n2_; have GW326 := n3_; have GE326 := n4_; have NB325_326 := n5_; have NB326_325 := n6_; clear n0_ n1_ n2_ n3_ n4_ n5_ n6_; clear hb hbox hg; have hnb19 := NB325_326.out; have hnc19 := NB326_325.out; have hcz20_0 : w18.cell? ⟨gb325, 0, none⟩ = some (.int .i64 a0_0) := (blk_cell BK325.out 0).trans rfl; have hcz20_1 : w18.cell? ⟨gb325, 1, none⟩ = some (.int .i64 a0_1) := (blk_cell BK325.out 1).trans rfl; have hcz20_2 : w18.cell? ⟨gb325, 2, none⟩ = some (.int .i64 a0_2) := (blk_cell BK325.out 2).trans rfl; have hcz20_3 : w18.cell? ⟨gb325, 3, none⟩ = some (.int .i64 a0_3) := (blk_cell BK325.out 3).trans rfl; have hfz20_0 := blk_frozen BK325.out 0; have hfz20_1 := blk_frozen BK325.out 1; have hfz20_2 := blk_frozen BK325.out 2; have hfz20_3 := blk_frozen BK325.out 3; have hcz21_0 : w18.cell? ⟨gb326, 0, none⟩ = some (.int .i64 a1_0) := (blk_cell BK326.out 0).trans rfl; have hcz21_1 : w18.cell? ⟨gb326, 1, none⟩ = some (.int .i64 a1_1) := (blk_cell BK326.out 1).trans rfl; have hcz21_2 : w18.cell? ⟨gb326, 2, none⟩ = some (.int .i64 a1_2) := (blk_cell BK326.out 2).trans rfl; have hcz21_3 : w18.cell? ⟨gb326, 3, none⟩ = some (.int .i64 a1_3) := (blk_cell BK326.out 3).trans rfl; have hfz21_0 := blk_frozen BK326.out 0; have hfz21_1 := blk_frozen BK326.out 1; have hfz21_2 := blk_frozen BK326.out 2; have hfz21_3 := blk_frozen BK326.out 3))
  go_ret
  exact ⟨rz, bz2 HB GE325 GE326⟩
 rw [if_pos c5] at H
 have c5b0 : (a0_2 == a1_2) = true := beq_iff_eq.mpr c5
 have c5b1 : (a0_2 != a1_2) = false := bne_eq_false_iff_eq.mpr c5
 clear c5
 by_cases c6 : a0_3 = a1_3
 case pos =>
  rw [if_pos c6] at H
  have c6b0 : (a0_3 == a1_3) = true := beq_iff_eq.mpr c6
  have c6b1 : (a0_3 != a1_3) = false := bne_eq_false_iff_eq.mpr c6
  clear c6
  obtain rfl := Option.some.inj H
  go_enter Try.func127, Try.ntmps127
  go_wp2_with (first | ((with_reducible refine gate_dst (N := 2) rfl ?_); refine box_event ?hg (N := 2) ?hd (cs := #[.int .i64 a0_0, .int .i64 a0_1, .int .i64 a0_2, .int .i64 a0_3]) (t := 107) ?hr ?_; (case hd => rfl); (case hg => rfl); (case hr => first | (go_simp; done) | (go_simp; rfl)); intro gb325 hg w7 hbox hb; have n0_ := Aside0.mk (below_step (bz HB) hb); have n1_ := Aside0.mk (hbox); have n2_ := Aside0.mk ((by rw [hg]; exact (below_size (bz HB)) : w.heap.size ≤ gb325)); have n3_ := Aside0.mk ((by rw [hg]; exact (below_size (bz HB)) : w.heap.size ≤ gb325)); clear HB; have HB := n0_; have BK325 := n1_; have GW325 := n2_; have GE325 := n3_; clear n0_ n1_ n2_ n3_; clear hb hbox hg) | ((with_reducible refine gate_dst (N := 3) rfl ?_); refine box_event ?hg (N := 3) ?hd (cs := #[.int .i64 a1_0, .int .i64 a1_1, .int .i64 a1_2, .int .i64 a1_3]) (t := 107) ?hr ?_; (case hd => rfl); (case hg => rfl); (case hr => first | (go_simp; done) | (go_simp; rfl)); intro gb326 hg w8 hbox hb; have n0_ := Aside0.mk (blk_below (g := gb325) (o := .cells #[.int .i64 a0_0, .int .i64 a0_1, .int .i64 a0_2, .int .i64 a0_3] 107 (0, 0)) (kz BK325) hb); have n1_ := Aside0.mk (below_step (bz1 HB GE325) hb); have n2_ := Aside0.mk (hbox); have n3_ := Aside0.mk ((by rw [hg]; exact (below_size (bz1 HB GE325)) : w.heap.size ≤ gb326)); have n4_ := Aside0.mk ((by rw [hg]; exact (below_size (bz1 HB GE325)) : w.heap.size ≤ gb326)); have n5_ := Aside0.mk ((by rw [hg]; exact Nat.ne_of_lt (blk_lt (g := gb325) (o := .cells #[.int .i64 a0_0, .int .i64 a0_1, .int .i64 a0_2, .int .i64 a0_3] 107 (0, 0)) (kz BK325)) : gb325 ≠ gb326)); have n6_ := Aside0.mk ((by rw [hg]; exact Nat.ne_of_gt (blk_lt (g := gb325) (o := .cells #[.int .i64 a0_0, .int .i64 a0_1, .int .i64 a0_2, .int .i64 a0_3] 107 (0, 0)) (kz BK325)) : gb326 ≠ gb325)); clear BK325; clear HB; have BK325 := n0_; have HB := n1_; have BK326 := n2_; have GW326 := n3_; have GE326 := n4_; have NB325_326 := n5_; have NB326_325 := n6_; clear n0_ n1_ n2_ n3_ n4_ n5_ n6_; clear hb hbox hg; have hnb9 := NB325_326.out; have hnc9 := NB326_325.out; have hcz10_0 : w8.cell? ⟨gb325, 0, none⟩ = some (.int .i64 a0_0) := (blk_cell BK325.out 0).trans rfl; have hcz10_1 : w8.cell? ⟨gb325, 1, none⟩ = some (.int .i64 a0_1) := (blk_cell BK325.out 1).trans rfl; have hcz10_2 : w8.cell? ⟨gb325, 2, none⟩ = some (.int .i64 a0_2) := (blk_cell BK325.out 2).trans rfl; have hcz10_3 : w8.cell? ⟨gb325, 3, none⟩ = some (.int .i64 a0_3) := (blk_cell BK325.out 3).trans rfl; have hfz10_0 := blk_frozen BK325.out 0; have hfz10_1 := blk_frozen BK325.out 1; have hfz10_2 := blk_frozen BK325.out 2; have hfz10_3 := blk_frozen BK325.out 3; have hcz11_0 : w8.cell? ⟨gb326, 0, none⟩ = some (.int .i64 a1_0) := (blk_cell BK326.out 0).trans rfl; have hcz11_1 : w8.cell? ⟨gb326, 1, none⟩ = some (.int .i64 a1_1) := (blk_cell BK326.out 1).trans rfl; have hcz11_2 : w8.cell? ⟨gb326, 2, none⟩ = some (.int .i64 a1_2) := (blk_cell BK326.out 2).trans rfl; have hcz11_3 : w8.cell? ⟨gb326, 3, none⟩ = some (.int .i64 a1_3) := (blk_cell BK326.out 3).trans rfl; have hfz11_0 := blk_frozen BK326.out 0; have hfz11_1 := blk_frozen BK326.out 1; have hfz11_2 := blk_frozen BK326.out 2; have hfz11_3 := blk_frozen BK326.out 3))
  go_ret
  exact ⟨rz, bz2 HB GE325 GE326⟩
 rw [if_neg c6] at H
 have c6b0 : (a0_3 == a1_3) = false := beq_eq_false_iff_ne.mpr c6
 have c6b1 : (a0_3 != a1_3) = true := bne_iff_ne.mpr c6
 obtain rfl := Option.some.inj H
 go_enter Try.func127, Try.ntmps127
 go_wp2_with (first | ((with_reducible refine gate_dst (N := 2) rfl ?_); refine box_event ?hg (N := 2) ?hd (cs := #[.int .i64 a0_0, .int .i64 a0_1, .int .i64 a0_2, .int .i64 a0_3]) (t := 107) ?hr ?_; (case hd => rfl); (case hg => rfl); (case hr => first | (go_simp; done) | (go_simp; rfl)); intro gb325 hg w12 hbox hb; have n0_ := Aside0.mk (below_step (bz HB) hb); have n1_ := Aside0.mk (hbox); have n2_ := Aside0.mk ((by rw [hg]; exact (below_size (bz HB)) : w.heap.size ≤ gb325)); have n3_ := Aside0.mk ((by rw [hg]; exact (below_size (bz HB)) : w.heap.size ≤ gb325)); clear HB; have HB := n0_; have BK325 := n1_; have GW325 := n2_; have GE325 := n3_; clear n0_ n1_ n2_ n3_; clear hb hbox hg) | ((with_reducible refine gate_dst (N := 3) rfl ?_); refine box_event ?hg (N := 3) ?hd (cs := #[.int .i64 a1_0, .int .i64 a1_1, .int .i64 a1_2, .int .i64 a1_3]) (t := 107) ?hr ?_; (case hd => rfl); (case hg => rfl); (case hr => first | (go_simp; done) | (go_simp; rfl)); intro gb326 hg w13 hbox hb; have n0_ := Aside0.mk (blk_below (g := gb325) (o := .cells #[.int .i64 a0_0, .int .i64 a0_1, .int .i64 a0_2, .int .i64 a0_3] 107 (0, 0)) (kz BK325) hb); have n1_ := Aside0.mk (below_step (bz1 HB GE325) hb); have n2_ := Aside0.mk (hbox); have n3_ := Aside0.mk ((by rw [hg]; exact (below_size (bz1 HB GE325)) : w.heap.size ≤ gb326)); have n4_ := Aside0.mk ((by rw [hg]; exact (below_size (bz1 HB GE325)) : w.heap.size ≤ gb326)); have n5_ := Aside0.mk ((by rw [hg]; exact Nat.ne_of_lt (blk_lt (g := gb325) (o := .cells #[.int .i64 a0_0, .int .i64 a0_1, .int .i64 a0_2, .int .i64 a0_3] 107 (0, 0)) (kz BK325)) : gb325 ≠ gb326)); have n6_ := Aside0.mk ((by rw [hg]; exact Nat.ne_of_gt (blk_lt (g := gb325) (o := .cells #[.int .i64 a0_0, .int .i64 a0_1, .int .i64 a0_2, .int .i64 a0_3] 107 (0, 0)) (kz BK325)) : gb326 ≠ gb325)); clear BK325; clear HB; have BK325 := n0_; have HB := n1_; have BK326 := n2_; have GW326 := n3_; have GE326 := n4_; have NB325_326 := n5_; have NB326_325 := n6_; clear n0_ n1_ n2_ n3_ n4_ n5_ n6_; clear hb hbox hg; have hnb14 := NB325_326.out; have hnc14 := NB326_325.out; have hcz15_0 : w13.cell? ⟨gb325, 0, none⟩ = some (.int .i64 a0_0) := (blk_cell BK325.out 0).trans rfl; have hcz15_1 : w13.cell? ⟨gb325, 1, none⟩ = some (.int .i64 a0_1) := (blk_cell BK325.out 1).trans rfl; have hcz15_2 : w13.cell? ⟨gb325, 2, none⟩ = some (.int .i64 a0_2) := (blk_cell BK325.out 2).trans rfl; have hcz15_3 : w13.cell? ⟨gb325, 3, none⟩ = some (.int .i64 a0_3) := (blk_cell BK325.out 3).trans rfl; have hfz15_0 := blk_frozen BK325.out 0; have hfz15_1 := blk_frozen BK325.out 1; have hfz15_2 := blk_frozen BK325.out 2; have hfz15_3 := blk_frozen BK325.out 3; have hcz16_0 : w13.cell? ⟨gb326, 0, none⟩ = some (.int .i64 a1_0) := (blk_cell BK326.out 0).trans rfl; have hcz16_1 : w13.cell? ⟨gb326, 1, none⟩ = some (.int .i64 a1_1) := (blk_cell BK326.out 1).trans rfl; have hcz16_2 : w13.cell? ⟨gb326, 2, none⟩ = some (.int .i64 a1_2) := (blk_cell BK326.out 2).trans rfl; have hcz16_3 : w13.cell? ⟨gb326, 3, none⟩ = some (.int .i64 a1_3) := (blk_cell BK326.out 3).trans rfl; have hfz16_0 := blk_frozen BK326.out 0; have hfz16_1 := blk_frozen BK326.out 1; have hfz16_2 := blk_frozen BK326.out 2; have hfz16_3 := blk_frozen BK326.out 3))
 go_ret
 exact ⟨rz, bz2 HB GE325 GE326⟩
end Go.Proofs.Ytoofhjflfpccdaa.PA
end
section
namespace Go.Proofs.Ytoofhjflfpccdaa.PA
open Go.RowKit Go.Proofs.YtoofhjflfpccdaaW.PrintWords Go.Proofs.YtoofhjflfpccdaaW.PrintLast Go.Proofs.YtoofhjflfpccdaaW.PrintMore
attribute [local go_sem] max2_int min2_int max_two min_two max_three min_three max_four min_four   -- for this text's walks alone
set_option linter.unusedVariables false
set_option linter.unusedSimpArgs false
def laws_eqTermS.T6 : Bool × List (List Nat × List Nat) := (true, [([], []), ([], []), ([0, 1], [0, 1]), ([2], [2]), ([], []), ([], []), ([4, 5], [4, 5]), ([6], [6]), ([3, 7], [3, 7]), ([8], [8])])
def laws_eqTermS.B6 : List Nat := [0, 0, 3, 7, 0, 0, 48, 112, 255, 511]
theorem laws_eqTermS.tab6 : rtab .any (opsOf Try.f117 6) = laws_eqTermS.T6 := by kernel_rfl
theorem laws_eqTermS.bits6 : waitsOk laws_eqTermS.T6.2 laws_eqTermS.B6 = true := by kernel_rfl
set_option maxHeartbeats 8000000 in
set_option maxRecDepth 100000 in
theorem laws_eqTermS.calls (k : Nat) (A0 : Option Addr) (c0 : Nat) (l0 : List (ITerm)) (A1 : Option Addr) (c1 : Nat) (l1 : List (ITerm)) (r : Bool) (w : World) (hr0 : Kd.C k107 w A0 l0.length l0) (hc0 : l0.length ≤ c0) (hr1 : Kd.C k107 w A1 l1.length l1) (hc1 : l1.length ≤ c1) (h : laws_eqTermS.f k l0 l1 = some r) :
  Calls Try.prog 117 #[.slice A0 l0.length c0, .slice A1 l1.length c1] w fun e w' => e = .returned (.bool r) ∧ Below w.heap.size w w' := by
 have hu107 := Try.underlying107
 have HR0 := Aside0.mk hr0
 have HC0 := Aside0.mk hc0
 clear hr0 hc0
 have HR1 := Aside0.mk hr1
 have HC1 := Aside0.mk hc1
 clear hr1 hc1
 have HB := Aside0.mk (Below.refl w.heap.size w)
 have H : (if (l0.length : Int) = (l1.length : Int) then (laws_eqTermS.l0 k l0 l1 0) else (some false)) = some r := h
 clear h
 by_cases c3 : (l0.length : Int) = (l1.length : Int)
 case neg =>
  rw [if_neg c3] at H
  have c3b0 : ((l0.length : Int) == (l1.length : Int)) = false := beq_eq_false_iff_ne.mpr c3
  have c3b1 : ((l0.length : Int) != (l1.length : Int)) = true := bne_iff_ne.mpr c3
  have c3b2 : (l0.length == l1.length) = false := by first | simpa using c3 | (simp at c3 ⊢; omega)
  obtain rfl := Option.some.inj H
  go_enter Try.func117, Try.ntmps117
  go_wp2
  go_ret
  exact ⟨rz, bz HB⟩
 rw [if_pos c3] at H
 have c3b0 : ((l0.length : Int) == (l1.length : Int)) = true := beq_iff_eq.mpr c3
 have c3b1 : ((l0.length : Int) != (l1.length : Int)) = false := bne_eq_false_iff_eq.mpr c3
 have c3b2 : (l0.length == l1.length) = true := by first | simpa using c3 | (simp at c3 ⊢; omega)
 clear c3
 have H' := Aside0.mk H
 clear H
 go_enter Try.func117, Try.ntmps117
 go_wp2
 go_loopg [5] k (fun kq v5 w' => ∃ (x5_1 : Int), v5 = .int .i64 x5_1 ∧ Aside0 (laws_eqTermS.l0 kq l0 l1 x5_1 = some r) ∧ Aside0 (kq ≤ k) ∧ Aside0 (Below w.heap.size w w'))
 case atStart => exact ⟨(0), rq, H', ⟨Nat.le_refl _⟩, ⟨bz HB⟩⟩
 case round =>
  clear H'
  try clear c1
  try clear p2
  try clear c3
  try clear c3b0
  try clear c3b1
  try clear c3b2
  obtain ⟨x5_1, rfl, HA, HK1, HB⟩ := hrel
  cases gk with
  | zero => exact absurd HA.out (by simp [laws_eqTermS.l0])
  | succ k1 =>
   have H := HA.out
   clear HA
   simp only [laws_eqTermS.l0] at H
   by_cases c4 : x5_1 < (l0.length : Int)
   case neg =>
    rw [if_neg c4] at H
    have c4b0 : decide (x5_1 < (l0.length : Int)) = false := decide_eq_false c4
    clear c4
    obtain rfl := Option.some.inj H
    go_wp2
    go_ret
    exact ⟨rz, bz HB⟩
   rw [if_pos c4] at H
   have c4b0 : decide (x5_1 < (l0.length : Int)) = true := decide_eq_true c4
   clear c4
   by_cases c5 : 0 ≤ x5_1
   case neg =>
    rw [if_neg c5] at H
    exact absurd H (by simp)
   rw [if_pos c5] at H
   have c5b0 : decide (0 ≤ x5_1) = true := decide_eq_true c5
   clear c5
   by_cases c6 : x5_1 < (l1.length : Int)
   case neg =>
    rw [if_neg c6] at H
    exact absurd H (by simp)
   rw [if_pos c6] at H
   have c6b0 : decide (x5_1 < (l1.length : Int)) = true := decide_eq_true c6
   clear c6
   replace H := Option.bind_eq_some_iff.mp H
   obtain ⟨t329, A70, H⟩ := H
   have A7 := Aside0.mk A70
   clear A70
   by_cases c8 : t329 = true
   case neg =>
    replace c8 := Bool.eq_false_iff.mpr c8
    subst c8
    rw [if_neg nt_] at H
    obtain rfl := Option.some.inj H
    try go_wp2
    have n0_ := Aside0.mk (below_drew1 HB.out)
    clear HB
    have HB := n0_
    clear n0_
    have p327 : 0 ≤ (x5_1 : Int) := dz
    have q327 : x5_1 < (l0.length : Int) := dz
    obtain ⟨ad327, e327, hx327_0, hx327_1, hx327_2, hx327_3⟩ := at_ITerm HR0.out x5_1 p327 q327
    have hw327_3 := hx327_3
    have hw327_2 := hx327_2
    have hw327_1 := hx327_1
    have hw327_0 := hx327_0
    cases e327
    replace hx327_0 := xz HB hx327_0
    replace hx327_1 := xz HB hx327_1
    replace hx327_2 := xz HB hx327_2
    replace hx327_3 := xz HB hx327_3
    replace p327 := eq_true p327
    replace q327 := eq_true q327
    have p328 : 0 ≤ (x5_1 : Int) := dz
    have q328 : x5_1 < (l1.length : Int) := dz
    obtain ⟨ad328, e328, hx328_0, hx328_1, hx328_2, hx328_3⟩ := at_ITerm HR1.out x5_1 p328 q328
    have hw328_3 := hx328_3
    have hw328_2 := hx328_2
    have hw328_1 := hx328_1
    have hw328_0 := hx328_0
    cases e328
    replace hx328_0 := xz HB hx328_0
    replace hx328_1 := xz HB hx328_1
    replace hx328_2 := xz HB hx328_2
    replace hx328_3 := xz HB hx328_3
    replace p328 := eq_true p328
    replace q328 := eq_true q328
    refine start_ (n := 10) (S := fun w' => w'.cell? (ad327.add ((x5_1).toNat * 4)) = some (.int .i64 ((rd_ITerm l0 x5_1).f0)) ∧ w'.cell? ⟨(ad327.add ((x5_1).toNat * 4)).block, (ad327.add ((x5_1).toNat * 4)).off + 1, none⟩ = some (.int .i64 ((rd_ITerm l0 x5_1).f1)) ∧ w'.cell? ⟨(ad327.add ((x5_1).toNat * 4)).block, (ad327.add ((x5_1).toNat * 4)).off + 2, none⟩ = some (.int .i64 ((rd_ITerm l0 x5_1).f2)) ∧ w'.cell? ⟨(ad327.add ((x5_1).toNat * 4)).block, (ad327.add ((x5_1).toNat * 4)).off + 3, none⟩ = some (.int .i64 ((rd_ITerm l0 x5_1).f3)) ∧ w'.cell? (ad328.add ((x5_1).toNat * 4)) = some (.int .i64 ((rd_ITerm l1 x5_1).f0)) ∧ w'.cell? ⟨(ad328.add ((x5_1).toNat * 4)).block, (ad328.add ((x5_1).toNat * 4)).off + 1, none⟩ = some (.int .i64 ((rd_ITerm l1 x5_1).f1)) ∧ w'.cell? ⟨(ad328.add ((x5_1).toNat * 4)).block, (ad328.add ((x5_1).toNat * 4)).off + 2, none⟩ = some (.int .i64 ((rd_ITerm l1 x5_1).f2)) ∧ w'.cell? ⟨(ad328.add ((x5_1).toNat * 4)).block, (ad328.add ((x5_1).toNat * 4)).off + 3, none⟩ = some (.int .i64 ((rd_ITerm l1 x5_1).f3))) (ds := []) #[false, false, false, false, false, false, false, false, false, false] (by kernel_rfl) rfl rfl ⟨((HB.out.cell (World.block_lt_of_cell? w _ hw327_0)).trans hw327_0), ((HB.out.cell (World.block_lt_of_cell? w _ hw327_1)).trans hw327_1), ((HB.out.cell (World.block_lt_of_cell? w _ hw327_2)).trans hw327_2), ((HB.out.cell (World.block_lt_of_cell? w _ hw327_3)).trans hw327_3), ((HB.out.cell (World.block_lt_of_cell? w _ hw328_0)).trans hw328_0), ((HB.out.cell (World.block_lt_of_cell? w _ hw328_1)).trans hw328_1), ((HB.out.cell (World.block_lt_of_cell? w _ hw328_2)).trans hw328_2), ((HB.out.cell (World.block_lt_of_cell? w _ hw328_3)).trans hw328_3)⟩ (fun hHeld => ?_); refine with_tabW laws_eqTermS.tab6 laws_eqTermS.bits6 (fun HT_ HW_ => ?_)
    generalize wr.drew = w11 at HB hx327_0 hx327_1 hx327_2 hx327_3 hx328_0 hx328_1 hx328_2 hx328_3 hHeld ⊢
    refine pure_ (i := 0) (N := some 17) (v := ?_) (a' := ?_) #[true, false, false, false, false, false, false, false, false, false] rfl rfl (any_of HT_.out (by kernel_rfl)) (fun _ _ _ h => h) (Or.inl ⟨by rfl, ?_⟩) ?_ ?_
    rotate_left
    ·
     intro w'
     go_simp
     with_reducible rfl
    rotate_left
    ·
     simp only [Act.put, sb_, sc0_, sc1_, i64_w, i32_w]
     rfl
    refine pure_ (i := 1) (N := some 18) (v := ?_) (a' := ?_) #[true, true, false, false, false, false, false, false, false, false] rfl rfl (any_of HT_.out (by kernel_rfl)) (fun _ _ _ h => h) (Or.inl ⟨by rfl, ?_⟩) ?_ ?_
    rotate_left
    ·
     intro w'
     go_simp
     with_reducible rfl
    rotate_left
    ·
     simp only [Act.put, sb_, sc0_, sc1_, i64_w, i32_w]
     rfl
    refine pure_ (i := 2) (N := some 19) (v := ?_) (a' := ?_) #[true, true, true, false, false, false, false, false, false, false] rfl rfl (any_of HT_.out (by kernel_rfl)) (fun _ _ _ h => h) (Or.inl ⟨by rfl, ?_⟩) ?_ ?_
    rotate_left
    ·
     intro w'
     go_simp
     with_reducible rfl
    rotate_left
    ·
     simp only [Act.put, sb_, sc0_, sc1_, i64_w, i32_w]
     rfl
    refine pure_ (i := 4) (N := some 21) (v := ?_) (a' := ?_) #[true, true, true, false, true, false, false, false, false, false] rfl rfl (any_of HT_.out (by kernel_rfl)) (fun _ _ _ h => h) (Or.inl ⟨by rfl, ?_⟩) ?_ ?_
    rotate_left
    ·
     intro w'
     go_simp
     with_reducible rfl
    rotate_left
    ·
     simp only [Act.put, sb_, sc0_, sc1_, i64_w, i32_w]
     rfl
    refine pure_ (i := 5) (N := some 22) (v := ?_) (a' := ?_) #[true, true, true, false, true, true, false, false, false, false] rfl rfl (any_of HT_.out (by kernel_rfl)) (fun _ _ _ h => h) (Or.inl ⟨by rfl, ?_⟩) ?_ ?_
    rotate_left
    ·
     intro w'
     go_simp
     with_reducible rfl
    rotate_left
    ·
     simp only [Act.put, sb_, sc0_, sc1_, i64_w, i32_w]
     rfl
    refine pure_ (i := 6) (N := some 23) (v := ?_) (a' := ?_) #[true, true, true, false, true, true, true, false, false, false] rfl rfl (any_of HT_.out (by kernel_rfl)) (fun _ _ _ h => h) (Or.inl ⟨by rfl, ?_⟩) ?_ ?_
    rotate_left
    ·
     intro w'
     go_simp
     with_reducible rfl
    rotate_left
    ·
     simp only [Act.put, sb_, sc0_, sc1_, i64_w, i32_w]
     rfl
    refine take_ (i := 3) (N := some 20) (v := ?_) (a' := ?_) #[true, true, true, true, true, true, true, false, false, false] rfl rfl (take_ofW HT_.out HW_.out (by kernel_rfl)) (fun _ _ _ h => h) (Or.inl ⟨by rfl, ?_⟩) hHeld ?_ ?_
    rotate_left
    ·
     rintro w' ⟨s0, s1, s2, s3, s4, s5, s6, s7⟩
     go_simp
     with_reducible rfl
    rotate_left
    ·
     simp only [Act.put, sb_, sc0_, sc1_, i64_w, i32_w]
     rfl
    refine take_ (i := 7) (N := some 24) (v := ?_) (a' := ?_) #[true, true, true, true, true, true, true, true, false, false] rfl rfl (take_ofW HT_.out HW_.out (by kernel_rfl)) (fun _ _ _ h => h) (Or.inl ⟨by rfl, ?_⟩) hHeld ?_ ?_
    rotate_left
    ·
     rintro w' ⟨s0, s1, s2, s3, s4, s5, s6, s7⟩
     go_simp
     with_reducible rfl
    rotate_left
    ·
     simp only [Act.put, sb_, sc0_, sc1_, i64_w, i32_w]
     rfl
    refine one_ (i := 8) (N := some 25) #[true, true, true, true, true, true, true, true, true, false] rfl rfl (one_of HT_.out (by kernel_rfl)) (by decide) (fun K hK => ?_)
    refine goes_ Try.func127 (by kernel_rfl) rfl #[.agg #[.int .i64 ((rd_ITerm l0 x5_1).f0), .int .i64 ((rd_ITerm l0 x5_1).f1), .int .i64 ((rd_ITerm l0 x5_1).f2), .int .i64 ((rd_ITerm l0 x5_1).f3)], .agg #[.int .i64 ((rd_ITerm l1 x5_1).f0), .int .i64 ((rd_ITerm l1 x5_1).f1), .int .i64 ((rd_ITerm l1 x5_1).f2), .int .i64 ((rd_ITerm l1 x5_1).f3)]] (by rfl) rfl rfl az ?_
    with_reducible refine (laws_eqTerm.calls ((rd_ITerm l0 x5_1).f0) ((rd_ITerm l0 x5_1).f1) ((rd_ITerm l0 x5_1).f2) ((rd_ITerm l0 x5_1).f3) ((rd_ITerm l1 x5_1).f0) ((rd_ITerm l1 x5_1).f1) ((rd_ITerm l1 x5_1).f2) ((rd_ITerm l1 x5_1).f3) false _ A7.out).mono ?_
    rintro e w12 ⟨rfl, hb⟩
    refine ⟨_, rfl, ?_⟩
    have n0_ := Aside0.mk (below_step (bz HB) hb)
    clear HB
    have HB := n0_
    clear n0_
    (try clear hb)
    (try clear hb2)
    (try clear hk)
    (try clear hi)
    refine hK.out _ _ ⟨((HB.out.cell (World.block_lt_of_cell? w _ hw327_0)).trans hw327_0), ((HB.out.cell (World.block_lt_of_cell? w _ hw327_1)).trans hw327_1), ((HB.out.cell (World.block_lt_of_cell? w _ hw327_2)).trans hw327_2), ((HB.out.cell (World.block_lt_of_cell? w _ hw327_3)).trans hw327_3), ((HB.out.cell (World.block_lt_of_cell? w _ hw328_0)).trans hw328_0), ((HB.out.cell (World.block_lt_of_cell? w _ hw328_1)).trans hw328_1), ((HB.out.cell (World.block_lt_of_cell? w _ hw328_2)).trans hw328_2), ((HB.out.cell (World.block_lt_of_cell? w _ hw328_3)).trans hw328_3)⟩ (fun hHeld => ?_)
    clear hK K
    refine norm_ (a' := ?_) ?_ ?_
    rotate_left
    ·
     show Act.put _ (some 25) _ = _
     simp only [Act.put, sb_, sc0_, sc1_, i64_w, i32_w]
     rfl
    refine pure_ (i := 9) (N := some 26) (v := ?_) (a' := ?_) #[true, true, true, true, true, true, true, true, true, true] rfl rfl (any_of HT_.out (by kernel_rfl)) (fun _ _ _ h => h) (Or.inl ⟨by rfl, ?_⟩) ?_ ?_
    rotate_left
    ·
     intro w'
     go_simp
     with_reducible rfl
    rotate_left
    ·
     simp only [Act.put, sb_, sc0_, sc1_, i64_w, i32_w]
     rfl
    refine done_ (done_of HT_.out (by kernel_rfl)) ?_
    try go_wp2
    go_ret
    exact ⟨rz, bz HB⟩
   subst c8
   rw [if_pos rfl] at H
   have H' := Aside0.mk H
   clear H
   try go_wp2
   have n0_ := Aside0.mk (below_drew1 HB.out)
   clear HB
   have HB := n0_
   clear n0_
   have p327 : 0 ≤ (x5_1 : Int) := dz
   have q327 : x5_1 < (l0.length : Int) := dz
   obtain ⟨ad327, e327, hx327_0, hx327_1, hx327_2, hx327_3⟩ := at_ITerm HR0.out x5_1 p327 q327
   have hw327_3 := hx327_3
   have hw327_2 := hx327_2
   have hw327_1 := hx327_1
   have hw327_0 := hx327_0
   cases e327
   replace hx327_0 := xz HB hx327_0
   replace hx327_1 := xz HB hx327_1
   replace hx327_2 := xz HB hx327_2
   replace hx327_3 := xz HB hx327_3
   replace p327 := eq_true p327
   replace q327 := eq_true q327
   have p328 : 0 ≤ (x5_1 : Int) := dz
   have q328 : x5_1 < (l1.length : Int) := dz
   obtain ⟨ad328, e328, hx328_0, hx328_1, hx328_2, hx328_3⟩ := at_ITerm HR1.out x5_1 p328 q328
   have hw328_3 := hx328_3
   have hw328_2 := hx328_2
   have hw328_1 := hx328_1
   have hw328_0 := hx328_0
   cases e328
   replace hx328_0 := xz HB hx328_0
   replace hx328_1 := xz HB hx328_1
   replace hx328_2 := xz HB hx328_2
   replace hx328_3 := xz HB hx328_3
   replace p328 := eq_true p328
   replace q328 := eq_true q328
   refine start_ (n := 10) (S := fun w' => w'.cell? (ad327.add ((x5_1).toNat * 4)) = some (.int .i64 ((rd_ITerm l0 x5_1).f0)) ∧ w'.cell? ⟨(ad327.add ((x5_1).toNat * 4)).block, (ad327.add ((x5_1).toNat * 4)).off + 1, none⟩ = some (.int .i64 ((rd_ITerm l0 x5_1).f1)) ∧ w'.cell? ⟨(ad327.add ((x5_1).toNat * 4)).block, (ad327.add ((x5_1).toNat * 4)).off + 2, none⟩ = some (.int .i64 ((rd_ITerm l0 x5_1).f2)) ∧ w'.cell? ⟨(ad327.add ((x5_1).toNat * 4)).block, (ad327.add ((x5_1).toNat * 4)).off + 3, none⟩ = some (.int .i64 ((rd_ITerm l0 x5_1).f3)) ∧ w'.cell? (ad328.add ((x5_1).toNat * 4)) = some (.int .i64 ((rd_ITerm l1 x5_1).f0)) ∧ w'.cell? ⟨(ad328.add ((x5_1).toNat * 4)).block, (ad328.add ((x5_1).toNat * 4)).off + 1, none⟩ = some (.int .i64 ((rd_ITerm l1 x5_1).f1)) ∧ w'.cell? ⟨(ad328.add ((x5_1).toNat * 4)).block, (ad328.add ((x5_1).toNat * 4)).off + 2, none⟩ = some (.int .i64 ((rd_ITerm l1 x5_1).f2)) ∧ w'.cell? ⟨(ad328.add ((x5_1).toNat * 4)).block, (ad328.add ((x5_1).toNat * 4)).off + 3, none⟩ = some (.int .i64 ((rd_ITerm l1 x5_1).f3))) (ds := []) #[false, false, false, false, false, false, false, false, false, false] (by kernel_rfl) rfl rfl ⟨((HB.out.cell (World.block_lt_of_cell? w _ hw327_0)).trans hw327_0), ((HB.out.cell (World.block_lt_of_cell? w _ hw327_1)).trans hw327_1), ((HB.out.cell (World.block_lt_of_cell? w _ hw327_2)).trans hw327_2), ((HB.out.cell (World.block_lt_of_cell? w _ hw327_3)).trans hw327_3), ((HB.out.cell (World.block_lt_of_cell? w _ hw328_0)).trans hw328_0), ((HB.out.cell (World.block_lt_of_cell? w _ hw328_1)).trans hw328_1), ((HB.out.cell (World.block_lt_of_cell? w _ hw328_2)).trans hw328_2), ((HB.out.cell (World.block_lt_of_cell? w _ hw328_3)).trans hw328_3)⟩ (fun hHeld => ?_); refine with_tabW laws_eqTermS.tab6 laws_eqTermS.bits6 (fun HT_ HW_ => ?_)
   generalize wr.drew = w9 at HB hx327_0 hx327_1 hx327_2 hx327_3 hx328_0 hx328_1 hx328_2 hx328_3 hHeld ⊢
   refine pure_ (i := 0) (N := some 17) (v := ?_) (a' := ?_) #[true, false, false, false, false, false, false, false, false, false] rfl rfl (any_of HT_.out (by kernel_rfl)) (fun _ _ _ h => h) (Or.inl ⟨by rfl, ?_⟩) ?_ ?_
   rotate_left
   ·
    intro w'
    go_simp
    with_reducible rfl
   rotate_left
   ·
    simp only [Act.put, sb_, sc0_, sc1_, i64_w, i32_w]
    rfl
   refine pure_ (i := 1) (N := some 18) (v := ?_) (a' := ?_) #[true, true, false, false, false, false, false, false, false, false] rfl rfl (any_of HT_.out (by kernel_rfl)) (fun _ _ _ h => h) (Or.inl ⟨by rfl, ?_⟩) ?_ ?_
   rotate_left
   ·
    intro w'
    go_simp
    with_reducible rfl
   rotate_left
   ·
    simp only [Act.put, sb_, sc0_, sc1_, i64_w, i32_w]
    rfl
   refine pure_ (i := 2) (N := some 19) (v := ?_) (a' := ?_) #[true, true, true, false, false, false, false, false, false, false] rfl rfl (any_of HT_.out (by kernel_rfl)) (fun _ _ _ h => h) (Or.inl ⟨by rfl, ?_⟩) ?_ ?_
   rotate_left
   ·
    intro w'
    go_simp
    with_reducible rfl
   rotate_left
   ·
    simp only [Act.put, sb_, sc0_, sc1_, i64_w, i32_w]
    rfl
   refine pure_ (i := 4) (N := some 21) (v := ?_) (a' := ?_) #[true, true, true, false, true, false, false, false, false, false] rfl rfl (any_of HT_.out (by kernel_rfl)) (fun _ _ _ h => h) (Or.inl ⟨by rfl, ?_⟩) ?_ ?_
   rotate_left
   ·
    intro w'
    go_simp
    with_reducible rfl
   rotate_left
   ·
    simp only [Act.put, sb_, sc0_, sc1_, i64_w, i32_w]
    rfl
   refine pure_ (i := 5) (N := some 22) (v := ?_) (a' := ?_) #[true, true, true, false, true, true, false, false, false, false] rfl rfl (any_of HT_.out (by kernel_rfl)) (fun _ _ _ h => h) (Or.inl ⟨by rfl, ?_⟩) ?_ ?_
   rotate_left
   ·
    intro w'
    go_simp
    with_reducible rfl
   rotate_left
   ·
    simp only [Act.put, sb_, sc0_, sc1_, i64_w, i32_w]
    rfl
   refine pure_ (i := 6) (N := some 23) (v := ?_) (a' := ?_) #[true, true, true, false, true, true, true, false, false, false] rfl rfl (any_of HT_.out (by kernel_rfl)) (fun _ _ _ h => h) (Or.inl ⟨by rfl, ?_⟩) ?_ ?_
   rotate_left
   ·
    intro w'
    go_simp
    with_reducible rfl
   rotate_left
   ·
    simp only [Act.put, sb_, sc0_, sc1_, i64_w, i32_w]
    rfl
   refine take_ (i := 3) (N := some 20) (v := ?_) (a' := ?_) #[true, true, true, true, true, true, true, false, false, false] rfl rfl (take_ofW HT_.out HW_.out (by kernel_rfl)) (fun _ _ _ h => h) (Or.inl ⟨by rfl, ?_⟩) hHeld ?_ ?_
   rotate_left
   ·
    rintro w' ⟨s0, s1, s2, s3, s4, s5, s6, s7⟩
    go_simp
    with_reducible rfl
   rotate_left
   ·
    simp only [Act.put, sb_, sc0_, sc1_, i64_w, i32_w]
    rfl
   refine take_ (i := 7) (N := some 24) (v := ?_) (a' := ?_) #[true, true, true, true, true, true, true, true, false, false] rfl rfl (take_ofW HT_.out HW_.out (by kernel_rfl)) (fun _ _ _ h => h) (Or.inl ⟨by rfl, ?_⟩) hHeld ?_ ?_
   rotate_left
   ·
    rintro w' ⟨s0, s1, s2, s3, s4, s5, s6, s7⟩
    go_simp
    with_reducible rfl
   rotate_left
   ·
    simp only [Act.put, sb_, sc0_, sc1_, i64_w, i32_w]
    rfl
   refine one_ (i := 8) (N := some 25) #[true, true, true, true, true, true, true, true, true, false] rfl rfl (one_of HT_.out (by kernel_rfl)) (by decide) (fun K hK => ?_)
   refine goes_ Try.func127 (by kernel_rfl) rfl #[.agg #[.int .i64 ((rd_ITerm l0 x5_1).f0), .int .i64 ((rd_ITerm l0 x5_1).f1), .int .i64 ((rd_ITerm l0 x5_1).f2), .int .i64 ((rd_ITerm l0 x5_1).f3)], .agg #[.int .i64 ((rd_ITerm l1 x5_1).f0), .int .i64 ((rd_ITerm l1 x5_1).f1), .int .i64 ((rd_ITerm l1 x5_1).f2), .int .i64 ((rd_ITerm l1 x5_1).f3)]] (by rfl) rfl rfl az ?_
   with_reducible refine (laws_eqTerm.calls ((rd_ITerm l0 x5_1).f0) ((rd_ITerm l0 x5_1).f1) ((rd_ITerm l0 x5_1).f2) ((rd_ITerm l0 x5_1).f3) ((rd_ITerm l1 x5_1).f0) ((rd_ITerm l1 x5_1).f1) ((rd_ITerm l1 x5_1).f2) ((rd_ITerm l1 x5_1).f3) true _ A7.out).mono ?_
   rintro e w10 ⟨rfl, hb⟩
   refine ⟨_, rfl, ?_⟩
   have n0_ := Aside0.mk (below_step (bz HB) hb)
   clear HB
   have HB := n0_
   clear n0_
   (try clear hb)
   (try clear hb2)
   (try clear hk)
   (try clear hi)
   refine hK.out _ _ ⟨((HB.out.cell (World.block_lt_of_cell? w _ hw327_0)).trans hw327_0), ((HB.out.cell (World.block_lt_of_cell? w _ hw327_1)).trans hw327_1), ((HB.out.cell (World.block_lt_of_cell? w _ hw327_2)).trans hw327_2), ((HB.out.cell (World.block_lt_of_cell? w _ hw327_3)).trans hw327_3), ((HB.out.cell (World.block_lt_of_cell? w _ hw328_0)).trans hw328_0), ((HB.out.cell (World.block_lt_of_cell? w _ hw328_1)).trans hw328_1), ((HB.out.cell (World.block_lt_of_cell? w _ hw328_2)).trans hw328_2), ((HB.out.cell (World.block_lt_of_cell? w _ hw328_3)).trans hw328_3)⟩ (fun hHeld => ?_)
   clear hK K
   refine norm_ (a' := ?_) ?_ ?_
   rotate_left
   ·
    show Act.put _ (some 25) _ = _
    simp only [Act.put, sb_, sc0_, sc1_, i64_w, i32_w]
    rfl
   refine pure_ (i := 9) (N := some 26) (v := ?_) (a' := ?_) #[true, true, true, true, true, true, true, true, true, true] rfl rfl (any_of HT_.out (by kernel_rfl)) (fun _ _ _ h => h) (Or.inl ⟨by rfl, ?_⟩) ?_ ?_
   rotate_left
   ·
    intro w'
    go_simp
    with_reducible rfl
   rotate_left
   ·
    simp only [Act.put, sb_, sc0_, sc1_, i64_w, i32_w]
    rfl
   refine done_ (done_of HT_.out (by kernel_rfl)) ?_
   try go_wp2
   go_roundg k1
   case measure => have := HK1.out; omega
   case rel => exact ⟨(wrap64 (x5_1 + 1)), rq, H', ⟨by have := HK1.out; omega⟩, ⟨bz HB⟩⟩
end Go.Proofs.Ytoofhjflfpccdaa.PA
end
section
namespace Go.Proofs.Ytoofhjflfpccdaa.PA
open Go.RowKit Go.Proofs.YtoofhjflfpccdaaW.PrintWords Go.Proofs.YtoofhjflfpccdaaW.PrintLast Go.Proofs.YtoofhjflfpccdaaW.PrintMore
attribute [local go_sem] max2_int min2_int max_two min_two max_three min_three max_four min_four   -- for this text's walks alone
set_option linter.unusedVariables false
set_option linter.unusedSimpArgs false
def laws_eqTermSS.T6 : Bool × List (List Nat × List Nat) := (true, [([], []), ([], []), ([0, 1], [0, 1]), ([2], [2]), ([], []), ([], []), ([4, 5], [4, 5]), ([6], [6]), ([3, 7], [3, 7]), ([8], [8])])
def laws_eqTermSS.B6 : List Nat := [0, 0, 3, 7, 0, 0, 48, 112, 255, 511]
theorem laws_eqTermSS.tab6 : rtab .any (opsOf Try.f118 6) = laws_eqTermSS.T6 := by kernel_rfl
theorem laws_eqTermSS.bits6 : waitsOk laws_eqTermSS.T6.2 laws_eqTermSS.B6 = true := by kernel_rfl
set_option maxHeartbeats 8000000 in
set_option maxRecDepth 100000 in
theorem laws_eqTermSS.calls (k : Nat) (A0 : Option Addr) (c0 : Nat) (l0 : List (List (ITerm))) (A1 : Option Addr) (c1 : Nat) (l1 : List (List (ITerm))) (r : Bool) (w : World) (hr0 : Kd.C (Kd.slice 107 k107) w A0 l0.length l0) (hc0 : l0.length ≤ c0) (hr1 : Kd.C (Kd.slice 107 k107) w A1 l1.length l1) (hc1 : l1.length ≤ c1) (h : laws_eqTermSS.f k l0 l1 = some r) :
  Calls Try.prog 118 #[.slice A0 l0.length c0, .slice A1 l1.length c1] w fun e w' => e = .returned (.bool r) ∧ Below w.heap.size w w' := by
 have HR0 := Aside0.mk hr0
 have HC0 := Aside0.mk hc0
 clear hr0 hc0
 have HR1 := Aside0.mk hr1
 have HC1 := Aside0.mk hc1
 clear hr1 hc1
 have HB := Aside0.mk (Below.refl w.heap.size w)
 have H : (if (l0.length : Int) = (l1.length : Int) then (laws_eqTermSS.l0 k l0 l1 0) else (some false)) = some r := h
 clear h
 by_cases c3 : (l0.length : Int) = (l1.length : Int)
 case neg =>
  rw [if_neg c3] at H
  have c3b0 : ((l0.length : Int) == (l1.length : Int)) = false := beq_eq_false_iff_ne.mpr c3
  have c3b1 : ((l0.length : Int) != (l1.length : Int)) = true := bne_iff_ne.mpr c3
  have c3b2 : (l0.length == l1.length) = false := by first | simpa using c3 | (simp at c3 ⊢; omega)
  obtain rfl := Option.some.inj H
  go_enter Try.func118, Try.ntmps118
  go_wp2
  go_ret
  exact ⟨rz, bz HB⟩
 rw [if_pos c3] at H
 have c3b0 : ((l0.length : Int) == (l1.length : Int)) = true := beq_iff_eq.mpr c3
 have c3b1 : ((l0.length : Int) != (l1.length : Int)) = false := bne_eq_false_iff_eq.mpr c3
 have c3b2 : (l0.length == l1.length) = true := by first | simpa using c3 | (simp at c3 ⊢; omega)
 clear c3
 have H' := Aside0.mk H
 clear H
 go_enter Try.func118, Try.ntmps118
 go_wp2
 go_loopg [5] k (fun kq v5 w' => ∃ (x5_1 : Int), v5 = .int .i64 x5_1 ∧ Aside0 (laws_eqTermSS.l0 kq l0 l1 x5_1 = some r) ∧ Aside0 (kq ≤ k) ∧ Aside0 (Below w.heap.size w w'))
 case atStart => exact ⟨(0), rq, H', ⟨Nat.le_refl _⟩, ⟨bz HB⟩⟩
 case round =>
  clear H'
  try clear c1
  try clear p2
  try clear c3
  try clear c3b0
  try clear c3b1
  try clear c3b2
  obtain ⟨x5_1, rfl, HA, HK1, HB⟩ := hrel
  cases gk with
  | zero => exact absurd HA.out (by simp [laws_eqTermSS.l0])
  | succ k1 =>
   have H := HA.out
   clear HA
   simp only [laws_eqTermSS.l0] at H
   by_cases c4 : x5_1 < (l0.length : Int)
   case neg =>
    rw [if_neg c4] at H
    have c4b0 : decide (x5_1 < (l0.length : Int)) = false := decide_eq_false c4
    clear c4
    obtain rfl := Option.some.inj H
    go_wp2
    go_ret
    exact ⟨rz, bz HB⟩
   rw [if_pos c4] at H
   have c4b0 : decide (x5_1 < (l0.length : Int)) = true := decide_eq_true c4
   clear c4
   by_cases c5 : 0 ≤ x5_1
   case neg =>
    rw [if_neg c5] at H
    exact absurd H (by simp)
   rw [if_pos c5] at H
   have c5b0 : decide (0 ≤ x5_1) = true := decide_eq_true c5
   clear c5
   by_cases c6 : x5_1 < (l1.length : Int)
   case neg =>
    rw [if_neg c6] at H
    exact absurd H (by simp)
   rw [if_pos c6] at H
   have c6b0 : decide (x5_1 < (l1.length : Int)) = true := decide_eq_true c6
   clear c6
   replace H := Option.bind_eq_some_iff.mp H
   obtain ⟨t332, A70, H⟩ := H
   have A7 := Aside0.mk A70
   clear A70
   by_cases c8 : t332 = true
   case neg =>
    replace c8 := Bool.eq_false_iff.mpr c8
    subst c8
    rw [if_neg nt_] at H
    obtain rfl := Option.some.inj H
    try go_wp2
    have n0_ := Aside0.mk (below_drew1 HB.out)
    clear HB
    have HB := n0_
    clear n0_
    have p330 : 0 ≤ (x5_1 : Int) := dz
    have q330 : x5_1 < (l0.length : Int) := dz
    obtain ⟨ad330, A330_0, c330_0, e330, hx330_0, hl330_0, hi330_0⟩ := at_LITerm HR0.out x5_1 p330 q330
    have hw330_0 := hx330_0
    cases e330
    replace hx330_0 := xz HB hx330_0
    have HR330_0 := Aside0.mk hi330_0
    have HC330_0 := Aside0.mk hl330_0
    clear hi330_0 hl330_0
    replace p330 := eq_true p330
    replace q330 := eq_true q330
    have p331 : 0 ≤ (x5_1 : Int) := dz
    have q331 : x5_1 < (l1.length : Int) := dz
    obtain ⟨ad331, A331_0, c331_0, e331, hx331_0, hl331_0, hi331_0⟩ := at_LITerm HR1.out x5_1 p331 q331
    have hw331_0 := hx331_0
    cases e331
    replace hx331_0 := xz HB hx331_0
    have HR331_0 := Aside0.mk hi331_0
    have HC331_0 := Aside0.mk hl331_0
    clear hi331_0 hl331_0
    replace p331 := eq_true p331
    replace q331 := eq_true q331
    refine start_ (n := 10) (S := fun w' => w'.cell? (ad330.add (x5_1).toNat) = some (.slice A330_0 (rd_LITerm l0 x5_1).length c330_0) ∧ w'.cell? (ad331.add (x5_1).toNat) = some (.slice A331_0 (rd_LITerm l1 x5_1).length c331_0)) (ds := []) #[false, false, false, false, false, false, false, false, false, false] (by kernel_rfl) rfl rfl ⟨((HB.out.cell (World.block_lt_of_cell? w _ hw330_0)).trans hw330_0), ((HB.out.cell (World.block_lt_of_cell? w _ hw331_0)).trans hw331_0)⟩ (fun hHeld => ?_); refine with_tabW laws_eqTermSS.tab6 laws_eqTermSS.bits6 (fun HT_ HW_ => ?_)
    generalize wr.drew = w11 at HB HR330_0 HR331_0 hx330_0 hx331_0 hHeld ⊢
    refine pure_ (i := 0) (N := some 17) (v := ?_) (a' := ?_) #[true, false, false, false, false, false, false, false, false, false] rfl rfl (any_of HT_.out (by kernel_rfl)) (fun _ _ _ h => h) (Or.inl ⟨by rfl, ?_⟩) ?_ ?_
    rotate_left
    ·
     intro w'
     go_simp
     with_reducible rfl
    rotate_left
    ·
     simp only [Act.put, sb_, sc0_, sc1_, i64_w, i32_w]
     rfl
    refine pure_ (i := 1) (N := some 18) (v := ?_) (a' := ?_) #[true, true, false, false, false, false, false, false, false, false] rfl rfl (any_of HT_.out (by kernel_rfl)) (fun _ _ _ h => h) (Or.inl ⟨by rfl, ?_⟩) ?_ ?_
    rotate_left
    ·
     intro w'
     go_simp
     with_reducible rfl
    rotate_left
    ·
     simp only [Act.put, sb_, sc0_, sc1_, i64_w, i32_w]
     rfl
    refine pure_ (i := 2) (N := some 19) (v := ?_) (a' := ?_) #[true, true, true, false, false, false, false, false, false, false] rfl rfl (any_of HT_.out (by kernel_rfl)) (fun _ _ _ h => h) (Or.inl ⟨by rfl, ?_⟩) ?_ ?_
    rotate_left
    ·
     intro w'
     go_simp
     with_reducible rfl
    rotate_left
    ·
     simp only [Act.put, sb_, sc0_, sc1_, i64_w, i32_w]
     rfl
    refine pure_ (i := 4) (N := some 21) (v := ?_) (a' := ?_) #[true, true, true, false, true, false, false, false, false, false] rfl rfl (any_of HT_.out (by kernel_rfl)) (fun _ _ _ h => h) (Or.inl ⟨by rfl, ?_⟩) ?_ ?_
    rotate_left
    ·
     intro w'
     go_simp
     with_reducible rfl
    rotate_left
    ·
     simp only [Act.put, sb_, sc0_, sc1_, i64_w, i32_w]
     rfl
    refine pure_ (i := 5) (N := some 22) (v := ?_) (a' := ?_) #[true, true, true, false, true, true, false, false, false, false] rfl rfl (any_of HT_.out (by kernel_rfl)) (fun _ _ _ h => h) (Or.inl ⟨by rfl, ?_⟩) ?_ ?_
    rotate_left
    ·
     intro w'
     go_simp
     with_reducible rfl
    rotate_left
    ·
     simp only [Act.put, sb_, sc0_, sc1_, i64_w, i32_w]
     rfl
    refine pure_ (i := 6) (N := some 23) (v := ?_) (a' := ?_) #[true, true, true, false, true, true, true, false, false, false] rfl rfl (any_of HT_.out (by kernel_rfl)) (fun _ _ _ h => h) (Or.inl ⟨by rfl, ?_⟩) ?_ ?_
    rotate_left
    ·
     intro w'
     go_simp
     with_reducible rfl
    rotate_left
    ·
     simp only [Act.put, sb_, sc0_, sc1_, i64_w, i32_w]
     rfl
    refine take_ (i := 3) (N := some 20) (v := ?_) (a' := ?_) #[true, true, true, true, true, true, true, false, false, false] rfl rfl (take_ofW HT_.out HW_.out (by kernel_rfl)) (fun _ _ _ h => h) (Or.inl ⟨by rfl, ?_⟩) hHeld ?_ ?_
    rotate_left
    ·
     rintro w' ⟨s0, s1⟩
     go_simp
     with_reducible rfl
    rotate_left
    ·
     simp only [Act.put, sb_, sc0_, sc1_, i64_w, i32_w]
     rfl
    refine take_ (i := 7) (N := some 24) (v := ?_) (a' := ?_) #[true, true, true, true, true, true, true, true, false, false] rfl rfl (take_ofW HT_.out HW_.out (by kernel_rfl)) (fun _ _ _ h => h) (Or.inl ⟨by rfl, ?_⟩) hHeld ?_ ?_
    rotate_left
    ·
     rintro w' ⟨s0, s1⟩
     go_simp
     with_reducible rfl
    rotate_left
    ·
     simp only [Act.put, sb_, sc0_, sc1_, i64_w, i32_w]
     rfl
    refine one_ (i := 8) (N := some 25) #[true, true, true, true, true, true, true, true, true, false] rfl rfl (one_of HT_.out (by kernel_rfl)) (by decide) (fun K hK => ?_)
    refine goes_ Try.func117 (by kernel_rfl) rfl #[.slice A330_0 (rd_LITerm l0 x5_1).length c330_0, .slice A331_0 (rd_LITerm l1 x5_1).length c331_0] (by rfl) rfl rfl az ?_
    with_reducible refine (laws_eqTermS.calls k1 _ _ (rd_LITerm l0 x5_1) _ _ (rd_LITerm l1 x5_1) false _ ?side1 ?side2 ?side3 ?side4 A7.out).mono ?_
    (case side1 => exact cz HR330_0 HB)
    (case side2 => exact HC330_0.out)
    (case side3 => exact cz HR331_0 HB)
    (case side4 => exact HC331_0.out)
    rintro e w12 ⟨rfl, hb⟩
    refine ⟨_, rfl, ?_⟩
    have n0_ := Aside0.mk (below_step (bz HB) hb)
    clear HB
    have HB := n0_
    clear n0_
    (try clear hb)
    (try clear hb2)
    (try clear hk)
    (try clear hi)
    refine hK.out _ _ ⟨((HB.out.cell (World.block_lt_of_cell? w _ hw330_0)).trans hw330_0), ((HB.out.cell (World.block_lt_of_cell? w _ hw331_0)).trans hw331_0)⟩ (fun hHeld => ?_)
    clear hK K
    refine norm_ (a' := ?_) ?_ ?_
    rotate_left
    ·
     show Act.put _ (some 25) _ = _
     simp only [Act.put, sb_, sc0_, sc1_, i64_w, i32_w]
     rfl
    refine pure_ (i := 9) (N := some 26) (v := ?_) (a' := ?_) #[true, true, true, true, true, true, true, true, true, true] rfl rfl (any_of HT_.out (by kernel_rfl)) (fun _ _ _ h => h) (Or.inl ⟨by rfl, ?_⟩) ?_ ?_
    rotate_left
    ·
     intro w'
     go_simp
     with_reducible rfl
    rotate_left
    ·
     simp only [Act.put, sb_, sc0_, sc1_, i64_w, i32_w]
     rfl
    refine done_ (done_of HT_.out (by kernel_rfl)) ?_
    try go_wp2
    go_ret
    exact ⟨rz, bz HB⟩
   subst c8
   rw [if_pos rfl] at H
   have H' := Aside0.mk H
   clear H
   try go_wp2
   have n0_ := Aside0.mk (below_drew1 HB.out)
   clear HB
   have HB := n0_
   clear n0_
   have p330 : 0 ≤ (x5_1 : Int) := dz
   have q330 : x5_1 < (l0.length : Int) := dz
   obtain ⟨ad330, A330_0, c330_0, e330, hx330_0, hl330_0, hi330_0⟩ := at_LITerm HR0.out x5_1 p330 q330
   have hw330_0 := hx330_0
   cases e330
   replace hx330_0 := xz HB hx330_0
   have HR330_0 := Aside0.mk hi330_0
   have HC330_0 := Aside0.mk hl330_0
   clear hi330_0 hl330_0
   replace p330 := eq_true p330
   replace q330 := eq_true q330
   have p331 : 0 ≤ (x5_1 : Int) := dz
   have q331 : x5_1 < (l1.length : Int) := dz
   obtain ⟨ad331, A331_0, c331_0, e331, hx331_0, hl331_0, hi331_0⟩ := at_LITerm HR1.out x5_1 p331 q331
   have hw331_0 := hx331_0
   cases e331
   replace hx331_0 := xz HB hx331_0
   have HR331_0 := Aside0.mk hi331_0
   have HC331_0 := Aside0.mk hl331_0
   clear hi331_0 hl331_0
   replace p331 := eq_true p331
   replace q331 := eq_true q331
   refine start_ (n := 10) (S := fun w' => w'.cell? (ad330.add (x5_1).toNat) = some (.slice A330_0 (rd_LITerm l0 x5_1).length c330_0) ∧ w'.cell? (ad331.add (x5_1).toNat) = some (.slice A331_0 (rd_LITerm l1 x5_1).length c331_0)) (ds := []) #[false, false, false, false, false, false, false, false, false, false] (by kernel_rfl) rfl rfl ⟨((HB.out.cell (World.block_lt_of_cell? w _ hw330_0)).trans hw330_0), ((HB.out.cell (World.block_lt_of_cell? w _ hw331_0)).trans hw331_0)⟩ (fun hHeld => ?_); refine with_tabW laws_eqTermSS.tab6 laws_eqTermSS.bits6 (fun HT_ HW_ => ?_)
   generalize wr.drew = w9 at HB HR330_0 HR331_0 hx330_0 hx331_0 hHeld ⊢
   refine pure_ (i := 0) (N := some 17) (v := ?_) (a' := ?_) #[true, false, false, false, false, false, false, false, false, false] rfl rfl (any_of HT_.out (by kernel_rfl)) (fun _ _ _ h => h) (Or.inl ⟨by rfl, ?_⟩) ?_ ?_
   rotate_left
   ·
    intro w'
    go_simp
    with_reducible rfl
   rotate_left
   ·
    simp only [Act.put, sb_, sc0_, sc1_, i64_w, i32_w]
    rfl
   refine pure_ (i := 1) (N := some 18) (v := ?_) (a' := ?_) #[true, true, false, false, false, false, false, false, false, false] rfl rfl (any_of HT_.out (by kernel_rfl)) (fun _ _ _ h => h) (Or.inl ⟨by rfl, ?_⟩) ?_ ?_
   rotate_left
   ·
    intro w'
    go_simp
    with_reducible rfl
   rotate_left
   ·
    simp only [Act.put, sb_, sc0_, sc1_, i64_w, i32_w]
    rfl
   refine pure_ (i := 2) (N := some 19) (v := ?_) (a' := ?_) #[true, true, true, false, false, false, false, false, false, false] rfl rfl (any_of HT_.out (by kernel_rfl)) (fun _ _ _ h => h) (Or.inl ⟨by rfl, ?_⟩) ?_ ?_
   rotate_left
   ·
    intro w'
    go_simp
    with_reducible rfl
   rotate_left
   ·
    simp only [Act.put, sb_, sc0_, sc1_, i64_w, i32_w]
    rfl
   refine pure_ (i := 4) (N := some 21) (v := ?_) (a' := ?_) #[true, true, true, false, true, false, false, false, false, false] rfl rfl (any_of HT_.out (by kernel_rfl)) (fun _ _ _ h => h) (Or.inl ⟨by rfl, ?_⟩) ?_ ?_
   rotate_left
   ·
    intro w'
    go_simp
    with_reducible rfl
   rotate_left
   ·
    simp only [Act.put, sb_, sc0_, sc1_, i64_w, i32_w]
    rfl
   refine pure_ (i := 5) (N := some 22) (v := ?_) (a' := ?_) #[true, true, true, false, true, true, false, false, false, false] rfl rfl (any_of HT_.out (by kernel_rfl)) (fun _ _ _ h => h) (Or.inl ⟨by rfl, ?_⟩) ?_ ?_
   rotate_left
   ·
    intro w'
    go_simp
    with_reducible rfl
   rotate_left
   ·
    simp only [Act.put, sb_, sc0_, sc1_, i64_w, i32_w]
    rfl
   refine pure_ (i := 6) (N := some 23) (v := ?_) (a' := ?_) #[true, true, true, false, true, true, true, false, false, false] rfl rfl (any_of HT_.out (by kernel_rfl)) (fun _ _ _ h => h) (Or.inl ⟨by rfl, ?_⟩) ?_ ?_
   rotate_left
   ·
    intro w'
    go_simp
    with_reducible rfl
   rotate_left
   ·
    simp only [Act.put, sb_, sc0_, sc1_, i64_w, i32_w]
    rfl
   refine take_ (i := 3) (N := some 20) (v := ?_) (a' := ?_) #[true, true, true, true, true, true, true, false, false, false] rfl rfl (take_ofW HT_.out HW_.out (by kernel_rfl)) (fun _ _ _ h => h) (Or.inl ⟨by rfl, ?_⟩) hHeld ?_ ?_
   rotate_left
   ·
    rintro w' ⟨s0, s1⟩
    go_simp
    with_reducible rfl
   rotate_left
   ·
    simp only [Act.put, sb_, sc0_, sc1_, i64_w, i32_w]
    rfl
   refine take_ (i := 7) (N := some 24) (v := ?_) (a' := ?_) #[true, true, true, true, true, true, true, true, false, false] rfl rfl (take_ofW HT_.out HW_.out (by kernel_rfl)) (fun _ _ _ h => h) (Or.inl ⟨by rfl, ?_⟩) hHeld ?_ ?_
   rotate_left
   ·
    rintro w' ⟨s0, s1⟩
    go_simp
    with_reducible rfl
   rotate_left
   ·
    simp only [Act.put, sb_, sc0_, sc1_, i64_w, i32_w]
    rfl
   refine one_ (i := 8) (N := some 25) #[true, true, true, true, true, true, true, true, true, false] rfl rfl (one_of HT_.out (by kernel_rfl)) (by decide) (fun K hK => ?_)
   refine goes_ Try.func117 (by kernel_rfl) rfl #[.slice A330_0 (rd_LITerm l0 x5_1).length c330_0, .slice A331_0 (rd_LITerm l1 x5_1).length c331_0] (by rfl) rfl rfl az ?_
   with_reducible refine (laws_eqTermS.calls k1 _ _ (rd_LITerm l0 x5_1) _ _ (rd_LITerm l1 x5_1) true _ ?side1 ?side2 ?side3 ?side4 A7.out).mono ?_
   (case side1 => exact cz HR330_0 HB)
   (case side2 => exact HC330_0.out)
   (case side3 => exact cz HR331_0 HB)
   (case side4 => exact HC331_0.out)
   rintro e w10 ⟨rfl, hb⟩
   refine ⟨_, rfl, ?_⟩
   have n0_ := Aside0.mk (below_step (bz HB) hb)
   clear HB
   have HB := n0_
   clear n0_
   (try clear hb)
   (try clear hb2)
   (try clear hk)
   (try clear hi)
   refine hK.out _ _ ⟨((HB.out.cell (World.block_lt_of_cell? w _ hw330_0)).trans hw330_0), ((HB.out.cell (World.block_lt_of_cell? w _ hw331_0)).trans hw331_0)⟩ (fun hHeld => ?_)
   clear hK K
   refine norm_ (a' := ?_) ?_ ?_
   rotate_left
   ·
    show Act.put _ (some 25) _ = _
    simp only [Act.put, sb_, sc0_, sc1_, i64_w, i32_w]
    rfl
   refine pure_ (i := 9) (N := some 26) (v := ?_) (a' := ?_) #[true, true, true, true, true, true, true, true, true, true] rfl rfl (any_of HT_.out (by kernel_rfl)) (fun _ _ _ h => h) (Or.inl ⟨by rfl, ?_⟩) ?_ ?_
   rotate_left
   ·
    intro w'
    go_simp
    with_reducible rfl
   rotate_left
   ·
    simp only [Act.put, sb_, sc0_, sc1_, i64_w, i32_w]
    rfl
   refine done_ (done_of HT_.out (by kernel_rfl)) ?_
   try go_wp2
   go_roundg k1
   case measure => have := HK1.out; omega
   case rel => exact ⟨(wrap64 (x5_1 + 1)), rq, H', ⟨by have := HK1.out; omega⟩, ⟨bz HB⟩⟩
end Go.Proofs.Ytoofhjflfpccdaa.PA
end
section
namespace Go.Proofs.Ytoofhjflfpccdaa.PA
open Go.RowKit Go.Proofs.YtoofhjflfpccdaaW.PrintWords Go.Proofs.YtoofhjflfpccdaaW.PrintLast Go.Proofs.YtoofhjflfpccdaaW.PrintMore
attribute [local go_sem] max2_int min2_int max_two min_two max_three min_three max_four min_four   -- for this text's walks alone
set_option linter.unusedVariables false
set_option linter.unusedSimpArgs false
set_option maxHeartbeats 8000000 in
set_option maxRecDepth 100000 in
theorem laws_eqRule.calls (k : Nat) (A0_0 : Option Addr) (c0_0 : Nat) (l0_0 : List (ITerm)) (A0_1 : Option Addr) (c0_1 : Nat) (l0_1 : List Int) (A0_2 : Option Addr) (c0_2 : Nat) (l0_2 : List (List (ITerm))) (A1_0 : Option Addr) (c1_0 : Nat) (l1_0 : List (ITerm)) (A1_1 : Option Addr) (c1_1 : Nat) (l1_1 : List Int) (A1_2 : Option Addr) (c1_2 : Nat) (l1_2 : List (List (ITerm))) (r : Bool) (w : World) (hr0_0 : Kd.C k107 w A0_0 l0_0.length l0_0) (hc0_0 : l0_0.length ≤ c0_0) (hr0_1 : Kd.C (Kd.int .i64) w A0_1 l0_1.length l0_1) (hc0_1 : l0_1.length ≤ c0_1) (hr0_2 : Kd.C (Kd.slice 107 k107) w A0_2 l0_2.length l0_2) (hc0_2 : l0_2.length ≤ c0_2) (hr1_0 : Kd.C k107 w A1_0 l1_0.length l1_0) (hc1_0 : l1_0.length ≤ c1_0) (hr1_1 : Kd.C (Kd.int .i64) w A1_1 l1_1.length l1_1) (hc1_1 : l1_1.length ≤ c1_1) (hr1_2 : Kd.C (Kd.slice 107 k107) w A1_2 l1_2.length l1_2) (hc1_2 : l1_2.length ≤ c1_2) (h : laws_eqRule.f k l0_0 l0_1 l0_2 l1_0 l1_1 l1_2 = some r) :
  Calls Try.prog 93 #[.agg #[.slice A0_0 l0_0.length c0_0, .slice A0_1 l0_1.length c0_1, .slice A0_2 l0_2.length c0_2], .agg #[.slice A1_0 l1_0.length c1_0, .slice A1_1 l1_1.length c1_1, .slice A1_2 l1_2.length c1_2]] w fun e w' => e = .returned (.bool r) ∧ Below w.heap.size w w' := by
 have hu81 := Try.underlying81
 have HR0_0 := Aside0.mk hr0_0
 have HC0_0 := Aside0.mk hc0_0
 clear hr0_0 hc0_0
 have HR0_1 := Aside0.mk hr0_1
 have HC0_1 := Aside0.mk hc0_1
 clear hr0_1 hc0_1
 have HR0_2 := Aside0.mk hr0_2
 have HC0_2 := Aside0.mk hc0_2
 clear hr0_2 hc0_2
 have HR1_0 := Aside0.mk hr1_0
 have HC1_0 := Aside0.mk hc1_0
 clear hr1_0 hc1_0
 have HR1_1 := Aside0.mk hr1_1
 have HC1_1 := Aside0.mk hc1_1
 clear hr1_1 hc1_1
 have HR1_2 := Aside0.mk hr1_2
 have HC1_2 := Aside0.mk hc1_2
 clear hr1_2 hc1_2
 have HB := Aside0.mk (Below.refl w.heap.size w)
 have H : ((laws_eqTermS.f k l0_0 l1_0).bind fun t335 => (if t335 = true then ((laws_eqIntS.f k l0_1 l1_1).bind fun t336 => (if t336 = true then ((laws_eqTermSS.f k l0_2 l1_2).bind fun t337 => (if t337 = true then (some true) else (some false))) else (some false))) else (some false))) = some r := h
 clear h
 replace H := Option.bind_eq_some_iff.mp H
 obtain ⟨t335, A30, H⟩ := H
 have A3 := Aside0.mk A30
 clear A30
 by_cases c4 : t335 = true
 case neg =>
  replace c4 := Bool.eq_false_iff.mpr c4
  subst c4
  rw [if_neg nt_] at H
  obtain rfl := Option.some.inj H
  go_enter Try.func93, Try.ntmps93
  go_wp2_with (first | ((with_reducible refine gate_dst (N := 2) rfl ?_); refine box_event ?hg (N := 2) ?hd (cs := #[.slice A0_0 l0_0.length c0_0, .slice A0_1 l0_1.length c0_1, .slice A0_2 l0_2.length c0_2]) (t := 81) ?hr ?_; (case hd => rfl); (case hg => rfl); (case hr => first | (go_simp; done) | (go_simp; rfl)); intro gb333 hg w35 hbox hb; have n0_ := Aside0.mk (below_step (bz HB) hb); have n1_ := Aside0.mk (hbox); have n2_ := Aside0.mk ((by rw [hg]; exact (below_size (bz HB)) : w.heap.size ≤ gb333)); have n3_ := Aside0.mk ((by rw [hg]; exact (below_size (bz HB)) : w.heap.size ≤ gb333)); clear HB; have HB := n0_; have BK333 := n1_; have GW333 := n2_; have GE333 := n3_; clear n0_ n1_ n2_ n3_; clear hb hbox hg) | ((with_reducible refine gate_dst (N := 3) rfl ?_); refine box_event ?hg (N := 3) ?hd (cs := #[.slice A1_0 l1_0.length c1_0, .slice A1_1 l1_1.length c1_1, .slice A1_2 l1_2.length c1_2]) (t := 81) ?hr ?_; (case hd => rfl); (case hg => rfl); (case hr => first | (go_simp; done) | (go_simp; rfl)); intro gb334 hg w36 hbox hb; have n0_ := Aside0.mk (blk_below (g := gb333) (o := .cells #[.slice A0_0 l0_0.length c0_0, .slice A0_1 l0_1.length c0_1, .slice A0_2 l0_2.length c0_2] 81 (0, 0)) (kz BK333) hb); have n1_ := Aside0.mk (below_step (bz1 HB GE333) hb); have n2_ := Aside0.mk (hbox); have n3_ := Aside0.mk ((by rw [hg]; exact (below_size (bz1 HB GE333)) : w.heap.size ≤ gb334)); have n4_ := Aside0.mk ((by rw [hg]; exact (below_size (bz1 HB GE333)) : w.heap.size ≤ gb334)); have n5_ := Aside0.mk ((by rw [hg]; exact Nat.ne_of_lt (blk_lt (g := gb333) (o := .cells #[.slice A0_0 l0_0.length c0_0, .slice A0_1 l0_1.length c0_1, .slice A0_2 l0_2.length c0_2] 81 (0, 0)) (kz BK333)) : gb333 ≠ gb334)); have n6_ := Aside0.mk ((by rw [hg]; exact Nat.ne_of_gt (blk_lt (g := gb333) (o := .cells #[.slice A0_0 l0_0.length c0_0, .slice A0_1 l0_1.length c0_1, .slice A0_2 l0_2.length c0_2] 81 (0, 0)) (kz BK333)) : gb334 ≠ gb333)); clear BK333; clear HB; have BK333 := n0_; have HB := n1_; have BK334 := n2_; have GW334 := n3_; have GE334 := n4_; have NB333_334 := n5_; have NB334_333 := n6_; clear n0_ n1_ n2_ n3_ n4_ n5_ n6_; clear hb hbox hg; have hnb37 := NB333_334.out; have hnc37 := NB334_333.out; have hcz38_0 : w36.cell? ⟨gb333, 0, none⟩ = some (.slice A0_0 l0_0.length c0_0) := (blk_cell BK333.out 0).trans rfl; have hcz38_1 : w36.cell? ⟨gb333, 1, none⟩ = some (.slice A0_1 l0_1.length c0_1) := (blk_cell BK333.out 1).trans rfl; have hcz38_2 : w36.cell? ⟨gb333, 2, none⟩ = some (.slice A0_2 l0_2.length c0_2) := (blk_cell BK333.out 2).trans rfl; have hfz38_0 := blk_frozen BK333.out 0; have hfz38_1 := blk_frozen BK333.out 1; have hfz38_2 := blk_frozen BK333.out 2; have hcz39_0 : w36.cell? ⟨gb334, 0, none⟩ = some (.slice A1_0 l1_0.length c1_0) := (blk_cell BK334.out 0).trans rfl; have hcz39_1 : w36.cell? ⟨gb334, 1, none⟩ = some (.slice A1_1 l1_1.length c1_1) := (blk_cell BK334.out 1).trans rfl; have hcz39_2 : w36.cell? ⟨gb334, 2, none⟩ = some (.slice A1_2 l1_2.length c1_2) := (blk_cell BK334.out 2).trans rfl; have hfz39_0 := blk_frozen BK334.out 0; have hfz39_1 := blk_frozen BK334.out 1; have hfz39_2 := blk_frozen BK334.out 2) | ((with_reducible refine gate_callee (f := 117) rfl ?_); refine goesL_ (some 9) rfl rfl Try.func117 (by kernel_rfl) rfl #[.slice A0_0 l0_0.length c0_0, .slice A1_0 l1_0.length c1_0] rfl az ?_; (with_reducible refine (laws_eqTermS.calls k _ _ l0_0 _ _ l1_0 false _ ?side1 HC0_0.out ?side3 HC1_0.out A3.out).mono ?_); (case side1 => exact cz HR0_0 HB); (case side3 => exact cz HR1_0 HB); rintro e w40 ⟨rfl, hb⟩; refine ⟨_, rfl, ?_⟩; replace BK333 := Aside0.mk (blk_below (g := gb333) (o := .cells #[.slice A0_0 l0_0.length c0_0, .slice A0_1 l0_1.length c0_1, .slice A0_2 l0_2.length c0_2] 81 (0, 0)) (kz BK333) hb); replace BK334 := Aside0.mk (blk_below (g := gb334) (o := .cells #[.slice A1_0 l1_0.length c1_0, .slice A1_1 l1_1.length c1_1, .slice A1_2 l1_2.length c1_2] 81 (0, 0)) (kz BK334) hb); replace HB := Aside0.mk (below_step (bz2 HB GE333 GE334) hb); clear hb))
  go_ret
  exact ⟨rz, bz2 HB GE333 GE334⟩
 subst c4
 rw [if_pos rfl] at H
 replace H := Option.bind_eq_some_iff.mp H
 obtain ⟨t336, A50, H⟩ := H
 have A5 := Aside0.mk A50
 clear A50
 by_cases c6 : t336 = true
 case neg =>
  replace c6 := Bool.eq_false_iff.mpr c6
  subst c6
  rw [if_neg nt_] at H
  obtain rfl := Option.some.inj H
  go_enter Try.func93, Try.ntmps93
  go_wp2_with (first | ((with_reducible refine gate_dst (N := 2) rfl ?_); refine box_event ?hg (N := 2) ?hd (cs := #[.slice A0_0 l0_0.length c0_0, .slice A0_1 l0_1.length c0_1, .slice A0_2 l0_2.length c0_2]) (t := 81) ?hr ?_; (case hd => rfl); (case hg => rfl); (case hr => first | (go_simp; done) | (go_simp; rfl)); intro gb333 hg w27 hbox hb; have n0_ := Aside0.mk (below_step (bz HB) hb); have n1_ := Aside0.mk (hbox); have n2_ := Aside0.mk ((by rw [hg]; exact (below_size (bz HB)) : w.heap.size ≤ gb333)); have n3_ := Aside0.mk ((by rw [hg]; exact (below_size (bz HB)) : w.heap.size ≤ gb333)); clear HB; have HB := n0_; have BK333 := n1_; have GW333 := n2_; have GE333 := n3_; clear n0_ n1_ n2_ n3_; clear hb hbox hg) | ((with_reducible refine gate_dst (N := 3) rfl ?_); refine box_event ?hg (N := 3) ?hd (cs := #[.slice A1_0 l1_0.length c1_0, .slice A1_1 l1_1.length c1_1, .slice A1_2 l1_2.length c1_2]) (t := 81) ?hr ?_; (case hd => rfl); (case hg => rfl); (case hr => first | (go_simp; done) | (go_simp; rfl)); intro gb334 hg w28 hbox hb; have n0_ := Aside0.mk (blk_below (g := gb333) (o := .cells #[.slice A0_0 l0_0.length c0_0, .slice A0_1 l0_1.length c0_1, .slice A0_2 l0_2.length c0_2] 81 (0, 0)) (kz BK333) hb); have n1_ := Aside0.mk (below_step (bz1 HB GE333) hb); have n2_ := Aside0.mk (hbox); have n3_ := Aside0.mk ((by rw [hg]; exact (below_size (bz1 HB GE333)) : w.heap.size ≤ gb334)); have n4_ := Aside0.mk ((by rw [hg]; exact (below_size (bz1 HB GE333)) : w.heap.size ≤ gb334)); have n5_ := Aside0.mk ((by rw [hg]; exact Nat.ne_of_lt (blk_lt (g := gb333) (o := .cells #[.slice A0_0 l0_0.length c0_0, .slice A0_1 l0_1.length c0_1, .slice A0_2 l0_2.length c0_2] 81 (0, 0)) (kz BK333)) : gb333 ≠ gb334)); have n6_ := Aside0.mk ((by rw [hg]; exact Nat.ne_of_gt (blk_lt (g := gb333) (o := .cells #[.slice A0_0 l0_0.length c0_0, .slice A0_1 l0_1.length c0_1, .slice A0_2 l0_2.length c0_2] 81 (0, 0)) (kz BK333)) : gb334 ≠ gb333)); clear BK333; clear HB; have BK333 := n0_; have HB := n1_; have BK334 := n2_; have GW334 := n3_; have GE334 := n4_; have NB333_334 := n5_; have NB334_333 := n6_; clear n0_ n1_ n2_ n3_ n4_ n5_ n6_; clear hb hbox hg; have hnb29 := NB333_334.out; have hnc29 := NB334_333.out; have hcz30_0 : w28.cell? ⟨gb333, 0, none⟩ = some (.slice A0_0 l0_0.length c0_0) := (blk_cell BK333.out 0).trans rfl; have hcz30_1 : w28.cell? ⟨gb333, 1, none⟩ = some (.slice A0_1 l0_1.length c0_1) := (blk_cell BK333.out 1).trans rfl; have hcz30_2 : w28.cell? ⟨gb333, 2, none⟩ = some (.slice A0_2 l0_2.length c0_2) := (blk_cell BK333.out 2).trans rfl; have hfz30_0 := blk_frozen BK333.out 0; have hfz30_1 := blk_frozen BK333.out 1; have hfz30_2 := blk_frozen BK333.out 2; have hcz31_0 : w28.cell? ⟨gb334, 0, none⟩ = some (.slice A1_0 l1_0.length c1_0) := (blk_cell BK334.out 0).trans rfl; have hcz31_1 : w28.cell? ⟨gb334, 1, none⟩ = some (.slice A1_1 l1_1.length c1_1) := (blk_cell BK334.out 1).trans rfl; have hcz31_2 : w28.cell? ⟨gb334, 2, none⟩ = some (.slice A1_2 l1_2.length c1_2) := (blk_cell BK334.out 2).trans rfl; have hfz31_0 := blk_frozen BK334.out 0; have hfz31_1 := blk_frozen BK334.out 1; have hfz31_2 := blk_frozen BK334.out 2) | ((with_reducible refine gate_callee (f := 117) rfl ?_); refine goesL_ (some 9) rfl rfl Try.func117 (by kernel_rfl) rfl #[.slice A0_0 l0_0.length c0_0, .slice A1_0 l1_0.length c1_0] rfl az ?_; (with_reducible refine (laws_eqTermS.calls k _ _ l0_0 _ _ l1_0 true _ ?side1 HC0_0.out ?side3 HC1_0.out A3.out).mono ?_); (case side1 => exact cz HR0_0 HB); (case side3 => exact cz HR1_0 HB); rintro e w32 ⟨rfl, hb⟩; refine ⟨_, rfl, ?_⟩; replace BK333 := Aside0.mk (blk_below (g := gb333) (o := .cells #[.slice A0_0 l0_0.length c0_0, .slice A0_1 l0_1.length c0_1, .slice A0_2 l0_2.length c0_2] 81 (0, 0)) (kz BK333) hb); replace BK334 := Aside0.mk (blk_below (g := gb334) (o := .cells #[.slice A1_0 l1_0.length c1_0, .slice A1_1 l1_1.length c1_1, .slice A1_2 l1_2.length c1_2] 81 (0, 0)) (kz BK334) hb); replace HB := Aside0.mk (below_step (bz2 HB GE333 GE334) hb); clear hb; have hcz33_0 : w32.cell? ⟨gb333, 0, none⟩ = some (.slice A0_0 l0_0.length c0_0) := (blk_cell BK333.out 0).trans rfl; have hcz33_1 : w32.cell? ⟨gb333, 1, none⟩ = some (.slice A0_1 l0_1.length c0_1) := (blk_cell BK333.out 1).trans rfl; have hcz33_2 : w32.cell? ⟨gb333, 2, none⟩ = some (.slice A0_2 l0_2.length c0_2) := (blk_cell BK333.out 2).trans rfl; have hfz33_0 := blk_frozen BK333.out 0; have hfz33_1 := blk_frozen BK333.out 1; have hfz33_2 := blk_frozen BK333.out 2; have hcz34_0 : w32.cell? ⟨gb334, 0, none⟩ = some (.slice A1_0 l1_0.length c1_0) := (blk_cell BK334.out 0).trans rfl; have hcz34_1 : w32.cell? ⟨gb334, 1, none⟩ = some (.slice A1_1 l1_1.length c1_1) := (blk_cell BK334.out 1).trans rfl; have hcz34_2 : w32.cell? ⟨gb334, 2, none⟩ = some (.slice A1_2 l1_2.length c1_2) := (blk_cell BK334.out 2).trans rfl; have hfz34_0 := blk_frozen BK334.out 0; have hfz34_1 := blk_frozen BK334.out 1; have hfz34_2 := blk_frozen BK334.out 2) | ((with_reducible refine gate_callee (f := 22) rfl ?_); refine goesL_ (some 15) rfl rfl Try.func22 (by kernel_rfl) rfl #[.slice A0_1 l0_1.length c0_1, .slice A1_1 l1_1.length c1_1] rfl az ?_; (with_reducible refine (laws_eqIntS.calls k _ _ l0_1 _ _ l1_1 false _ ?side1 HC0_1.out ?side3 HC1_1.out A5.out).mono ?_); (case side1 => exact cz HR0_1 HB); (case side3 => exact cz HR1_1 HB); rintro e w' ⟨rfl, ⟨nd, rfl⟩⟩; refine ⟨_, rfl, ?_⟩))
  go_ret
  exact ⟨rz, bz2 HB GE333 GE334⟩
 subst c6
 rw [if_pos rfl] at H
 replace H := Option.bind_eq_some_iff.mp H
 obtain ⟨t337, A70, H⟩ := H
 have A7 := Aside0.mk A70
 clear A70
 by_cases c8 : t337 = true
 case pos =>
  subst c8
  rw [if_pos rfl] at H
  obtain rfl := Option.some.inj H
  go_enter Try.func93, Try.ntmps93
  go_wp2_with (first | ((with_reducible refine gate_dst (N := 2) rfl ?_); refine box_event ?hg (N := 2) ?hd (cs := #[.slice A0_0 l0_0.length c0_0, .slice A0_1 l0_1.length c0_1, .slice A0_2 l0_2.length c0_2]) (t := 81) ?hr ?_; (case hd => rfl); (case hg => rfl); (case hr => first | (go_simp; done) | (go_simp; rfl)); intro gb333 hg w9 hbox hb; have n0_ := Aside0.mk (below_step (bz HB) hb); have n1_ := Aside0.mk (hbox); have n2_ := Aside0.mk ((by rw [hg]; exact (below_size (bz HB)) : w.heap.size ≤ gb333)); have n3_ := Aside0.mk ((by rw [hg]; exact (below_size (bz HB)) : w.heap.size ≤ gb333)); clear HB; have HB := n0_; have BK333 := n1_; have GW333 := n2_; have GE333 := n3_; clear n0_ n1_ n2_ n3_; clear hb hbox hg) | ((with_reducible refine gate_dst (N := 3) rfl ?_); refine box_event ?hg (N := 3) ?hd (cs := #[.slice A1_0 l1_0.length c1_0, .slice A1_1 l1_1.length c1_1, .slice A1_2 l1_2.length c1_2]) (t := 81) ?hr ?_; (case hd => rfl); (case hg => rfl); (case hr => first | (go_simp; done) | (go_simp; rfl)); intro gb334 hg w10 hbox hb; have n0_ := Aside0.mk (blk_below (g := gb333) (o := .cells #[.slice A0_0 l0_0.length c0_0, .slice A0_1 l0_1.length c0_1, .slice A0_2 l0_2.length c0_2] 81 (0, 0)) (kz BK333) hb); have n1_ := Aside0.mk (below_step (bz1 HB GE333) hb); have n2_ := Aside0.mk (hbox); have n3_ := Aside0.mk ((by rw [hg]; exact (below_size (bz1 HB GE333)) : w.heap.size ≤ gb334)); have n4_ := Aside0.mk ((by rw [hg]; exact (below_size (bz1 HB GE333)) : w.heap.size ≤ gb334)); have n5_ := Aside0.mk ((by rw [hg]; exact Nat.ne_of_lt (blk_lt (g := gb333) (o := .cells #[.slice A0_0 l0_0.length c0_0, .slice A0_1 l0_1.length c0_1, .slice A0_2 l0_2.length c0_2] 81 (0, 0)) (kz BK333)) : gb333 ≠ gb334)); have n6_ := Aside0.mk ((by rw [hg]; exact Nat.ne_of_gt (blk_lt (g := gb333) (o := .cells #[.slice A0_0 l0_0.length c0_0, .slice A0_1 l0_1.length c0_1, .slice A0_2 l0_2.length c0_2] 81 (0, 0)) (kz BK333)) : gb334 ≠ gb333)); clear BK333; clear HB; have BK333 := n0_; have HB := n1_; have BK334 := n2_; have GW334 := n3_; have GE334 := n4_; have NB333_334 := n5_; have NB334_333 := n6_; clear n0_ n1_ n2_ n3_ n4_ n5_ n6_; clear hb hbox hg; have hnb11 := NB333_334.out; have hnc11 := NB334_333.out; have hcz12_0 : w10.cell? ⟨gb333, 0, none⟩ = some (.slice A0_0 l0_0.length c0_0) := (blk_cell BK333.out 0).trans rfl; have hcz12_1 : w10.cell? ⟨gb333, 1, none⟩ = some (.slice A0_1 l0_1.length c0_1) := (blk_cell BK333.out 1).trans rfl; have hcz12_2 : w10.cell? ⟨gb333, 2, none⟩ = some (.slice A0_2 l0_2.length c0_2) := (blk_cell BK333.out 2).trans rfl; have hfz12_0 := blk_frozen BK333.out 0; have hfz12_1 := blk_frozen BK333.out 1; have hfz12_2 := blk_frozen BK333.out 2; have hcz13_0 : w10.cell? ⟨gb334, 0, none⟩ = some (.slice A1_0 l1_0.length c1_0) := (blk_cell BK334.out 0).trans rfl; have hcz13_1 : w10.cell? ⟨gb334, 1, none⟩ = some (.slice A1_1 l1_1.length c1_1) := (blk_cell BK334.out 1).trans rfl; have hcz13_2 : w10.cell? ⟨gb334, 2, none⟩ = some (.slice A1_2 l1_2.length c1_2) := (blk_cell BK334.out 2).trans rfl; have hfz13_0 := blk_frozen BK334.out 0; have hfz13_1 := blk_frozen BK334.out 1; have hfz13_2 := blk_frozen BK334.out 2) | ((with_reducible refine gate_callee (f := 117) rfl ?_); refine goesL_ (some 9) rfl rfl Try.func117 (by kernel_rfl) rfl #[.slice A0_0 l0_0.length c0_0, .slice A1_0 l1_0.length c1_0] rfl az ?_; (with_reducible refine (laws_eqTermS.calls k _ _ l0_0 _ _ l1_0 true _ ?side1 HC0_0.out ?side3 HC1_0.out A3.out).mono ?_); (case side1 => exact cz HR0_0 HB); (case side3 => exact cz HR1_0 HB); rintro e w14 ⟨rfl, hb⟩; refine ⟨_, rfl, ?_⟩; replace BK333 := Aside0.mk (blk_below (g := gb333) (o := .cells #[.slice A0_0 l0_0.length c0_0, .slice A0_1 l0_1.length c0_1, .slice A0_2 l0_2.length c0_2] 81 (0, 0)) (kz BK333) hb); replace BK334 := Aside0.mk (blk_below (g := gb334) (o := .cells #[.slice A1_0 l1_0.length c1_0, .slice A1_1 l1_1.length c1_1, .slice A1_2 l1_2.length c1_2] 81 (0, 0)) (kz BK334) hb); replace HB := Aside0.mk (below_step (bz2 HB GE333 GE334) hb); clear hb; have hcz15_0 : w14.cell? ⟨gb333, 0, none⟩ = some (.slice A0_0 l0_0.length c0_0) := (blk_cell BK333.out 0).trans rfl; have hcz15_1 : w14.cell? ⟨gb333, 1, none⟩ = some (.slice A0_1 l0_1.length c0_1) := (blk_cell BK333.out 1).trans rfl; have hcz15_2 : w14.cell? ⟨gb333, 2, none⟩ = some (.slice A0_2 l0_2.length c0_2) := (blk_cell BK333.out 2).trans rfl; have hfz15_0 := blk_frozen BK333.out 0; have hfz15_1 := blk_frozen BK333.out 1; have hfz15_2 := blk_frozen BK333.out 2; have hcz16_0 : w14.cell? ⟨gb334, 0, none⟩ = some (.slice A1_0 l1_0.length c1_0) := (blk_cell BK334.out 0).trans rfl; have hcz16_1 : w14.cell? ⟨gb334, 1, none⟩ = some (.slice A1_1 l1_1.length c1_1) := (blk_cell BK334.out 1).trans rfl; have hcz16_2 : w14.cell? ⟨gb334, 2, none⟩ = some (.slice A1_2 l1_2.length c1_2) := (blk_cell BK334.out 2).trans rfl; have hfz16_0 := blk_frozen BK334.out 0; have hfz16_1 := blk_frozen BK334.out 1; have hfz16_2 := blk_frozen BK334.out 2) | ((with_reducible refine gate_callee (f := 22) rfl ?_); refine goesL_ (some 15) rfl rfl Try.func22 (by kernel_rfl) rfl #[.slice A0_1 l0_1.length c0_1, .slice A1_1 l1_1.length c1_1] rfl az ?_; (with_reducible refine (laws_eqIntS.calls k _ _ l0_1 _ _ l1_1 true _ ?side1 HC0_1.out ?side3 HC1_1.out A5.out).mono ?_); (case side1 => exact cz HR0_1 HB); (case side3 => exact cz HR1_1 HB); rintro e w' ⟨rfl, ⟨nd, rfl⟩⟩; refine ⟨_, rfl, ?_⟩) | ((with_reducible refine gate_callee (f := 118) rfl ?_); refine goesL_ (some 21) rfl rfl Try.func118 (by kernel_rfl) rfl #[.slice A0_2 l0_2.length c0_2, .slice A1_2 l1_2.length c1_2] rfl az ?_; (with_reducible refine (laws_eqTermSS.calls k _ _ l0_2 _ _ l1_2 true _ ?side1 HC0_2.out ?side3 HC1_2.out A7.out).mono ?_); (case side1 => repeat (first | exact (Kd.C_below HR0_2.out (bz2 HB GE333 GE334)) | (with_reducible refine Kd.C_alloc ?_ _) | (with_reducible refine Kd.C_drewN ?_ _) | (with_reducible refine Kd.C_drew ?_))); (case side3 => repeat (first | exact (Kd.C_below HR1_2.out (bz2 HB GE333 GE334)) | (with_reducible refine Kd.C_alloc ?_ _) | (with_reducible refine Kd.C_drewN ?_ _) | (with_reducible refine Kd.C_drew ?_))); rintro e w17 ⟨rfl, hb⟩; refine ⟨_, rfl, ?_⟩; replace BK333 := Aside0.mk (blk_below (g := gb333) (o := .cells #[.slice A0_0 l0_0.length c0_0, .slice A0_1 l0_1.length c0_1, .slice A0_2 l0_2.length c0_2] 81 (0, 0)) (kz BK333) hb); replace BK334 := Aside0.mk (blk_below (g := gb334) (o := .cells #[.slice A1_0 l1_0.length c1_0, .slice A1_1 l1_1.length c1_1, .slice A1_2 l1_2.length c1_2] 81 (0, 0)) (kz BK334) hb); replace HB := Aside0.mk (below_step (bz2 HB GE333 GE334) hb); clear hb))
  go_ret
  exact ⟨rz, bz2 HB GE333 GE334⟩
 replace c8 := Bool.eq_false_iff.mpr c8
 subst c8
 rw [if_neg nt_] at H
 obtain rfl := Option.some.inj H
 go_enter Try.func93, Try.ntmps93
 go_wp2_with (first | ((with_reducible refine gate_dst (N := 2) rfl ?_); refine box_event ?hg (N := 2) ?hd (cs := #[.slice A0_0 l0_0.length c0_0, .slice A0_1 l0_1.length c0_1, .slice A0_2 l0_2.length c0_2]) (t := 81) ?hr ?_; (case hd => rfl); (case hg => rfl); (case hr => first | (go_simp; done) | (go_simp; rfl)); intro gb333 hg w18 hbox hb; have n0_ := Aside0.mk (below_step (bz HB) hb); have n1_ := Aside0.mk (hbox); have n2_ := Aside0.mk ((by rw [hg]; exact (below_size (bz HB)) : w.heap.size ≤ gb333)); have n3_ := Aside0.mk ((by rw [hg]; exact (below_size (bz HB)) : w.heap.size ≤ gb333)); clear HB; have HB := n0_; have BK333 := n1_; have GW333 := n2_; have GE333 := n3_; clear n0_ n1_ n2_ n3_; clear hb hbox hg) | ((with_reducible refine gate_dst (N := 3) rfl ?_); refine box_event ?hg (N := 3) ?hd (cs := #[.slice A1_0 l1_0.length c1_0, .slice A1_1 l1_1.length c1_1, .slice A1_2 l1_2.length c1_2]) (t := 81) ?hr ?_; (case hd => rfl); (case hg => rfl); (case hr => first | (go_simp; done) | (go_simp; rfl)); intro gb334 hg w19 hbox hb; have n0_ := Aside0.mk (blk_below (g := gb333) (o := .cells #[.slice A0_0 l0_0.length c0_0, .slice A0_1 l0_1.length c0_1, .slice A0_2 l0_2.length c0_2] 81 (0, 0)) (kz BK333) hb); have n1_ := Aside0.mk (below_step (bz1 HB GE333) hb); have n2_ := Aside0.mk (hbox); have n3_ := Aside0.mk ((by rw [hg]; exact (below_size (bz1 HB GE333)) : w.heap.size ≤ gb334)); have n4_ := Aside0.mk ((by rw [hg]; exact (below_size (bz1 HB GE333)) : w.heap.size ≤ gb334)); have n5_ := Aside0.mk ((by rw [hg]; exact Nat.ne_of_lt (blk_lt (g := gb333) (o := .cells #[.slice A0_0 l0_0.length c0_0, .slice A0_1 l0_1.length c0_1, .slice A0_2 l0_2.length c0_2] 81 (0, 0)) (kz BK333)) : gb333 ≠ gb334)); have n6_ := Aside0.mk ((by rw [hg]; exact Nat.ne_of_gt (blk_lt (g := gb333) (o := .cells #[.slice A0_0 l0_0.length c0_0, .slice A0_1 l0_1.length c0_1, .slice A0_2 l0_2.length c0_2] 81 (0, 0)) (kz BK333)) : gb334 ≠ gb333)); clear BK333; clear HB; have BK333 := n0_; have HB := n1_; have BK334 := n2_; have GW334 := n3_; have GE334 := n4_; have NB333_334 := n5_; have NB334_333 := n6_; clear n0_ n1_ n2_ n3_ n4_ n5_ n6_; clear hb hbox hg; have hnb20 := NB333_334.out; have hnc20 := NB334_333.out; have hcz21_0 : w19.cell? ⟨gb333, 0, none⟩ = some (.slice A0_0 l0_0.length c0_0) := (blk_cell BK333.out 0).trans rfl; have hcz21_1 : w19.cell? ⟨gb333, 1, none⟩ = some (.slice A0_1 l0_1.length c0_1) := (blk_cell BK333.out 1).trans rfl; have hcz21_2 : w19.cell? ⟨gb333, 2, none⟩ = some (.slice A0_2 l0_2.length c0_2) := (blk_cell BK333.out 2).trans rfl; have hfz21_0 := blk_frozen BK333.out 0; have hfz21_1 := blk_frozen BK333.out 1; have hfz21_2 := blk_frozen BK333.out 2; have hcz22_0 : w19.cell? ⟨gb334, 0, none⟩ = some (.slice A1_0 l1_0.length c1_0) := (blk_cell BK334.out 0).trans rfl; have hcz22_1 : w19.cell? ⟨gb334, 1, none⟩ = some (.slice A1_1 l1_1.length c1_1) := (blk_cell BK334.out 1).trans rfl; have hcz22_2 : w19.cell? ⟨gb334, 2, none⟩ = some (.slice A1_2 l1_2.length c1_2) := (blk_cell BK334.out 2).trans rfl; have hfz22_0 := blk_frozen BK334.out 0; have hfz22_1 := blk_frozen BK334.out 1; have hfz22_2 := blk_frozen BK334.out 2) | ((with_reducible refine gate_callee (f := 117) rfl ?_); refine goesL_ (some 9) rfl rfl Try.func117 (by kernel_rfl) rfl #[.slice A0_0 l0_0.length c0_0, .slice A1_0 l1_0.length c1_0] rfl az ?_; (with_reducible refine (laws_eqTermS.calls k _ _ l0_0 _ _ l1_0 true _ ?side1 HC0_0.out ?side3 HC1_0.out A3.out).mono ?_); (case side1 => exact cz HR0_0 HB); (case side3 => exact cz HR1_0 HB); rintro e w23 ⟨rfl, hb⟩; refine ⟨_, rfl, ?_⟩; replace BK333 := Aside0.mk (blk_below (g := gb333) (o := .cells #[.slice A0_0 l0_0.length c0_0, .slice A0_1 l0_1.length c0_1, .slice A0_2 l0_2.length c0_2] 81 (0, 0)) (kz BK333) hb); replace BK334 := Aside0.mk (blk_below (g := gb334) (o := .cells #[.slice A1_0 l1_0.length c1_0, .slice A1_1 l1_1.length c1_1, .slice A1_2 l1_2.length c1_2] 81 (0, 0)) (kz BK334) hb); replace HB := Aside0.mk (below_step (bz2 HB GE333 GE334) hb); clear hb; have hcz24_0 : w23.cell? ⟨gb333, 0, none⟩ = some (.slice A0_0 l0_0.length c0_0) := (blk_cell BK333.out 0).trans rfl; have hcz24_1 : w23.cell? ⟨gb333, 1, none⟩ = some (.slice A0_1 l0_1.length c0_1) := (blk_cell BK333.out 1).trans rfl; have hcz24_2 : w23.cell? ⟨gb333, 2, none⟩ = some (.slice A0_2 l0_2.length c0_2) := (blk_cell BK333.out 2).trans rfl; have hfz24_0 := blk_frozen BK333.out 0; have hfz24_1 := blk_frozen BK333.out 1; have hfz24_2 := blk_frozen BK333.out 2; have hcz25_0 : w23.cell? ⟨gb334, 0, none⟩ = some (.slice A1_0 l1_0.length c1_0) := (blk_cell BK334.out 0).trans rfl; have hcz25_1 : w23.cell? ⟨gb334, 1, none⟩ = some (.slice A1_1 l1_1.length c1_1) := (blk_cell BK334.out 1).trans rfl; have hcz25_2 : w23.cell? ⟨gb334, 2, none⟩ = some (.slice A1_2 l1_2.length c1_2) := (blk_cell BK334.out 2).trans rfl; have hfz25_0 := blk_frozen BK334.out 0; have hfz25_1 := blk_frozen BK334.out 1; have hfz25_2 := blk_frozen BK334.out 2) | ((with_reducible refine gate_callee (f := 22) rfl ?_); refine goesL_ (some 15) rfl rfl Try.func22 (by kernel_rfl) rfl #[.slice A0_1 l0_1.length c0_1, .slice A1_1 l1_1.length c1_1] rfl az ?_; (with_reducible refine (laws_eqIntS.calls k _ _ l0_1 _ _ l1_1 true _ ?side1 HC0_1.out ?side3 HC1_1.out A5.out).mono ?_); (case side1 => exact cz HR0_1 HB); (case side3 => exact cz HR1_1 HB); rintro e w' ⟨rfl, ⟨nd, rfl⟩⟩; refine ⟨_, rfl, ?_⟩) | ((with_reducible refine gate_callee (f := 118) rfl ?_); refine goesL_ (some 21) rfl rfl Try.func118 (by kernel_rfl) rfl #[.slice A0_2 l0_2.length c0_2, .slice A1_2 l1_2.length c1_2] rfl az ?_; (with_reducible refine (laws_eqTermSS.calls k _ _ l0_2 _ _ l1_2 false _ ?side1 HC0_2.out ?side3 HC1_2.out A7.out).mono ?_); (case side1 => repeat (first | exact (Kd.C_below HR0_2.out (bz2 HB GE333 GE334)) | (with_reducible refine Kd.C_alloc ?_ _) | (with_reducible refine Kd.C_drewN ?_ _) | (with_reducible refine Kd.C_drew ?_))); (case side3 => repeat (first | exact (Kd.C_below HR1_2.out (bz2 HB GE333 GE334)) | (with_reducible refine Kd.C_alloc ?_ _) | (with_reducible refine Kd.C_drewN ?_ _) | (with_reducible refine Kd.C_drew ?_))); rintro e w26 ⟨rfl, hb⟩; refine ⟨_, rfl, ?_⟩; replace BK333 := Aside0.mk (blk_below (g := gb333) (o := .cells #[.slice A0_0 l0_0.length c0_0, .slice A0_1 l0_1.length c0_1, .slice A0_2 l0_2.length c0_2] 81 (0, 0)) (kz BK333) hb); replace BK334 := Aside0.mk (blk_below (g := gb334) (o := .cells #[.slice A1_0 l1_0.length c1_0, .slice A1_1 l1_1.length c1_1, .slice A1_2 l1_2.length c1_2] 81 (0, 0)) (kz BK334) hb); replace HB := Aside0.mk (below_step (bz2 HB GE333 GE334) hb); clear hb))
 go_ret
 exact ⟨rz, bz2 HB GE333 GE334⟩
end Go.Proofs.Ytoofhjflfpccdaa.PA
end
